/- I27: ShBC ShBD ShBE ShQB ShQCA. -/
import Derived.Test.YtnddllipjippnaaGreatDoorI25
import Derived.Test.YtnddllipjippnaaGreatDoorI21
import Derived.Test.YtnddllipjippnaaGreatDoorI26
set_option maxRecDepth 100000
set_option maxHeartbeats 8000000
namespace Go.Proofs.YtnddllipjippnaaGreatDoor
open Go.RowKit Kl Go.Sort
def FX(l:List Pt):List Value:=flat (Ag l)
theorem AaW(l:List Pt)(d:Pt):FX (l ++ [d])=FX l ++ [S (R d.x),S (R d.y)]:=pN l d
theorem dR(W:World)(a b:Value)(t:TypeId):∀(j:Nat) (u:Value),[a,b][j]?=some u→(W.alloc (.cells #[a,b] t)).cell? ((⟨W.heap.size,0,none⟩:Addr).add j)=some u:=by
 intro j u hu;rw [Addr.add_lit,Nat.zero_add];refine Aa (Asz W (.cells #[a,b] t)) ?_;rw [←Array.getElem?_toList];exact hu
def dA:Code:=Code.region 2 #[{dst:=some 5,op:=Op.alloc 24,type:=0,pos:= "iter.go:51",after:=#[],guard:=none},{dst:=none,op:=Op.store 24 (Operand.tmp 5) (Operand.tmp 7),type:=0,pos:= "iter.go:51",after:=#[{on:=0,ground:=Ground.data},{on:=0,ground:=Ground.phase}],guard:=none}] false
def dC:Code:=Code.block 1 (Code.region 3 #[{dst:=some 8,op:=Op.load 31 (Operand.tmp 2),type:=31,pos:= "iter.go:52",after:=#[],guard:=none},{dst:=some 9,op:=Op.load 24 (Operand.tmp 5),type:=24,pos:= "iter.go:52",after:=#[],guard:=none},{dst:=some 10,op:=Op.buildSlice 31 1 #[(0,Operand.tmp 9)],type:=31,pos:= "iter.go:52",after:=#[{on:=1,ground:=Ground.data}],guard:=none},{dst:=some 11,op:=Op.call {callee:=Callee.builtin Builtin.append,args:=#[Operand.tmp 8,Operand.tmp 10],argTypes:=#[31,31]},type:=31,pos:= "iter.go:52",after:=#[{on:=0,ground:=Ground.data},{on:=2,ground:=Ground.data}],guard:=none},{dst:=none,op:=Op.store 31 (Operand.tmp 2) (Operand.tmp 11),type:=0,pos:= "iter.go:52",after:=#[{on:=3,ground:=Ground.data},{on:=3,ground:=Ground.chain},{on:=0,ground:=Ground.phase},{on:=1,ground:=Ground.phase},{on:=2,ground:=Ground.phase},{on:=3,ground:=Ground.phase}],guard:=none}] false)
def J8(fn:FuncId)(sv:Value)(Bs D:Nat)(st:LoopState)(pend:Option Code):Loop:=
 {state:=st,pending:=pend,fn,tmps:=#[.slice none 0 0,sv,.pointer (some ⟨Bs,0,none⟩),undef,.slice none 0 0,undef,sv,undef,undef,undef,undef,undef,undef],params:=#[7],assign:=dA,body:=dC,defers:=D}
structure Sy(w0:World)(fn:FuncId)(sv:Value)(Bs l D:Nat)(ss:List Pt)(W:World):Prop where
 box:∃v,W.heap[Bs]?=some (.cells #[v] 31 (0,0))/\W.ownsRow w0.heap.size 24 2 v ss.length (FX ss)
 L:W.heap[l]?=some (.loop (J8 fn sv Bs D .ready none))
 K:W.heap[D]?=some (.deferred (some []))
 below:Below w0.heap.size w0 W
theorem uQ(w0:World)(fn:FuncId)(sv:Value)(Bs l D B:Nat)(hB:w0.heap.size<=B):AbidesFrom B (Sy w0 fn sv Bs l D):=fun s W W' row h hg hrow=>by
 have hrow':∀r,row=some r→∃o:Obj,W.heap[r]?=some o/\o.isWalk=true:=fun r e=>(hrow r e).2;obtain⟨v,hv,hr⟩:=h.box
 exact⟨⟨v,(grownBy_keeps hg hrow' hv rfl).trans hv,ownsRow_abides hr hg hrow'⟩,(grownBy_keeps hg hrow' h.L rfl).trans h.L,(grownBy_keeps hg hrow' h.K rfl).trans h.K,
  h.below.grown hg h.below.size (fun k e=>AsA hB (hrow k e).1)⟩
theorem Aff (F : Fence) (m : Nat) (w0 : World) (fn : FuncId) (hfn : F.fn fn) (sv : Value) (Bs l D : Nat) (hBl : Bs ≠ l) (hDl : D ≠ l) (hDB : D ≠ Bs) (h0B : w0.heap.size ≤ Bs) (h0l : w0.heap.size ≤ l)
    (N : Nat) (hN : N ≤ 200000) (ss : List Pt) (x : Pt) (W : World) (h : Sy w0 fn sv Bs l D ss W) (hlen : ss.length < N) :
    YieldAt F m Tryz.prog l #[Af x] W fun e W' => e = .returned (.bool true) ∧ Sy w0 fn sv Bs l D (ss ++ [x]) W' ∧ KeepsWalks W W' := by
  have hne : 31 ≠ 24 := by decide
  obtain ⟨i0, hi, hz0, hz1, hz2⟩ := info_parts Tryz.infoPt
  obtain ⟨v, hv, hrow⟩ := h.box
  refine ⟨fn, #[.slice none 0 0, sv, .pointer (some ⟨Bs, 0, none⟩), undef, .slice none 0 0, undef, sv, Af x, undef, undef, undef, undef, undef], dA, dC, by simpa [J8] using run_yield (P := Tryz.prog) (args := #[Af x]) h.L rfl, roundIn_of_wpIn hfn ?_⟩
  have hka : KeepsWalks W (W.alloc (.cells #[S (R x.x), S (R x.y)] 24)) := KeepsWalks.alloc _ _
  have ha := uQ w0 fn sv Bs l D W.heap.size h.below.size ss W _ none h (Hm ((Ab.refl W).alloc (.cells #[S (R x.x), S (R x.y)] 24)) none) (fun r e => by cases e)
  have DL := Asz W (.cells #[S (R x.x), S (R x.y)] 24)
  have UL : l < W.heap.size := (Array.getElem?_eq_some_iff.1 h.L).1
  unfold dA
  unfold Af
  gi_wp2_with (rw [Oper.semAt_eq _ _ _ (fun c h => by cases h)]; go_simp; try go_bits)
  obtain ⟨bv, D1⟩ := Asw W.heap.size
  rw [← D1] at DL UL ⊢
  unfold S at ha DL hka
  clear D1 h hv hrow
  generalize iM : W.alloc (.cells #[.string ⟨(R x.x).toArray⟩, .string ⟨(R x.y).toArray⟩] 24) = Wa at *
  clear iM
  obtain ⟨v, hv, hrow⟩ := ha.box
  have hl : l < Wa.heap.size := (Array.getElem?_eq_some_iff.1 ha.L).1
  have hbr := run_beginRound (P := Tryz.prog) ha.L rfl
  obtain ⟨W2, hW2⟩ : ∃ W2, Wa.putObj l (.loop { J8 fn sv Bs D .ready none with state := .busy }) = W2 := ⟨_, rfl⟩
  rw [hW2] at hbr
  have hg2 : Wa.grownBy W2 (some l) := by rw [← hW2]; exact grownBy_putObj _ _ _
  have hk2 : KeepsWalks Wa W2 := by rw [← hW2]; exact KeepsWalks.putObj _ ha.L rfl
  have hv2 : W2.heap[Bs]? = some (.cells #[v] 31 (0, 0)) := by rw [← hW2]; exact (World.putObj_heap_other hBl).trans hv
  have Ci : W2.heap[bv]? = some (.cells #[S (R x.x), S (R x.y)] 24) := by rw [← hW2]; exact (World.putObj_heap_other (by omega)).trans DL
  have hK2 : W2.heap[D]? = some (.deferred (some [])) := by rw [← hW2]; exact (World.putObj_heap_other hDl).trans ha.K
  have hL2 : W2.heap[l]? = some (.loop { J8 fn sv Bs D .ready none with state := .busy }) := by rw [← hW2]; exact World.putObj_heap_same hl
  have hrow2 : W2.ownsRow w0.heap.size 24 2 v ss.length (FX ss) := hrow.kept hg2 (ownsRow_ne hrow ha.L (fun cur e => by first | cases e | exact hne (Obj.cells.inj e).2.1))
  have hb2 : Below w0.heap.size w0 W2 := ha.below.grown hg2 ha.below.size (fun k e => by cases e; exact h0l)
  obtain ⟨hc2, hf2⟩ := cell_of_box hv2
  have hBlt : Bs < W2.heap.size := (Array.getElem?_eq_some_iff.1 hv2).1
  have hl2 : l < W2.heap.size := (Array.getElem?_eq_some_iff.1 hL2).1
  have hDlt : D < W2.heap.size := (Array.getElem?_eq_some_iff.1 hK2).1
  have ne_of : ∀ {j : Nat} {o : Obj}, W2.heap[j]? = some o → (∀ cur, o ≠ .cells cur 24 (0, 0)) → some j ≠ v.ownBlock := fun hj hno => by
    rcases ownsRow_ne hrow2 hj hno with e | e
    · rw [e]; simp
    · exact fun e' => e e'.symm
  have q0 := Aa (o := 0) Ci rfl
  have q1 := Aa (o := 1) Ci rfl
  have US : W2.heap.size ≠ l := by omega
  clear hW2 ha hv hrow DL Ci
  refine ⟨W2, hbr, ?_⟩
  unfold dC
  gi_wp2_with (first
    | (gi_at_builtin; refine wpListIn_append_own _ rfl _ _ 31 rfl w0.heap.size 24 i0 (.agg #[S [], S []]) 2 32 Tryz.underlying31 hi hz0 hz1 hz2 rfl (by decide) _ _ _ rfl (hrow2.alloc _) ⟨W2.heap.size, 0, none⟩ 1 1 [S (R x.x), S (R x.y)] rfl rfl (dR _ _ _ _) (by simp [Value.oneCell']) (by unfold maxLen; omega) (by omega) (by have := hb2.size; simp; omega) ?_; intro v' w3 hown' hg3 hnil3
       have hv3 : w3.heap[Bs]? = some (.cells #[v] 31 (0, 0)) := (hg3.block Bs (by simp; omega) (ne_of hv2 (fun cur e => by first | cases e | exact hne (Obj.cells.inj e).2.1))).trans ((Below.heap_alloc _ _ Bs hBlt).trans hv2)
       obtain ⟨hc3, hf3⟩ := cell_of_box hv3
       obtain ⟨g', cap', cur', rfl, hbase', hgb', hr1, hr2, hr3, hr4⟩ : ∃ g' cap' cur', v' = .slice (some ⟨g', 0, none⟩) (ss.length + 1) cap' ∧ w0.heap.size ≤ g' ∧ w3.heap[g']? = some (.cells cur' 24 (0, 0)) ∧ ss.length + 1 ≤ cap' ∧ cap' ≤ maxLen ∧ cur'.size = cap' * 2 ∧ cur'.toList.take ((ss.length + 1) * 2) = FX ss ++ [S (R x.x), S (R x.y)] := by
         rcases hown'.2 with ⟨_, h0⟩ | h'
         · exact absurd h0 (by omega)
         · exact h'
       go_frame)
    | (rw [Oper.semAt_eq _ _ _ (fun c h => by cases h)]; go_simp; try go_bits))
  have hg3' : (W2.alloc (.cells #[S (R x.x), S (R x.y)] 24)).grownBy w3 v.ownBlock := hg3
  have hL3 : w3.heap[l]? = some (.loop { J8 fn sv Bs D .ready none with state := .busy }) := (hg3'.block l (by simp; omega) (ne_of hL2 (fun cur e => by first | cases e | exact hne (Obj.cells.inj e).2.1))).trans ((Below.heap_alloc _ _ l hl2).trans hL2)
  have hK3 : w3.heap[D]? = some (.deferred (some [])) := (hg3'.block D (by simp; omega) (ne_of hK2 (fun cur e => by first | cases e | exact hne (Obj.cells.inj e).2.1))).trans ((Below.heap_alloc _ _ D hDlt).trans hK2)
  obtain ⟨w4, hw4⟩ : ∃ w4, w3.setCell ⟨Bs, 0, none⟩ (.slice (some ⟨g', 0, none⟩) (ss.length + 1) cap') = w4 := ⟨_, rfl⟩
  rw [hw4]
  have hg4 : w3.grownBy w4 (some Bs) := by rw [← hw4]; exact grownBy_setCell0 _ _ _
  have hv4 : w4.heap[Bs]? = some (.cells #[.slice (some ⟨g', 0, none⟩) (ss.length + 1) cap'] 31 (0, 0)) := by rw [← hw4]; exact heap_setCell_box _ hv3
  have hL4 : w4.heap[l]? = some (.loop { J8 fn sv Bs D .ready none with state := .busy }) := (hg4.block l (Array.getElem?_eq_some_iff.1 hL3).1 (fun e => hBl (by cases e; rfl))).trans hL3
  have hK4 : w4.heap[D]? = some (.deferred (some [])) := (hg4.block D (Array.getElem?_eq_some_iff.1 hK3).1 (fun e => hDB (by cases e; rfl))).trans hK3
  have hrow4 := hown'.kept hg4 (ownsRow_ne hown' hv3 (fun cur e => by first | cases e | exact hne (Obj.cells.inj e).2.1))
  have hl4 : l < w4.heap.size := (Array.getElem?_eq_some_iff.1 hL4).1
  have hb3 : Below w0.heap.size w0 w3 := (hb2.alloc hb2.size _).grown hg3' (by have := hb2.size; simp; omega) (fun k e => (hrow2.lt k e).1)
  have hb4 : Below w0.heap.size w0 w4 := hb3.grown hg4 hb3.size (fun k e => by cases e; exact h0B)
  have hk4 : KeepsWalks W w4 := (hka.trans ((hk2.trans (KeepsWalks.alloc _ _)).trans (KeepsWalks.of_grownBy hg3' (ownsRow_not_walk (hrow2.alloc _))))).trans (by rw [← hw4]; exact KeepsWalks.setCell _ _ _)
  clear hw4
  refine ⟨_, _, run_endRound none hL4, rfl, ⟨⟨_, (World.putObj_heap_other hBl).trans hv4, ?_⟩, World.putObj_heap_same hl4, (World.putObj_heap_other hDl).trans hK4, hb4.grown (grownBy_putObj _ _ _) hb4.size (fun k e => by cases e; exact h0l)⟩, hk4.trans (KeepsWalks.putObj _ hL4 rfl)⟩
  have := hrow4.kept (grownBy_putObj w4 l (.loop { { J8 fn sv Bs D .ready none with state := .busy } with state := if (none : Option Code).isNone then .ready else .done, pending := none })) (ownsRow_ne hrow4 hL4 (fun cur e => by first | cases e | exact hne (Obj.cells.inj e).2.1))
  rw [AaW]
  simpa using this
theorem Afq(F:Fence)(n:Nat)(h11:F.fn 219)(hro:F.round=none)(hn:2<=n)(g:Nat)(lb:Array Value)(hFg:F.fn g)(eg:∀args w,(callFunc g args).run Tryz.prog w=.ok (.enter g args) w)
  (S:List Pt→Prop) (N:Nat) (hN:N<=200000) (w:World) (hseq:SeqGives F (n-1) Tryz.prog g lb Af S N w) :
  CallsIn F n Tryz.prog 219 #[.slice none 0 0,.func (.func g) #[] lb] w fun e w'=>∃(v:Value) (ss:List Pt),e=.returned v/\S ss/\w'.ownsRow w.heap.size 24 2 v ss.length (FX ss)/\Below w.heap.size w w':=by
 have h1:1<=n:=(by omega);have hne:31≠24:=(by decide);refine callsIn_of_wp_marks Tryz.func219 rfl h11 ?_ hro;simp only [Tryz.ntmps219,List.size_toArray,List.length_cons,List.length_nil,Nat.reduceAdd,Nat.reduceSub,Array.replicate_succ,Array.replicate_zero,List.push_toArray,List.append_toArray,List.nil_append,List.cons_append];gi_wp2;refine wpIn_rangeFunc ?_;intro fn hfn;rw [hro];obtain⟨W0,hW0⟩:∃W0,w.alloc (.cells #[.slice none 0 0] 31)=W0:=⟨_,rfl⟩;have hs0:W0.heap.size=w.heap.size+1:=(by rw [←hW0];simp);have hv0:W0.heap[w.heap.size]?=some (.cells #[.slice none 0 0] 31 (0,0)):=(by rw [←hW0];exact World.alloc_heap_new w _);have hb0:Below w.heap.size w W0:=(by rw [←hW0];exact(Below.refl _ w).alloc (As0 _) _);rw [hW0];obtain⟨W1,hW1⟩:∃W1,(W0.alloc (.deferred (some []))).alloc (.loop (J8 fn (.func (.func g) #[] lb) w.heap.size W0.heap.size .ready none))=W1:=⟨_,rfl⟩
 have hold:∀k,k<W0.heap.size→W1.heap[k]?=W0.heap[k]?:=fun k hk=>by rw [←hW1];exact(Below.heap_alloc _ _ k (by simp;omega)).trans (Below.heap_alloc _ _ k hk)
 have hb1:Below w.heap.size w W1:=(by rw [←hW1];exact(hb0.alloc hb0.size _).alloc (by have:=hb0.size;simp;omega) _);have hs1:W1.heap.size=W0.heap.size+2:=by rw [←hW1];simp
 have hM:Sy w fn (.func (.func g) #[] lb) w.heap.size (W0.heap.size+1) W0.heap.size [] W1:=
  ⟨⟨_,(hold w.heap.size (by omega)).trans hv0,⟨rfl,.inl ⟨rfl,rfl⟩⟩⟩,
   by rw [←hW1];have:=World.alloc_heap_new (W0.alloc (.deferred (some []))) (.loop (J8 fn (.func (.func g) #[] lb) w.heap.size W0.heap.size .ready none));rwa [As7]at this,
   by rw [←hW1];exact(Below.heap_alloc _ _ _ (by simp)).trans (World.alloc_heap_new W0 _),hb1⟩
 refine⟨W0.heap.size+1,[{target:=.collected W0.heap.size,args:=#[]}],W1,{target:=.fn (.func g) lb,args:=#[.func (.yield (W0.heap.size+1)) #[] #[]]},W1,g,
  #[.func (.yield (W0.heap.size+1)) #[] #[]]++lb,W1,?_,?_,?_,?_,fun _=>h1,?_⟩
 ·rw [←hW1];exact run_enterLoop_outer _ _ _ _ _
 ·simp [resolve,go_sem]
 ·intro f' hf';simp [Target.leads]at hf';subst hf';exact hFg
 ·simp [invoke,go_sem,eg]
 ·refine(hseq (W0.heap.size+1) (Sy w fn (.func (.func g) #[] lb) w.heap.size (W0.heap.size+1) W0.heap.size) W1 hb1 (uQ _ _ _ _ _ _ _ hb1.size)
   (fun pre x W hJ hl=>Aff F (n-1-1) w fn hfn _ w.heap.size (W0.heap.size+1) W0.heap.size (by omega) (by omega) (by omega) (As0 _) (by omega) N hN pre x W hJ hl) hM).mono ?_
  rintro e W2 ⟨⟨v0,rfl⟩,ss,hS,h2⟩;obtain⟨v,hv,hrow⟩:=h2.box;have hend:=run_endLoop (P:=Tryz.prog) h2.L (by simp [J8]);obtain⟨W3,hW3⟩:∃W3,W2.putObj (W0.heap.size+1) (.loop {J8 fn (.func (.func g) #[] lb) w.heap.size W0.heap.size .ready none with state:=.exhausted})=W3:=⟨_,rfl⟩;rw [hW3]at hend;have hg3:W2.grownBy W3 (some (W0.heap.size+1)):=(by rw [←hW3];exact grownBy_putObj _ _ _);have hv3:W3.heap[w.heap.size]?=some (.cells #[v] 31 (0,0)):=(by rw [←hW3];exact(World.putObj_heap_other (by omega)).trans hv);have hK3:W3.heap[W0.heap.size]?=some (.deferred (some [])):=(by rw [←hW3];exact(World.putObj_heap_other (by omega)).trans h2.K);have hrow3:=hrow.kept hg3 (ownsRow_ne hrow h2.L (fun cur e=>by first|cases e|exact hne (Obj.cells.inj e).2.1));have hb3:Below w.heap.size w W3:=h2.below.grown hg3 h2.below.size (fun k e=>by cases e;omega);obtain⟨hc3,hf3⟩:=cell_of_box hv3;clear hW3;refine⟨none,W3,hend,?_⟩;gi_wp2;rw [←hs0];refine⟨by simp,.inl ⟨_,_,rfl,run_takeDeferred hK3,?_⟩⟩;exact⟨_,results_tmp rfl _ _ _,v,ss,rfl,hS,hrow3.kept (grownBy_putObj _ _ _) (ownsRow_ne hrow3 hK3 (fun cur e=>by first|cases e|exact hne (Obj.cells.inj e).2.1)),hb3.grown (grownBy_putObj _ _ _) hb3.size (fun k e=>by cases e;omega)⟩
theorem Agt(F:Fence)(n:Nat)(h8:F.fn 175)(h11:F.fn 219)(hro:F.round=none)(hn:3<=n)(g:Nat)(lb:Array Value)(hFg:F.fn g)(eg:∀args w,(callFunc g args).run Tryz.prog w=.ok (.enter g args) w)
  (S:List Pt→Prop) (N:Nat) (hN:N<=200000) (w:World) (hseq:SeqGives F (n-1-1) Tryz.prog g lb Af S N w) :
  CallsIn F n Tryz.prog 175 #[.func (.func g) #[] lb] w fun e w'=>∃(v:Value) (ss:List Pt),e=.returned v/\S ss/\w'.ownsRow w.heap.size 24 2 v ss.length (FX ss)/\Below w.heap.size w w':=by
 have h1:1<=n:=(by omega);have e11:∀args w,(callFunc 219 args).run Tryz.prog w=.ok (.enter 219 args) w:=enters_of Tryz.func219 (by kernel_rfl) rfl;refine callsIn_of_wp Tryz.func175 rfl h8 ?_ hro;simp only [Tryz.ntmps175,List.size_toArray,List.length_cons,List.length_nil,Nat.reduceAdd,Nat.reduceSub,Array.replicate_succ,Array.replicate_zero,List.push_toArray,List.append_toArray,List.nil_append,List.cons_append];gi_wp2;refine(Afq F (n-1) h11 hro (by omega) g lb hFg eg S N hN _ hseq).mono ?_;rintro e w' ⟨v,ss,rfl,hS,hrow,hb⟩;gi_wp2;go_ret;exact⟨v,ss,rfl,hS,hrow,hb⟩
section
open Go.Shelf
abbrev Plc:={p:Pt // Aw 1 p}
instance instInhPlc:Inhabited Plc:=⟨⟨⟨0,0⟩,AbT.1⟩⟩
def Kq(s t:Plc):Int:=AY s.1 t.1
theorem AaZ(s t:Plc):ltOf Kq s t=true↔s.1.x<t.1.x∨(s.1.x=t.1.x/\s.1.y<t.1.y):=by
 unfold ltOf Kq;rw [decide_eq_true_iff];exact PN _ _
theorem pE(s t:Plc):ltOf Kq s t=false↔¬(s.1.x<t.1.x∨(s.1.x=t.1.x/\s.1.y<t.1.y)):=by
 rw [←AaZ];simp
theorem Aba:SWO (ltOf Kq) where
 irrefl x:=by rw [pE];grind
 trans x y z h1 h2:=by rw [AaZ]at *;grind
 ntrans x y z h1 h2:=by rw [pE]at *;grind
theorem Anb(x y:Plc)(h1:ltOf Kq x y=false)(h2:ltOf Kq y x=false):x=y:=by
 rw [pE]at h1 h2;obtain⟨⟨a,b⟩,hx⟩:=x;obtain⟨⟨a',b'⟩,hy⟩:=y;simp only [Subtype.mk.injEq,Pt.mk.injEq]at *
 grind
def Ja(s:Plc):List Value:=[S (R s.1.x),S (R s.1.y)]
theorem Xt(s:Plc):(Ja s).length=2:=rfl
theorem Ahf(s:Plc):∀v∈Ja s,v.oneCell'=true:=by
 intro v hv;simp only [Ja,List.mem_cons,AsB,or_false]at hv
 rcases hv with rfl|rfl<;>rfl
theorem Ana{w0 w:World}(hw:Aj w0)(hx:Ab w0 w){blk:Nat}(hb:w0.heap.size<=blk)(off size:Nat):CmpLays Tryz.prog 88 #[] Ja 2 Kq blk off size w:=by
 refine nL fun W hg x y=>?_;have h:=Ju x.1 y.1 x.2 y.2 (by omega) (by omega) W (hw.ext (TM hx hg hb));exact h
def FK(l:List Pt):List Pt:=l.mergeSort (fun x y=>!decide (AY y x<0))
theorem Lv(l:List Pt):(FK l).Perm l:=List.mergeSort_perm _ _
theorem Acf{l:List Pt} : (FK l).Pairwise (fun x y=>¬AY y x<0):=by
 have tr:∀a b c:Pt,(!decide (AY b a<0))=true→(!decide (AY c b<0))=true→(!decide (AY c a<0))=true:=by
  intro a b c h1 h2;simp only [Bool.not_eq_true',decide_eq_false_iff_not,PN]at *
  grind
 have qN:∀a b:Pt,((!decide (AY b a<0))||(!decide (AY a b<0)))=true:=by
  intro a b;simp only [Bool.or_eq_true,Bool.not_eq_true',decide_eq_false_iff_not,PN]
  grind
 have h:=List.pairwise_mergeSort tr qN l;refine h.imp ?_;intro a b hab
 simpa using hab
theorem AoN{l m:List Pt}(h:l.Perm m):FK l=FK m:=by
 refine List.Perm.eq_of_pairwise (le:=fun x y=>¬AY y x<0) ?_ Acf Acf (((Lv l).trans h).trans (Lv m).symm);intro a b _ _ h1 h2;rw [PN]at h1 h2;obtain⟨a1,a2⟩:=a;obtain⟨b1,b2⟩:=b;simp only [Pt.mk.injEq]at *
 grind
theorem yP(m:List Plc):m.flatMap Ja=FX (m.map (·.1)):=by
 induction m with
 | nil=>rfl
 | cons x m ih=>rw [List.flatMap_cons,ih];rfl
theorem Anc{l:List Pt}(h:∀s∈l,Aw 1 s):∃d:Array Plc,d.toList.map (·.1)=l:=
 ⟨(l.attachWith (Aw 1) h).toArray,by simp⟩
def MM(l:List Plc):List Plc:=l.mergeSort (fun x y=>!ltOf Kq y x)
theorem Acc(blk off cap:Nat)(d:Array Plc)(w0 w:World)(hw:Aj w0)(hx:Ab w0 w)(h0:w0.heap.size<=blk)(hH:HoldsK Ja 2 w blk off d)(hblk:blk<w.heap.size)(hsz:d.size<4611686018427387904) :
  Calls Tryz.prog 135 #[.slice (some ⟨blk,off,none⟩) d.size cap,.func (.func 88) #[] #[]] w fun e w'=>
   e=.returned (.tuple #[])/\∃(n:Nat) (os:Array Obj),w'=sortWorldK Ja 2 w blk off n (MM d.toList).toArray os:=by
 have eg:∀args w,(callFunc 88 args).run Tryz.prog w=.ok (.enter 88 args) w:=enters_of Tryz.func88 (by kernel_rfl) rfl;refine(AnyQ.slices_SortFunc Tryz.laysSortPt 2 Tryz.isAgg24 Tryz.sizeOf24 Ja Xt Ahf Kq Aba 88 #[] blk off cap d w eg (Ana hw hx h0 off d.size) hH hblk hsz).mono ?_;rintro e w' ⟨he,d',n,os,h1,h2,hw'⟩;have h:=sorted_unique_holds (lt:=ltOf Kq) Aba Anb d d' h1 h2;refine⟨he,n,os,?_⟩;rw [MM,←h];exact hw'
theorem AkG(fv:Value)(w:World):Calls Tryz.prog 223 #[.slice none 0 0,.int .i64 0,.int .i64 0,fv] w fun e w'=>e=.returned (.tuple #[])/\w'=w:=by
 go_enter Tryz.func223,Tryz.ntmps223;go_wp2;refine wp_loop_rounds 1 ?_;rw [rounds_succ];go_wp2
 go_end0
 exact⟨rfl,rfl⟩
theorem AmU(lim:Int)(fv:Value)(w:World):Calls Tryz.prog 182 #[.slice none 0 0,.int .i64 0,.int .i64 0,.int .i64 lim,fv] w fun e w'=>e=.returned (.tuple #[])/\w'=w:=by
 have hi:=AkG fv;go_enter Tryz.func182,Tryz.ntmps182;go_wp2;refine wp_loop_rounds 1 ?_;rw [rounds_succ];(go_wp2_with fail);(with_reducible refine(hi _).mono ?_);rintro e w1 ⟨rfl,rfl⟩;go_wp2
 (try simp only [Exit.inBlock,Exit.then]);refine bodyPost_ret (results_none rfl _ _ _) rfl ?_
 exact⟨rfl,rfl⟩
theorem AoH(fv:Value)(w:World):Calls Tryz.prog 135 #[.slice none 0 0,fv] w fun e w'=>e=.returned (.tuple #[])/\w'=w:=by
 have h1:=len_nil;have h2:=AmU 0 fv;go_enter Tryz.func135,Tryz.ntmps135;(go_wp2_with fail);(with_reducible refine(h1 _).mono ?_);rintro e w1 ⟨rfl,rfl⟩;(go_wp2_with fail);(with_reducible refine(h2 _).mono ?_);rintro e w1 ⟨rfl,rfl⟩;go_wp2
 go_end0
 exact⟨rfl,rfl⟩
theorem Acd{w0 w:World}(hw:Aj w0)(hx:Ab w0 w){B:Nat}(hB:w0.heap.size<=B)(l:List Pt)(hl:∀s∈l,Aw 1 s)(hlen:l.length<1000000){v:Value}(hv:w.ownsRow B 24 2 v l.length (FX l)) :
  Calls Tryz.prog 135 #[v,.func (.func 88) #[] #[]] w fun e w'=>
   e=.returned (.tuple #[])/\w.grownBy w' v.ownBlock/\w'.ownsRow B 24 2 v l.length (FX (FK l)):=by
 by_cases hn:l = []
 ·subst hn
  have hv':v=.slice none 0 0∨∃g cap,v=.slice (some ⟨g,0,none⟩) 0 cap:=by
   rcases hv.2 with⟨h,_⟩|⟨g,cap,cur,h,_⟩
   ·exact .inl h
   ·exact .inr ⟨g,cap,h⟩
  have e:FK [] = []:=(by unfold FK;simp);rw [e]
  rcases hv' with rfl|⟨g,cap,rfl⟩
  ·exact(AoH _ w).mono fun _ _ ⟨he,hw⟩=>⟨he,by subst hw;exact zK _ _,by subst hw;exact hv⟩
  ·have hgb:g<w.heap.size/\w0.heap.size<=g:=by have:=hv.lt g rfl;omega
   refine(Acc g 0 cap #[] w0 w hw hx hgb.2 (fun j hj=>by simp at hj) hgb.1 (by simp)).mono ?_;rintro e w' ⟨he,n,os,rfl⟩;refine⟨he,QC Ja 2 w g 0 n _ os,?_⟩;have h2:w.ownsRow B 24 2 (.slice (some ⟨g,0,none⟩) (#[]:Array Plc).size cap) (#[]:Array Plc).size ((#[]:Array Plc).toList.flatMap Ja):=hv;have:=VH Xt (by omega) h2 (d':=(MM []).toArray) (by simp [MM]) n os
   simpa [MM,FX,flat,Ag]using this
 ·obtain⟨d,hd⟩:=Anc hl;have EC:d.size=l.length:=by rw [←hd];simp
  have hv':w.ownsRow B 24 2 v d.size (d.toList.flatMap Ja):=by rw [yP,hd,EC];exact hv
  have C7:0<d.size:=(by rw [EC];exact List.length_pos_iff.2 hn);obtain⟨g,cap,rfl,hgb,UD,hH,hown⟩:=lN Xt (by omega) hv' C7;refine(Acc g 0 cap d w0 w hw hx (by omega) hH UD (by omega)).mono ?_;rintro e w' ⟨he,n,os,rfl⟩;refine⟨he,QC Ja 2 w g 0 n _ os,?_⟩;have ho:=VH Xt (by omega) hv' (d':=(MM d.toList).toArray) (by simp [MM]) n os
  have hm:(MM d.toList).map (·.1)=FK l:=by unfold MM FK;rw [List.map_mergeSort (r:=fun x y:Plc=>!ltOf Kq y x) (f:=fun x:Plc=>x.1) (s:=fun x y=>!decide (AY y x<0)) (fun a _ b _=>rfl),hd]
  rw [yP,List.toList_toArray,hm,EC]at ho;rw [EC];exact ho
theorem Acg{w0 w:World}(hw:Aj w0)(hx:Ab w0 w)(Bm b:Nat)(E:List (Pt×Value×Nat))(hst:∀i (h:i<E.length),E[i].2.2=i)(hBm:Bm<w.heap.size)(hm:w.cell? ⟨Bm,0,none⟩=some (.map (some b)))(hb:w.heap[b]?=some (.map (AK Af E).toArray E.length))
  (hL:∀e∈E,Aw 1 e.1) (hlen:E.length<=200000) :
  Calls Tryz.prog 124 #[.func (.func 176) #[] #[.pointer (some ⟨Bm,0,none⟩)],.func (.func 88) #[] #[]] w fun e w'=>
   ∃v,e=.returned v/\w'.ownsRow w.heap.size 24 2 v E.length (FX (FK (E.map (·.1))))/\Ab w w':=by
 have eg:∀args w,(callFunc 176 args).run Tryz.prog w=.ok (.enter 176 args) w:=enters_of Tryz.func176 (by kernel_rfl) rfl;have c1:=callsIn_wide.1 (Agt Fence.wide 5 trivial trivial rfl (by omega) 176 #[.pointer (some ⟨Bm,0,none⟩)] trivial eg _ E.length hlen w (Alf Fence.wide 3 trivial rfl (by omega) Bm b E hst w hBm hm hb));go_enter Tryz.func124,Tryz.ntmps124;(go_wp2_with fail);(with_reducible refine c1.mono ?_);rintro e w1 ⟨v,ss,rfl,hS,hrow,hbl⟩;have Cb:Ab w w1:=hbl;have CV:ss.length=E.length:=by rw [hS.length_eq];simp
 have c2:=Acd hw (hx.trans Cb) hx.size ss (fun s hs=>by
  have:=hS.mem_iff.1 hs;rw [List.mem_map]at this;obtain⟨e,he,rfl⟩:=this
  exact hL e he) (by omega) hrow
 have D5:=AoN hS;rw [D5,CV]at c2;rw [CV]at hrow;(go_wp2_with fail);(with_reducible refine c2.mono ?_);rintro e w2 ⟨rfl,hg,ho⟩;go_wp2;go_ret;exact⟨v,rfl,ho,Cb.grownOwn hg hrow (As0 _)⟩
end
end Go.Proofs.YtnddllipjippnaaGreatDoor
namespace Go.Proofs.YtnddllipjippnaaGreatDoor
open Go.RowKit Kl
theorem Tryz.infoStr:(Tryz.prog.info? 9).map (fun i=>(i.zero,i.size,i.bytes))=some (some (S []),1,16):=by kernel_rfl
section
variable {ops : Array Oper} {rest : List Oper} {o : Oper} {a : Act} {K : Act → World → Prop} {Q : Exit → Act → World → Prop} {E : Prop}
theorem rD(s x:Operand)(ho:o.op=.call {callee:=.builtin .append,args:=#[s,x],argTypes:=#[33,33]})
  (wN:World) (base:Nat) (v:Value) (n:Nat) (l:List Bs) (hs:a.eval s=v) (hown:wN.ownsRow base 9 1 v n (l.map S)) (hn:n<200000) (d:Bs)
  (g:Nat) (hb:wN.heap[g]?=some (.cells #[S d] 9)) (hx:a.eval x=.slice (some ⟨g,0,none⟩) 1 1) (hbase:base<=wN.heap.size)
  (h:∀v' w',w'.ownsRow base 9 1 v' (n+1) ((l ++ [d]).map S)→(∀w0,Ab w0 wN→w0.heap.size<=base→Ab w0 w')→wN.grownBy w' v.ownBlock→K (a.put o.dst v') w') :
  o.wp Tryz.prog a wN K Q:=by
 obtain⟨i0,hi,hz0,hz1,hz2⟩:=info_parts Tryz.infoStr;refine VZ s x 33 ho 9 i0 _ 1 16 1 Tryz.underlying33 hi hz0 hz1 hz2 rfl (by omega) (by omega) (by omega) wN base v n _ hs hown hn g _ hb rfl ?_ hx hbase ?_
 ·intro u hu;simp only [List.mem_cons,AsB,or_false]at hu;rw [hu];rfl
 ·intro v' w' h1 h2 h3;refine h v' w' ?_ h2 h3;rw [List.map_append];exact h1
theorem Acm(hgd:o.guard=none)(s x:Operand)(ho:o.op=.call {callee:=.builtin .append,args:=#[s,x],argTypes:=#[33,33]})
  (wN:World) (base:Nat) (v:Value) (n:Nat) (l:List Bs) (hs:a.eval s=v) (hown:wN.ownsRow base 9 1 v n (l.map S)) (hn:n<200000) (d:Bs)
  (g:Nat) (hb:wN.heap[g]?=some (.cells #[S d] 9)) (hx:a.eval x=.slice (some ⟨g,0,none⟩) 1 1) (hbase:base<=wN.heap.size)
  (h:∀v' w',w'.ownsRow base 9 1 v' (n+1) ((l ++ [d]).map S)→(∀w0,Ab w0 wN→w0.heap.size<=base→Ab w0 w')→wN.grownBy w' v.ownBlock→K (a.put o.dst v') w') :
  if Region.wanted o (yielded ops a.tmps)=true then Oper.wp Tryz.prog o a wN K Q else E:=by
 have hw:Region.wanted o (yielded ops a.tmps)=true:=(by simp [Region.wanted,hgd]);rw [if_pos hw];exact rD s x ho wN base v n l hs hown hn d g hb hx hbase h
end
structure J5(wr:World)(B n bx Bc bM bU:Nat)(U:Option Addr)(cu:Nat)(units:List Bs)(P E F:Value)(nums:List Int)(faces:List Bs):Prop where
 cN:wr.heap[bx]?=some (.cells #[.slice (some ⟨Bc,0,none⟩) n n] 76)
 num:wr.ownsRow 0 3 1 (.slice (some ⟨Bc,0,none⟩) n n) n (zs nums)
 cM:wr.heap[bM]?=some (.cells #[P,E,F] 35)
 fac:wr.ownsRow B 9 1 F faces.length (faces.map S)
 cU:wr.heap[bU]?=some (.cells #[.slice U n cu] 33)
 uni:wr.ownsRow 0 9 1 (.slice U n cu) n (units.map S)
 uB:∀k,(Value.slice U n cu).ownBlock=some k→k<B
 lenN:nums.length=n
 lenU:units.length=n
 cu1:n<=cu
 cu2:cu<=9223372036854775807
 rng:∀z∈nums,0<=z/\z<=(faces.length:Int)
 cnt:faces.length+nums.countP (fun z=>z == 0)<=n
 txt:∀s∈faces,s∈units
theorem BF{w:World}{i j:Nat}{c1 c2:Array Value}{t1 t2:TypeId}{r1 r2:Nat×Nat}(h1:w.heap[i]?=some (.cells c1 t1 r1))(h2:w.heap[j]?=some (.cells c2 t2 r2))(hne:t1≠t2):i≠j:=by
 rintro rfl;rw [h1]at h2;simp only [As4,Obj.cells.injEq]at h2;exact hne h2.2.1
theorem Av{w:World}{B:Nat}{e:TypeId}{s n:Nat}{v:Value}{xs:List Value}(h:w.ownsRow B e s v n xs){j:Nat}{c:Array Value}{t:TypeId}{r:Nat×Nat}(hj:w.heap[j]?=some (.cells c t r))(hne:e≠t):v.ownBlock≠some j:=by
 intro k
 rcases h.2 with⟨h',_⟩|⟨g,cap,cur,h',_,hgb,_⟩
 ·rw [h']at k;cases k
 ·rw [h']at k;simp only [Value.ownBlock,As4]at k;subst k;rw [hgb]at hj;simp only [As4,Obj.cells.injEq]at hj;exact hne hj.2.1
theorem Ic{w:World}{B n b:Nat}{e:TypeId}{s:Nat}{xs:List Value}{cap:Nat}(h:w.ownsRow B e s (.slice (some ⟨b,0,none⟩) n cap) n xs):∃cur,w.heap[b]?=some (.cells cur e (0,0)):=by
 rcases h.2 with⟨h',_⟩|⟨g,cap,cur,h',_,hgb,_⟩
 ·cases h'
 ·simp only [Value.slice.injEq,As4,Addr.mk.injEq,and_true,true_and]at h';obtain⟨rfl,-⟩:=h';exact⟨cur,hgb⟩
theorem Bu{w:World}{p:Addr}{v:Value}{q:Nat}(h:q≠p.block):(w.setCell p v).heap[q]?=w.heap[q]?:=Below.heap_setCell _ _ _ _ h
theorem Xh{w:World}{b:Nat}{a0 a1 a2:Value}{t:TypeId}(v:Value)(h:w.heap[b]?=some (.cells #[a0,a1,a2] t)):(w.setCell ⟨b,2,none⟩ v).heap[b]?=some (.cells #[a0,a1,v] t):=by
 simp only [World.setCell,Array.getElem?_modify,h];simp
theorem ZW(l:List Int)(m:Nat)(z:Int):(zs l).set m (.int .i64 z)=zs (l.set m z):=by simp [zs]
theorem xJ:∀(l:List Int) (m:Nat) (z:Int) (h:m<l.length),l[m]=0→z≠0→(l.set m z).countP (fun z=>z == 0)+1=l.countP (fun z=>z == 0)
 | a::l,0,z,_,h0,hz=>by
  simp only [List.getElem_cons_zero]at h0;subst h0;have:(z == 0)=false:=beq_false_of_ne hz;simp [this]
 | a::l,m+1,z,h,h0,hz=>by have:=xJ l m z (by simpa using h) (by simpa using h0) hz;simp only [List.set_cons_succ,List.countP_cons];omega
theorem J5.extn{w w':World}{B n bx Bc bM bU:Nat}{U:Option Addr}{cu:Nat}{units:List Bs}{P E F:Value}{nums:List Int}{faces:List Bs}(h:J5 w B n bx Bc bM bU U cu units P E F nums faces)(hx:Ab w w'):J5 w' B n bx Bc bM bU U cu units P E F nums faces:=
 ⟨(hx.block _ (Asy h.cN)).trans h.cN,An h.num hx,(hx.block _ (Asy h.cM)).trans h.cM,An h.fac hx,(hx.block _ (Asy h.cU)).trans h.cU,An h.uni hx,h.uB,h.lenN,h.lenU,h.cu1,h.cu2,h.rng,h.cnt,h.txt⟩
theorem J5.step{w:World}{B n bx Bc bM bU:Nat}{U:Option Addr}{cu:Nat}{units:List Bs}{P E F:Value}{nums:List Int}{faces:List Bs}(h:J5 w B n bx Bc bM bU U cu units P E F nums faces){m:Nat}(hm:m<nums.length)(hz:nums[m]=0){s:Bs}(hs:s∈units){X:Obj}{W7:World}{F':Value}
  (hg:((w.alloc X).drew).grownBy W7 F.ownBlock) (ho:W7.ownsRow B 9 1 F' (faces.length+1) ((faces ++ [s]).map S)) :
  J5 ((W7.setCell ⟨bM,2,none⟩ F').setCell ⟨Bc,m,none⟩ (.int .i64 ((faces.length:Int)+1))) B n bx Bc bM bU U cu units P E F' (nums.set m ((faces.length:Int)+1)) (faces ++ [s])/\Ak (fun k=>k=Bc∨k=bM∨F.ownBlock=some k) w ((W7.setCell ⟨bM,2,none⟩ F').setCell ⟨Bc,m,none⟩ (.int .i64 ((faces.length:Int)+1)))
  /\(W7.setCell ⟨bM,2,none⟩ F').heap[bx]?=some (.cells #[.slice (some ⟨Bc,0,none⟩) n n] 76)/\(W7.setCell ⟨bM,2,none⟩ F').heap[bM]?=some (.cells #[P,E,F'] 35)/\(W7.setCell ⟨bM,2,none⟩ F').ownsRow 0 3 1 (.slice (some ⟨Bc,0,none⟩) n n) n (zs nums):=by
 obtain⟨cn,BB⟩:=Ic h.num;have E4:Ab w ((w.alloc X).drew):=((Ab.refl w).alloc X).drew;have n1:=BF BB h.cM (by decide);have n2:=BF h.cN BB (by decide);have n3:=BF h.cN h.cM (by decide);have n4:=BF h.cU BB (by decide);have n5:=BF h.cU h.cM (by decide);have f1:=Av h.fac BB (by decide);have f2:=Av h.fac h.cM (by decide);have f3:=Av h.fac h.cN (by decide);have f4:=Av h.fac h.cU (by decide);have g7:∀{j:Nat} {o:Obj},w.heap[j]?=some o→F.ownBlock≠some j→W7.heap[j]?=some o:=fun {j o} hj hn=>(hg.block j (As9 (Asy hj) E4.size) (fun e=>hn e.symm)).trans ((E4.block j (Asy hj)).trans hj);have CH:=g7 h.cM f2;have XN:=g7 BB f1;have Dm:Ak (fun k=>k=Bc∨k=bM∨F.ownBlock=some k) w W7:=((Ak.refl _ w).ext E4).grown hg (fun k e=>.inl (.inr (.inr e)));have Gq:=(Dm.setCell (p:=⟨bM,2,none⟩) (.inl (.inr (.inl rfl))) F').setCell (p:=⟨Bc,m,none⟩) (.inl (.inl rfl)) (.int .i64 ((faces.length:Int)+1))
 have o7:W7.ownsRow 0 3 1 (.slice (some ⟨Bc,0,none⟩) n n) n (zs nums):=(An h.num E4).kept hg (by
  cases hF:F.ownBlock with
  | none=>exact .inr (by simp [Value.ownBlock])
  | some k=>refine .inr (fun e=>f1 ?_);rw [hF];exact e.symm)
 have o8:=AS (K:=fun k=>k=bM) o7 ((Ak.refl (fun k=>k=bM) W7).setCell (p:=⟨bM,2,none⟩) (.inl rfl) F') (fun k hk e=>by simp only [Value.ownBlock,As4]at hk;omega);have o9:=(o8.stored m (.int .i64 ((faces.length:Int)+1))).1;rw [ZW]at o9;have q1:=Av ho CH (by decide);have q2:=Av ho XN (by decide);refine⟨⟨?_,o9,?_,?_,?_,?_,h.uB,by rw [List.length_set];exact h.lenN,h.lenU,h.cu1,h.cu2,?_,?_,?_⟩,Gq,by rw [Bu (by show bx≠bM;exact n3)];exact g7 h.cN f3,Xh F' CH,o8⟩
 ·rw [Bu (by show bx≠Bc;exact n2),Bu (by show bx≠bM;exact n3)];exact g7 h.cN f3
 ·rw [Bu (by show bM≠Bc;exact fun e=>n1 e.symm)];exact Xh F' CH
 ·rw [List.length_append,List.length_singleton];refine AS (K:=fun k=>k=Bc∨k=bM) ho (((Ak.refl (fun k=>k=Bc∨k=bM) W7).setCell (p:=⟨bM,2,none⟩) (.inl (.inr rfl)) F').setCell (p:=⟨Bc,m,none⟩) (.inl (.inl rfl)) _) ?_;rintro k hk (e|e)
  ·subst e;exact q2 hk
  ·subst e;exact q1 hk
 ·rw [Bu (by show bU≠Bc;exact n4),Bu (by show bU≠bM;exact n5)];exact g7 h.cU f4
 ·have u1:=An h.uni E4
  have u2:=u1.kept hg (by
   cases hF:(Value.slice U n cu).ownBlock with
   | none=>exact .inl rfl
   | some k=>
    refine .inr (fun e=>?_);have h1:=h.uB k hF;have h2:=(h.fac.lt k e.symm).1
    omega)
  refine AS (K:=fun k=>k=Bc∨k=bM) u2 (((Ak.refl (fun k=>k=Bc∨k=bM) W7).setCell (p:=⟨bM,2,none⟩) (.inl (.inr rfl)) F').setCell (p:=⟨Bc,m,none⟩) (.inl (.inl rfl)) _) ?_;rintro k hk (e|e)
  ·subst e;exact Av h.uni BB (by decide) hk
  ·subst e;exact Av h.uni h.cM (by decide) hk
 ·intro z hz';rw [List.length_append,List.length_singleton]
  rcases List.mem_or_eq_of_mem_set hz' with k|k
  ·have:=h.rng z k;omega
  ·omega
 ·have h1:=xJ nums m ((faces.length:Int)+1) hm hz (by omega);have h2:=h.cnt;rw [List.length_append,List.length_singleton];omega
 ·intro x hx
  rcases List.mem_append.1 hx with k|k
  ·exact h.txt x k
  ·simp only [AsC]at k;rw [k];exact hs
def EH(units:List Bs)(nums:List Int)(faces:List Bs)(f:Int):Int×List Int×List Bs:=
 if f<0 then (-1,nums,faces)
 else if nums.getD f.toNat 0=0 then ((faces.length:Int),nums.set f.toNat ((faces.length:Int)+1),faces ++ [units.getD f.toNat []])
 else (nums.getD f.toNat 0-1,nums,faces)
theorem AlJ{units:List Bs}{nums:List Int}{faces:List Bs}{m:Nat}{s:Bs}(hm:m<nums.length)(hu:m<units.length)(hz:0=nums[m])(hs:s=units[m]):((faces.length:Int),nums.set m ((faces.length:Int)+1),faces ++ [s])=EH units nums faces (m:Int):=by
 have e1:nums.getD m 0=0:=(by rw [List.getD_eq_getElem?_getD,As5 hm];exact hz.symm);have e2:units.getD m []=s:=(by rw [List.getD_eq_getElem?_getD,As5 hu];exact hs.symm);unfold EH;rw [if_neg (by omega),Int.toNat_natCast,if_pos e1,e2]
theorem AlK{units:List Bs}{nums:List Int}{faces:List Bs}{m:Nat}{z:Int}(hm:m<nums.length)(hz:z=nums[m])(h0:¬z=0):(z-1,nums,faces)=EH units nums faces (m:Int):=by
 have e1:nums.getD m 0=z:=(by rw [List.getD_eq_getElem?_getD,As5 hm];exact hz.symm);unfold EH;rw [if_neg (by omega),Int.toNat_natCast,if_neg (by rw [e1];exact h0),e1]
def Ae8(w:World)(B n bx Bc bM bU:Nat)(U:Option Addr)(cu:Nat)(units:List Bs)(P E F:Value)(nums:List Int)(faces:List Bs)(f:Int)(e:Ending)(w':World):Prop:=
 ∃z F' Bv AV,e=.returned (.int .i64 z)/\J5 w' B n bx Bc bM bU U cu units P E F' Bv AV/\Ak (fun k=>k=Bc∨k=bM∨F.ownBlock=some k) w w'/\(z,Bv,AV)=EH units nums faces f
theorem Aao{w:World}{B n bx Bc bM bU:Nat}{U:Option Addr}{cu:Nat}{units:List Bs}{P E F:Value}{nums:List Int}{faces:List Bs}(h:J5 w B n bx Bc bM bU U cu units P E F nums faces)(hn:n<=100000)(hB:B<=w.heap.size)(f:Int)(hf0:-1<=f)(I6:f<(n:Int)) :
  Calls Tryz.prog 146 #[.int .i64 f,.pointer (some ⟨bx,0,none⟩),.pointer (some ⟨bM,0,none⟩),.pointer (some ⟨bU,0,none⟩)] w (Ae8 w B n bx Bc bM bU U cu units P E F nums faces f):=by
 by_cases Ld:f<0
 ·go_enter Tryz.func146,Tryz.ntmps146;go_wp2;go_ret;exact⟨-1,F,nums,faces,rfl,h,Ak.refl _ _,(if_pos Ld).symm⟩
 ·obtain⟨m,rfl⟩:∃m:Nat,f=(m:Int):=⟨f.toNat,by omega⟩;have hm:m<n:=(by omega);have hm0:(0:Int)<=(m:Int):=(by omega);have k0:=Aa (o:=0) h.cN rfl;obtain⟨z,hz⟩:∃z,z=nums[m]'(by rw [h.lenN];exact hm):=⟨_,rfl⟩
  have hc:w.cell? ⟨Bc,m,none⟩=some (.int .i64 z):=by rw [h.num.cellAt m (by omega),hz];simp [zs,As5 (show m<nums.length by rw [h.lenN];exact hm)]
  have hr:=h.rng z (by rw [hz];exact As1 _);have C5:faces.length<=n:=(by have:=h.cnt;omega);by_cases hz0:z=0
  ·subst hz0;have HZ:=Asx hz;clear hz;have Dq:=h.lenU;obtain⟨U',cu',lx,hrU,-,-⟩:=Ad.of_own' (by omega) h.uni;simp only [Value.slice.injEq,true_and]at lx;obtain⟨rfl,rfl⟩:=lx;obtain⟨bu,ou,rfl,hu⟩:=hrU.ad (by simp;omega);have mL:=hu m (by simp;omega);obtain⟨s,hs⟩:∃s,s=units[m]'(by rw [Dq];exact hm):=⟨_,rfl⟩;rw [List.getElem_map,←hs]at mL;have HS:=Asx hs;have SV:=Asx (AlJ (units:=units) (faces:=faces) (by rw [h.lenN];exact hm) (by rw [Dq];exact hm) HZ.out hs);clear hs;obtain⟨oF,cF,rfl,-,-,-⟩:=Ad.of_own' (by omega) h.fac;have k1:w.cell? ⟨bM,2,none⟩=some (.slice oF faces.length cF):=Aa h.cM rfl;have k2:=Aa (o:=0) h.cU rfl;have Ar9:(m:Int)<(n:Int):=(by omega);clear hu;go_enter Tryz.func146,Tryz.ntmps146
   go_upto_region 4 with fail
   have fO:(Value.slice oF faces.length cF).ownBlock≠some bM:=Av h.fac h.cM (by decide);have fZ:=Asy h.cM;have hfc:=h.fac;have Pk:=h.cM;have UA:faces.length<200000:=by omega
   go_region_law (refine Acm rfl _ _ rfl _ B (.slice oF faces.length cF) faces.length faces rfl (An hfc (by first|exact(Ab.refl w).alloc _|exact((Ab.refl w).alloc _).drew)) UA s w.heap.size (Asz w _) rfl (by simp;omega) ?_;intro v7 w7 CU GK DJ;obtain⟨GR,GA,rfl,-,-,-⟩:=Ad.of_own' (by omega) CU;have CH:=(DJ.block bM (by simp;omega) (fun e=>fO e.symm)).trans ((((Ab.refl w).alloc _).block bM fZ).trans Pk);have e1:w7.cell? ⟨bM,2,none⟩=some (.slice oF faces.length cF):=Aa CH rfl;have e2:=Ah (o:=2) CH)
   all_goals (
    obtain⟨N9,B9,x1,x2,x3⟩:=h.step (m:=m) (by rw [h.lenN];exact hm) HZ.out.symm (s:=s) (by rw [HS.out];exact As1 _) DJ CU;have y1:=Aa (o:=0) x1 rfl;have y2:(w7.setCell ⟨bM,2,none⟩ (.slice GR (faces.length+1) GA)).cell? ⟨bM,2,none⟩=some (.slice GR (faces.length+1) GA):=Aa x2 rfl
    have y3:(w7.setCell ⟨bM,2,none⟩ (.slice GR (faces.length+1) GA)).cell? ⟨Bc,m,none⟩=some (.int .i64 0):=by rw [x3.cellAt m (by omega)];have:=HZ.out;simp [zs,As5 (show m<nums.length by rw [h.lenN];exact hm),←this]
    have y4:=x3.frozenAt m;have v1:=Aa (o:=0) N9.cN rfl
    have v2:(((w7.setCell ⟨bM,2,none⟩ (.slice GR (faces.length+1) GA)).setCell ⟨Bc,m,none⟩ (.int .i64 ((faces.length:Int)+1)))).cell? ⟨Bc,m,none⟩=some (.int .i64 ((faces.length:Int)+1)):=by rw [N9.num.cellAt m (by omega)];simp [zs,show m<nums.length by rw [h.lenN];exact hm]
    have hwr:IntKind.wrap .i64 (((faces.length:Int)+1)-1)=(faces.length:Int):=(by rw [As6 _ (by omega)];omega);clear CH e1 e2 DJ CU GK x1 x2 x3;generalize (w7.setCell ⟨bM,2,none⟩ (.slice GR (faces.length+1) GA))=W8 at *;have HN:=Asx N9;have HB:=Asx B9;clear N9 B9;go_wp2;go_ret
    exact⟨(faces.length:Int),_,_,_,by go_num,HN.out,HB.out,SV.out⟩)
  ·have hzw:IntKind.wrap .i64 (z-1)=z-1:=As6 _ (by omega);have SV:=Asx (AlK (units:=units) (faces:=faces) (by rw [h.lenN];exact hm) hz hz0);clear hz;go_enter Tryz.func146,Tryz.ntmps146;go_wp2;go_ret;exact⟨z-1,F,nums,faces,rfl,h,Ak.refl _ _,SV.out⟩
def lenV:Value→Nat
 | .slice _ n _=>n
 | _=>0
theorem Alp{w:World}{B:Nat}{e:TypeId}{s n:Nat}{v:Value}{xs:List Value}(h:w.ownsRow B e s v n xs):lenV v=n:=by
 rcases h.2 with⟨h',rfl⟩|⟨g,cap,cur,h',_⟩
 ·rw [h'];rfl
 ·rw [h'];rfl
theorem pD{w:World}{B:Nat}{e:TypeId}{s n c:Nat}{A:Option Addr}{xs:List Value}(h:w.ownsRow B e s (.slice A n c) n xs)(hn:0<n):∃g,A=some ⟨g,0,none⟩:=by
 rcases h.2 with⟨h',_⟩|⟨g,cap,cur,h',_⟩
 ·simp only [Value.slice.injEq]at h';omega
 ·simp only [Value.slice.injEq]at h';exact⟨g,h'.1⟩
theorem j9:∀(l:List Hf) (k:Nat) (y:Hf),(((((Bn l).set (k*5) (S (R y.a.x))).set (k*5+1) (S (R y.a.y))).set (k*5+2) (S (R y.b.x))).set (k*5+3) (S (R y.b.y))).set (k*5+4) (.int .i64 y.l)=Bn (l.set k y)
 | [],_,_=>by simp [Bn]
 | p::l,0,_=>rfl
 | p::l,k+1,y=>by
  have e:Bn (p::l)=S (R p.a.x)::S (R p.a.y)::S (R p.b.x)::S (R p.b.y) :: .int .i64 p.l::Bn l:=rfl;have e1:(k+1)*5=k*5+1+1+1+1+1:=(by omega);rw [e,e1];simp only [List.set_cons_succ,j9 l k y]
  rfl
theorem AaF{W:World}{B g n c:Nat}{l:List Hf}(h:W.ownsRow B 156 5 (.slice (some ⟨g,0,none⟩) n c) n (Bn l))(k:Nat)(y:Hf) :
  (((((W.setCell ⟨g,k*5,none⟩ (S (R y.a.x))).setCell ⟨g,k*5+1,none⟩ (S (R y.a.y))).setCell ⟨g,k*5+2,none⟩ (S (R y.b.x))).setCell ⟨g,k*5+3,none⟩ (S (R y.b.y))).setCell ⟨g,k*5+4,none⟩ (.int .i64 y.l)).ownsRow B 156 5 (.slice (some ⟨g,0,none⟩) n c) n (Bn (l.set k y)):=by
 have h5:=((((((((h.stored (k*5) (S (R y.a.x))).1.stored (k*5+1) (S (R y.a.y))).1.stored (k*5+2) (S (R y.b.x))).1).stored (k*5+3) (S (R y.b.y))).1).stored (k*5+4) (.int .i64 y.l))).1
 rwa [j9]at h5
theorem vR{K:Nat→Prop}{w W:World}(h:Ak K w W){g:Nat}(hg:K g)(k:Nat)(y:Hf) :
  Ak K w (((((W.setCell ⟨g,k*5,none⟩ (S (R y.a.x))).setCell ⟨g,k*5+1,none⟩ (S (R y.a.y))).setCell ⟨g,k*5+2,none⟩ (S (R y.b.x))).setCell ⟨g,k*5+3,none⟩ (S (R y.b.y))).setCell ⟨g,k*5+4,none⟩ (.int .i64 y.l)):=
 ((((h.setCell (p:=⟨g,k*5,none⟩) (.inl hg) _).setCell (p:=⟨g,k*5+1,none⟩) (.inl hg) _).setCell (p:=⟨g,k*5+2,none⟩) (.inl hg) _).setCell (p:=⟨g,k*5+3,none⟩) (.inl hg) _).setCell (p:=⟨g,k*5+4,none⟩) (.inl hg) _
theorem Ej.set{n:Nat}{l:List Hf}(h:Ej n l)(k:Nat){y:Hf}(hy:y∈l):Ej n (l.set k y):=by
 intro z hz
 rcases List.mem_or_eq_of_mem_set hz with e|e
 ·exact h z e
 ·rw [e];exact h y hy
section
variable {ops : Array Oper} {rest : List Oper} {o : Oper} {a : Act} {Q : Exit → Act → World → Prop}
theorem Afk(hgd:o.guard=none)(s x:Operand)(ho:o.op=.call {callee:=.builtin .append,args:=#[s,x],argTypes:=#[31,31]})
  (wN:World) (base:Nat) (v:Value) (n:Nat) (l:List Pt) (hs:a.eval s=v) (hown:wN.ownsRow base 24 2 v n (flat (Ag l))) (hn:n<200000) (d:Pt)
  (g:Nat) (hb:wN.heap[g]?=some (.cells #[S (R d.x),S (R d.y)] 24)) (hx:a.eval x=.slice (some ⟨g,0,none⟩) 1 1) (hbase:base<=wN.heap.size)
  (h:∀v' w',w'.ownsRow base 24 2 v' (n+1) (flat (Ag (l ++ [d])))→wN.grownBy w' v.ownBlock→wpList Tryz.prog ops Q rest (a.put o.dst v') w') :
  wpList Tryz.prog ops Q (o::rest) a wN:=
 wpList_plain hgd fun _ hK=>rC s x ho wN base v n l hs hown hn d g hb hx hbase fun v' w' h1 _ h3=>hK _ _ (h v' w' h1 h3)
end
structure Nk(W3 wr:World)(bM:Nat)(P:Value)(pts:List Pt):Prop where
 cM:wr.heap[bM]?=some (.cells #[P,.slice none 0 0,.slice none 0 0] 35)
 own:wr.ownsRow W3.heap.size 24 2 P pts.length (flat (Ag pts))
 but:Ak (fun q=>q=bM) W3 wr
 sheet:∀p∈pts,CB p
theorem Nk.ext{W3 wr w':World}{bM:Nat}{P:Value}{pts:List Pt}(h:Nk W3 wr bM P pts)(hx:Ab wr w'):Nk W3 w' bM P pts:=
 ⟨(hx.block _ (Asy h.cM)).trans h.cM,An h.own hx,h.but.ext hx,h.sheet⟩
theorem Nk.app{W3 wr W7:World}{bM:Nat}{P P':Value}{pts:List Pt}(h:Nk W3 wr bM P pts)(CG:bM<W3.heap.size){p:Pt}(hp:CB p){E4:World}(hE:Ab wr E4)(hg:E4.grownBy W7 P.ownBlock)(ho:W7.ownsRow W3.heap.size 24 2 P' (pts.length+1) (flat (Ag (pts ++ [p])))) :
  W7.heap[bM]?=some (.cells #[P,.slice none 0 0,.slice none 0 0] 35)/\Nk W3 (W7.setCell ⟨bM,0,none⟩ P') bM P' (pts ++ [p]):=by
 have hne:=Av h.own h.cM (by decide);have h7:=(hg.block bM (As9 (Asy h.cM) hE.size) (fun e=>hne e.symm)).trans ((hE.block bM (Asy h.cM)).trans h.cM);have hq:=Av ho h7 (by decide);refine⟨h7,?_,?_,?_,?_⟩
 ·simp only [World.setCell,Array.getElem?_modify,h7];simp
 ·rw [List.length_append,List.length_singleton];exact AS (K:=fun q=>q=bM) ho ((Ak.refl (fun q=>q=bM) W7).setCell (p:=⟨bM,0,none⟩) (.inl rfl) P') (fun k hk e=>by subst e;exact hq hk)
 ·exact((h.but.ext hE).own hg (An h.own hE) (As0 _)).setCell (p:=⟨bM,0,none⟩) (.inl rfl) P'
 ·intro x hx
  rcases List.mem_append.1 hx with k|k
  ·exact h.sheet x k
  ·simp only [AsC]at k;rw [k];exact hp
theorem AgV(l:List EdZ)(d:EdZ):Ar (l ++ [d])=Ar l ++ [.int .i64 d.f,.int .i64 d.t,.int .i64 d.l,.int .i64 d.r]:=by simp [Ar]
section
variable {ops : Array Oper} {rest : List Oper} {o : Oper} {a : Act} {K : Act → World → Prop} {Q : Exit → Act → World → Prop} {E : Prop}
theorem rB(s x:Operand)(ho:o.op=.call {callee:=.builtin .append,args:=#[s,x],argTypes:=#[32,32]})
  (wN:World) (base:Nat) (v:Value) (n:Nat) (l:List EdZ) (hs:a.eval s=v) (hown:wN.ownsRow base 51 4 v n (Ar l)) (hn:n<200000) (d:EdZ)
  (g:Nat) (hb:wN.heap[g]?=some (.cells #[.int .i64 d.f,.int .i64 d.t,.int .i64 d.l,.int .i64 d.r] 51)) (hx:a.eval x=.slice (some ⟨g,0,none⟩) 1 1) (hbase:base<=wN.heap.size)
  (h:∀v' w',w'.ownsRow base 51 4 v' (n+1) (Ar (l ++ [d]))→wN.grownBy w' v.ownBlock→K (a.put o.dst v') w') :
  Oper.wp Tryz.prog o a wN K Q:=by
 obtain⟨i0,hi,hz0,hz1,hz2⟩:=info_parts Tryz.infoEd;refine VZ s x 32 ho 51 i0 _ 4 32 1 Tryz.underlying32 hi hz0 hz1 hz2 rfl (by omega) (by omega) (by omega) wN base v n _ hs hown hn g _ hb rfl ?_ hx hbase ?_
 ·intro u hu;simp only [List.mem_cons,AsB,or_false]at hu
  rcases hu with rfl|rfl|rfl|rfl<;>rfl
 ·intro v' w' h1 _ h3;refine h v' w' ?_ h3;rw [AgV];exact h1
end
structure Fi(W5 wr:World)(n bx Bc bM bU:Nat)(U:Option Addr)(cu:Nat)(units:List Bs)(P E F:Value)(nums:List Int)(faces:List Bs)(eds:List EdZ):Prop where
 nam:J5 wr W5.heap.size n bx Bc bM bU U cu units P E F nums faces
 own:wr.ownsRow W5.heap.size 51 4 E eds.length (Ar eds)
 but:Ak (fun q=>q=Bc∨q=bM) W5 wr
theorem Fi.extn{W5 wr w':World}{n bx Bc bM bU:Nat}{U:Option Addr}{cu:Nat}{units:List Bs}{P E F:Value}{nums:List Int}{faces:List Bs}{eds:List EdZ}(h:Fi W5 wr n bx Bc bM bU U cu units P E F nums faces eds)(hx:Ab wr w'):Fi W5 w' n bx Bc bM bU U cu units P E F nums faces eds:=
 ⟨h.nam.extn hx,An h.own hx,h.but.ext hx⟩
theorem Fi.name{W5 wr w':World}{n bx Bc bM bU:Nat}{U:Option Addr}{cu:Nat}{units:List Bs}{P E F F':Value}{nums Bv:List Int}{faces AV:List Bs}{eds:List EdZ}(h:Fi W5 wr n bx Bc bM bU U cu units P E F nums faces eds)
  (hn:J5 w' W5.heap.size n bx Bc bM bU U cu units P E F' Bv AV) (hb:Ak (fun k=>k=Bc∨k=bM∨F.ownBlock=some k) wr w'):Fi W5 w' n bx Bc bM bU U cu units P E F' Bv AV eds:=by
 obtain⟨cn,BB⟩:=Ic h.nam.num;refine⟨hn,AS h.own hb ?_,?_⟩
 ·rintro k hk (e|e|e)
  ·subst e;exact Av h.own BB (by decide) hk
  ·subst e;exact Av h.own h.nam.cM (by decide) hk
  ·rcases h.nam.fac.2 with⟨h',_⟩|⟨g,cap,cur,h',_,hgb,_⟩
   ·rw [h']at e;cases e
   ·rw [h']at e;simp only [Value.ownBlock,As4]at e;subst e;exact Av h.own hgb (by decide) hk
 ·refine⟨hb.os.trans h.but.os,hb.tape.trans h.but.tape,hb.output.trans h.but.output,AsA h.but.size hb.size,fun k hk Jm=>?_⟩;refine(hb.block k (As9 hk h.but.size) ?_).trans (h.but.block k hk Jm);rintro(e|e|e)
  ·exact Jm (.inl e)
  ·exact Jm (.inr e)
  ·have:=(h.nam.fac.lt k e).1;omega
theorem Fi.app{W5 wr W7:World}{n bx Bc bM bU:Nat}{U:Option Addr}{cu:Nat}{units:List Bs}{P E E' F:Value}{nums:List Int}{faces:List Bs}{eds:List EdZ}(h:Fi W5 wr n bx Bc bM bU U cu units P E F nums faces eds)
  {d:EdZ} {X4:World} (hE:Ab wr X4) (hg:X4.grownBy W7 E.ownBlock) (ho:W7.ownsRow W5.heap.size 51 4 E' (eds.length+1) (Ar (eds ++ [d]))) :
  W7.heap[bM]?=some (.cells #[P,E,F] 35)/\Fi W5 (W7.setCell ⟨bM,1,none⟩ E') n bx Bc bM bU U cu units P E' F nums faces (eds ++ [d]):=by
 have h4:=h.extn hE;obtain⟨cn,BB⟩:=Ic h4.nam.num;have e1:=Av h4.own h4.nam.cM (by decide);have e2:=Av h4.own BB (by decide);have e3:=Av h4.own h4.nam.cN (by decide);have e4:=Av h4.own h4.nam.cU (by decide);have g7:∀{j:Nat} {o:Obj},X4.heap[j]?=some o→E.ownBlock≠some j→W7.heap[j]?=some o:=fun {j o} hj hn=>(hg.block j (Asy hj) (fun e=>hn e.symm)).trans hj;have h7:=g7 h4.nam.cM e1;have n1:=BF BB h4.nam.cM (by decide);have n2:=BF h4.nam.cN h4.nam.cM (by decide);have n3:=BF h4.nam.cU h4.nam.cM (by decide);have bb:=(Ak.refl (fun k=>k=bM) W7).setCell (p:=⟨bM,1,none⟩) (.inl rfl) E'
 have kp:∀{e:TypeId} {s m:Nat} {v:Value} {xs:List Value} {B:Nat},X4.ownsRow B e s v m xs→e≠51→e≠35→(W7.setCell ⟨bM,1,none⟩ E').ownsRow B e s v m xs:=by
  intro e s m v xs B hv hne H5
  have Vk:W7.ownsRow B e s v m xs:=hv.kept hg (by
   cases hE:E.ownBlock with
   | none=>cases hv':v.ownBlock with
    | none=>exact .inl rfl
    | some k=>exact .inr (by simp)
   | some k=>
    refine .inr (fun e0=>?_)
    rcases h4.own.2 with⟨h',_⟩|⟨g,cap,cur,h',_,hgb,_⟩
    ·rw [h']at hE;cases hE
    ·rw [h']at hE;simp only [Value.ownBlock,As4]at hE;subst hE
     exact Av hv hgb hne e0)
  exact AS Vk bb (fun k hk e0=>by subst e0;exact Av Vk h7 H5 hk)
 refine⟨h7,⟨?_,kp h4.nam.num (by decide) (by decide),?_,kp h4.nam.fac (by decide) (by decide),?_,kp h4.nam.uni (by decide) (by decide),h.nam.uB,h.nam.lenN,h.nam.lenU,h.nam.cu1,h.nam.cu2,h.nam.rng,h.nam.cnt,h.nam.txt⟩,?_,?_⟩
 ·rw [Bu (by show bx≠bM;exact n2)];exact g7 h4.nam.cN e3
 ·simp only [World.setCell,Array.getElem?_modify,h7];simp
 ·rw [Bu (by show bU≠bM;exact n3)];exact g7 h4.nam.cU e4
 ·rw [List.length_append,List.length_singleton];exact AS ho bb (fun k hk e0=>by subst e0;exact Av ho h7 (by decide) hk)
 ·exact(h4.but.own hg h4.own (As0 _)).setCell (p:=⟨bM,1,none⟩) (.inl (.inr rfl)) E'
structure MapAt(w:World)(n:Nat)(units:List Bs)(A B F:Option Addr)(c d g:Nat)(m:MapZ)(faces:List Bs):Prop where
 cap:Db m c d g
 pts:Ad w A (flat (Ag m.pts))
 eds:Ad w B (Ar m.eds)
 fac:Ad w F (faces.map S)
 nf:m.nf=faces.length
 le:faces.length<=n
 sheet:∀p∈m.pts,CB p
 txt:∀s∈faces,s∈units
structure OA(n:Nat)(A B F:Option Addr):Prop where
 a:∀x,A=some x→n<=x.block
 b:∀x,B=some x→n<=x.block
 f:∀x,F=some x→n<=x.block
theorem OA.mono{n k:Nat}{A B F:Option Addr}(h:OA n A B F)(hk:k<=n):OA k A B F:=
 ⟨fun x e=>AsA hk (h.a x e),fun x e=>AsA hk (h.b x e),fun x e=>AsA hk (h.f x e)⟩
theorem RZ{w:World}{B:Nat}{e:TypeId}{s n k c:Nat}{A:Option Addr}{xs:List Value}(h:w.ownsRow B e s (.slice A k c) n xs):∀x,A=some x→B<=x.block:=by
 rintro x rfl;exact(h.lt x.block rfl).1
end Go.Proofs.YtnddllipjippnaaGreatDoor
