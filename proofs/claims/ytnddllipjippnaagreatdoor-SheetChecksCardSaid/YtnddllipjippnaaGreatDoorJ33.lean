/- J33: BC BD BE QB QCA QCR GG1 GG2 GG3 GG4 GG5 GG6 GG7. -/
import Derived.Test.YtnddllipjippnaaGreatDoorJ31
import Derived.Test.YtnddllipjippnaaGreatDoorJ32
import Derived.Test.YtnddllipjippnaaGreatDoorJ05
set_option maxRecDepth 100000
set_option maxHeartbeats 4000000
namespace Go.Proofs.YtnddllipjippnaaGreatDoor
open Go.RowKit Kl Go.Sort
def FK(l:List Pt):List Value:=flat (Aq l)
theorem pz(l:List Pt)(d:Pt):FK (l ++ [d])=FK l ++ [S (R d.x),S (R d.y)]:=kY l d
theorem ZD(W:World)(a b:Value)(t:TypeId):∀(j:Nat) (u:Value),[a,b][j]?=some u→(W.alloc (.cells #[a,b] t)).cell? ((⟨W.heap.size,0,none⟩:Addr).add j)=some u:=by
 intro j u hu;rw [Addr.add_lit,Nat.zero_add];refine Aa (Ao6 W (.cells #[a,b] t)) ?_;rw [←Array.getElem?_toList];exact hu
def Zx:Code:=Code.region 2 #[{dst:=some 5,op:=Op.alloc 24,type:=0,pos:= "iter.go:51",after:=#[],guard:=none},{dst:=none,op:=Op.store 24 (Operand.tmp 5) (Operand.tmp 7),type:=0,pos:= "iter.go:51",after:=#[{on:=0,ground:=Ground.data},{on:=0,ground:=Ground.phase}],guard:=none}] false
def Zz:Code:=Code.block 1 (Code.region 3 #[{dst:=some 8,op:=Op.load 31 (Operand.tmp 2),type:=31,pos:= "iter.go:52",after:=#[],guard:=none},{dst:=some 9,op:=Op.load 24 (Operand.tmp 5),type:=24,pos:= "iter.go:52",after:=#[],guard:=none},{dst:=some 10,op:=Op.buildSlice 31 1 #[(0,Operand.tmp 9)],type:=31,pos:= "iter.go:52",after:=#[{on:=1,ground:=Ground.data}],guard:=none},{dst:=some 11,op:=Op.call {callee:=Callee.builtin Builtin.append,args:=#[Operand.tmp 8,Operand.tmp 10],argTypes:=#[31,31]},type:=31,pos:= "iter.go:52",after:=#[{on:=0,ground:=Ground.data},{on:=2,ground:=Ground.data}],guard:=none},{dst:=none,op:=Op.store 31 (Operand.tmp 2) (Operand.tmp 11),type:=0,pos:= "iter.go:52",after:=#[{on:=3,ground:=Ground.data},{on:=3,ground:=Ground.chain},{on:=0,ground:=Ground.phase},{on:=1,ground:=Ground.phase},{on:=2,ground:=Ground.phase},{on:=3,ground:=Ground.phase}],guard:=none}] false)
def Jd(fn:FuncId)(sv:Value)(Bs D:Nat)(st:LoopState)(pend:Option Code):Loop:=
 {state:=st,pending:=pend,fn,tmps:=#[.slice none 0 0,sv,.pointer (some ⟨Bs,0,none⟩),undef,.slice none 0 0,undef,sv,undef,undef,undef,undef,undef,undef],params:=#[7],assign:=Zx,body:=Zz,defers:=D}
structure Rr(w0:World)(fn:FuncId)(sv:Value)(Bs l D:Nat)(ss:List Pt)(W:World):Prop where
 box:∃v,W.heap[Bs]?=some (.cells #[v] 31 (0,0))/\W.ownsRow w0.heap.size 24 2 v ss.length (FK ss)
 L:W.heap[l]?=some (.loop (Jd fn sv Bs D .ready none))
 K:W.heap[D]?=some (.deferred (some []))
 below:Below w0.heap.size w0 W
theorem pK(w0:World)(fn:FuncId)(sv:Value)(Bs l D B:Nat)(hB:w0.heap.size<=B):AbidesFrom B (Rr w0 fn sv Bs l D):=fun s W W' row h hg hrow=>by
 have hrow':∀r,row=some r→∃o:Obj,W.heap[r]?=some o/\o.isWalk=true:=fun r e=>(hrow r e).2;obtain⟨v,hv,hr⟩:=h.box
 exact⟨⟨v,(grownBy_keeps hg hrow' hv rfl).trans hv,ownsRow_abides hr hg hrow'⟩,(grownBy_keeps hg hrow' h.L rfl).trans h.L,(grownBy_keeps hg hrow' h.K rfl).trans h.K,
  h.below.grown hg h.below.size (fun k e=>AoH hB (hrow k e).1)⟩
theorem Ab5 (F : Fence) (m : Nat) (w0 : World) (fn : FuncId) (hfn : F.fn fn) (sv : Value) (Bs l D : Nat) (hBl : Bs ≠ l) (hDl : D ≠ l) (hDB : D ≠ Bs) (h0B : w0.heap.size ≤ Bs) (h0l : w0.heap.size ≤ l)
    (N : Nat) (hN : N ≤ 200000) (ss : List Pt) (x : Pt) (W : World) (h : Rr w0 fn sv Bs l D ss W) (hlen : ss.length < N) :
    YieldAt F m Tryz.prog l #[Ak x] W fun e W' => e = .returned (.bool true) ∧ Rr w0 fn sv Bs l D (ss ++ [x]) W' ∧ KeepsWalks W W' := by
  have hne : 31 ≠ 24 := by decide
  obtain ⟨i0, hi, hz0, hz1, hz2⟩ := info_parts Tryz.infoPt
  obtain ⟨v, hv, hrow⟩ := h.box
  refine ⟨fn, #[.slice none 0 0, sv, .pointer (some ⟨Bs, 0, none⟩), undef, .slice none 0 0, undef, sv, Ak x, undef, undef, undef, undef, undef], Zx, Zz, by simpa [Jd] using run_yield (P := Tryz.prog) (args := #[Ak x]) h.L rfl, roundIn_of_wpIn hfn ?_⟩
  have hka : KeepsWalks W (W.alloc (.cells #[S (R x.x), S (R x.y)] 24)) := KeepsWalks.alloc _ _
  have ha := pK w0 fn sv Bs l D W.heap.size h.below.size ss W _ none h (GK ((Ab.refl W).alloc (.cells #[S (R x.x), S (R x.y)] 24)) none) (fun r e => by cases e)
  have Gc := Ao6 W (.cells #[S (R x.x), S (R x.y)] 24)
  have TE : l < W.heap.size := (Array.getElem?_eq_some_iff.1 h.L).1
  unfold Zx
  unfold Ak
  gi_wp2_with (rw [Oper.semAt_eq _ _ _ (fun c h => by cases h)]; go_simp; try go_bits)
  obtain ⟨bv, Ds⟩ := Ao3 W.heap.size
  rw [← Ds] at Gc TE ⊢
  unfold S at ha Gc hka
  clear Ds h hv hrow
  generalize dA : W.alloc (.cells #[.string ⟨(R x.x).toArray⟩, .string ⟨(R x.y).toArray⟩] 24) = Wa at *
  clear dA
  obtain ⟨v, hv, hrow⟩ := ha.box
  have hl : l < Wa.heap.size := (Array.getElem?_eq_some_iff.1 ha.L).1
  have hbr := run_beginRound (P := Tryz.prog) ha.L rfl
  obtain ⟨W2, hW2⟩ : ∃ W2, Wa.putObj l (.loop { Jd fn sv Bs D .ready none with state := .busy }) = W2 := ⟨_, rfl⟩
  rw [hW2] at hbr
  have hg2 : Wa.grownBy W2 (some l) := by rw [← hW2]; exact grownBy_putObj _ _ _
  have hk2 : KeepsWalks Wa W2 := by rw [← hW2]; exact KeepsWalks.putObj _ ha.L rfl
  have hv2 : W2.heap[Bs]? = some (.cells #[v] 31 (0, 0)) := by rw [← hW2]; exact (World.putObj_heap_other hBl).trans hv
  have Cf : W2.heap[bv]? = some (.cells #[S (R x.x), S (R x.y)] 24) := by rw [← hW2]; exact (World.putObj_heap_other (by omega)).trans Gc
  have hK2 : W2.heap[D]? = some (.deferred (some [])) := by rw [← hW2]; exact (World.putObj_heap_other hDl).trans ha.K
  have hL2 : W2.heap[l]? = some (.loop { Jd fn sv Bs D .ready none with state := .busy }) := by rw [← hW2]; exact World.putObj_heap_same hl
  have hrow2 : W2.ownsRow w0.heap.size 24 2 v ss.length (FK ss) := hrow.kept hg2 (ownsRow_ne hrow ha.L (fun cur e => by first | cases e | exact hne (Obj.cells.inj e).2.1))
  have hb2 : Below w0.heap.size w0 W2 := ha.below.grown hg2 ha.below.size (fun k e => by cases e; exact h0l)
  obtain ⟨hc2, hf2⟩ := cell_of_box hv2
  have hBlt : Bs < W2.heap.size := (Array.getElem?_eq_some_iff.1 hv2).1
  have hl2 : l < W2.heap.size := (Array.getElem?_eq_some_iff.1 hL2).1
  have hDlt : D < W2.heap.size := (Array.getElem?_eq_some_iff.1 hK2).1
  have ne_of : ∀ {j : Nat} {o : Obj}, W2.heap[j]? = some o → (∀ cur, o ≠ .cells cur 24 (0, 0)) → some j ≠ v.ownBlock := fun hj hno => by
    rcases ownsRow_ne hrow2 hj hno with e | e
    · rw [e]; simp
    · exact fun e' => e e'.symm
  have q0 := Aa (o := 0) Cf rfl
  have q1 := Aa (o := 1) Cf rfl
  have fC : W2.heap.size ≠ l := by omega
  clear hW2 ha hv hrow Gc Cf
  refine ⟨W2, hbr, ?_⟩
  unfold Zz
  gi_wp2_with (first
    | (gi_at_builtin; refine wpListIn_append_own _ rfl _ _ 31 rfl w0.heap.size 24 i0 (.agg #[S [], S []]) 2 32 Tryz.underlying31 hi hz0 hz1 hz2 rfl (by decide) _ _ _ rfl (hrow2.alloc _) ⟨W2.heap.size, 0, none⟩ 1 1 [S (R x.x), S (R x.y)] rfl rfl (ZD _ _ _ _) (by simp [Value.oneCell']) (by unfold maxLen; omega) (by omega) (by have := hb2.size; simp; omega) ?_; intro v' w3 hown' hg3 hnil3
       have hv3 : w3.heap[Bs]? = some (.cells #[v] 31 (0, 0)) := (hg3.block Bs (by simp; omega) (ne_of hv2 (fun cur e => by first | cases e | exact hne (Obj.cells.inj e).2.1))).trans ((Below.heap_alloc _ _ Bs hBlt).trans hv2)
       obtain ⟨hc3, hf3⟩ := cell_of_box hv3
       obtain ⟨g', cap', cur', rfl, hbase', hgb', hr1, hr2, hr3, hr4⟩ : ∃ g' cap' cur', v' = .slice (some ⟨g', 0, none⟩) (ss.length + 1) cap' ∧ w0.heap.size ≤ g' ∧ w3.heap[g']? = some (.cells cur' 24 (0, 0)) ∧ ss.length + 1 ≤ cap' ∧ cap' ≤ maxLen ∧ cur'.size = cap' * 2 ∧ cur'.toList.take ((ss.length + 1) * 2) = FK ss ++ [S (R x.x), S (R x.y)] := by
         rcases hown'.2 with ⟨_, h0⟩ | h'
         · exact absurd h0 (by omega)
         · exact h'
       go_frame)
    | (rw [Oper.semAt_eq _ _ _ (fun c h => by cases h)]; go_simp; try go_bits))
  have hg3' : (W2.alloc (.cells #[S (R x.x), S (R x.y)] 24)).grownBy w3 v.ownBlock := hg3
  have hL3 : w3.heap[l]? = some (.loop { Jd fn sv Bs D .ready none with state := .busy }) := (hg3'.block l (by simp; omega) (ne_of hL2 (fun cur e => by first | cases e | exact hne (Obj.cells.inj e).2.1))).trans ((Below.heap_alloc _ _ l hl2).trans hL2)
  have hK3 : w3.heap[D]? = some (.deferred (some [])) := (hg3'.block D (by simp; omega) (ne_of hK2 (fun cur e => by first | cases e | exact hne (Obj.cells.inj e).2.1))).trans ((Below.heap_alloc _ _ D hDlt).trans hK2)
  obtain ⟨w4, hw4⟩ : ∃ w4, w3.setCell ⟨Bs, 0, none⟩ (.slice (some ⟨g', 0, none⟩) (ss.length + 1) cap') = w4 := ⟨_, rfl⟩
  rw [hw4]
  have hg4 : w3.grownBy w4 (some Bs) := by rw [← hw4]; exact grownBy_setCell0 _ _ _
  have hv4 : w4.heap[Bs]? = some (.cells #[.slice (some ⟨g', 0, none⟩) (ss.length + 1) cap'] 31 (0, 0)) := by rw [← hw4]; exact heap_setCell_box _ hv3
  have hL4 : w4.heap[l]? = some (.loop { Jd fn sv Bs D .ready none with state := .busy }) := (hg4.block l (Array.getElem?_eq_some_iff.1 hL3).1 (fun e => hBl (by cases e; rfl))).trans hL3
  have hK4 : w4.heap[D]? = some (.deferred (some [])) := (hg4.block D (Array.getElem?_eq_some_iff.1 hK3).1 (fun e => hDB (by cases e; rfl))).trans hK3
  have hrow4 := hown'.kept hg4 (ownsRow_ne hown' hv3 (fun cur e => by first | cases e | exact hne (Obj.cells.inj e).2.1))
  have hl4 : l < w4.heap.size := (Array.getElem?_eq_some_iff.1 hL4).1
  have hb3 : Below w0.heap.size w0 w3 := (hb2.alloc hb2.size _).grown hg3' (by have := hb2.size; simp; omega) (fun k e => (hrow2.lt k e).1)
  have hb4 : Below w0.heap.size w0 w4 := hb3.grown hg4 hb3.size (fun k e => by cases e; exact h0B)
  have hk4 : KeepsWalks W w4 := (hka.trans ((hk2.trans (KeepsWalks.alloc _ _)).trans (KeepsWalks.of_grownBy hg3' (ownsRow_not_walk (hrow2.alloc _))))).trans (by rw [← hw4]; exact KeepsWalks.setCell _ _ _)
  clear hw4
  refine ⟨_, _, run_endRound none hL4, rfl, ⟨⟨_, (World.putObj_heap_other hBl).trans hv4, ?_⟩, World.putObj_heap_same hl4, (World.putObj_heap_other hDl).trans hK4, hb4.grown (grownBy_putObj _ _ _) hb4.size (fun k e => by cases e; exact h0l)⟩, hk4.trans (KeepsWalks.putObj _ hL4 rfl)⟩
  have := hrow4.kept (grownBy_putObj w4 l (.loop { { Jd fn sv Bs D .ready none with state := .busy } with state := if (none : Option Code).isNone then .ready else .done, pending := none })) (ownsRow_ne hrow4 hL4 (fun cur e => by first | cases e | exact hne (Obj.cells.inj e).2.1))
  rw [pz]
  simpa using this
theorem AbD(F:Fence)(n:Nat)(h11:F.fn 219)(hro:F.round=none)(hn:2<=n)(g:Nat)(lb:Array Value)(hFg:F.fn g)(eg:∀args w,(callFunc g args).run Tryz.prog w=.ok (.enter g args) w)
  (S:List Pt→Prop) (N:Nat) (hN:N<=200000) (w:World) (hseq:SeqGives F (n-1) Tryz.prog g lb Ak S N w) :
  CallsIn F n Tryz.prog 219 #[.slice none 0 0,.func (.func g) #[] lb] w fun e w'=>∃(v:Value) (ss:List Pt),e=.returned v/\S ss/\w'.ownsRow w.heap.size 24 2 v ss.length (FK ss)/\Below w.heap.size w w':=by
 have h1:1<=n:=(by omega);have hne:31≠24:=(by decide);refine callsIn_of_wp_marks Tryz.func219 rfl h11 ?_ hro;simp only [Tryz.ntmps219,List.size_toArray,List.length_cons,List.length_nil,Nat.reduceAdd,Nat.reduceSub,Array.replicate_succ,Array.replicate_zero,List.push_toArray,List.append_toArray,List.nil_append,List.cons_append];gi_wp2;refine wpIn_rangeFunc ?_;intro fn hfn;rw [hro];obtain⟨W0,hW0⟩:∃W0,w.alloc (.cells #[.slice none 0 0] 31)=W0:=⟨_,rfl⟩;have hs0:W0.heap.size=w.heap.size+1:=(by rw [←hW0];simp);have hv0:W0.heap[w.heap.size]?=some (.cells #[.slice none 0 0] 31 (0,0)):=(by rw [←hW0];exact World.alloc_heap_new w _);have hb0:Below w.heap.size w W0:=(by rw [←hW0];exact(Below.refl _ w).alloc (Ao7 _) _);rw [hW0];obtain⟨W1,hW1⟩:∃W1,(W0.alloc (.deferred (some []))).alloc (.loop (Jd fn (.func (.func g) #[] lb) w.heap.size W0.heap.size .ready none))=W1:=⟨_,rfl⟩
 have hold:∀k,k<W0.heap.size→W1.heap[k]?=W0.heap[k]?:=fun k hk=>by rw [←hW1];exact(Below.heap_alloc _ _ k (by simp;omega)).trans (Below.heap_alloc _ _ k hk)
 have hb1:Below w.heap.size w W1:=(by rw [←hW1];exact(hb0.alloc hb0.size _).alloc (by have:=hb0.size;simp;omega) _);have hs1:W1.heap.size=W0.heap.size+2:=by rw [←hW1];simp
 have hM:Rr w fn (.func (.func g) #[] lb) w.heap.size (W0.heap.size+1) W0.heap.size [] W1:=
  ⟨⟨_,(hold w.heap.size (by omega)).trans hv0,⟨rfl,.inl ⟨rfl,rfl⟩⟩⟩,
   by rw [←hW1];have:=World.alloc_heap_new (W0.alloc (.deferred (some []))) (.loop (Jd fn (.func (.func g) #[] lb) w.heap.size W0.heap.size .ready none));rwa [AoE]at this,
   by rw [←hW1];exact(Below.heap_alloc _ _ _ (by simp)).trans (World.alloc_heap_new W0 _),hb1⟩
 refine⟨W0.heap.size+1,[{target:=.collected W0.heap.size,args:=#[]}],W1,{target:=.fn (.func g) lb,args:=#[.func (.yield (W0.heap.size+1)) #[] #[]]},W1,g,
  #[.func (.yield (W0.heap.size+1)) #[] #[]]++lb,W1,?_,?_,?_,?_,fun _=>h1,?_⟩
 ·rw [←hW1];exact run_enterLoop_outer _ _ _ _ _
 ·simp [resolve,go_sem]
 ·intro f' hf';simp [Target.leads]at hf';subst hf';exact hFg
 ·simp [invoke,go_sem,eg]
 ·refine(hseq (W0.heap.size+1) (Rr w fn (.func (.func g) #[] lb) w.heap.size (W0.heap.size+1) W0.heap.size) W1 hb1 (pK _ _ _ _ _ _ _ hb1.size)
   (fun pre x W hJ hl=>Ab5 F (n-1-1) w fn hfn _ w.heap.size (W0.heap.size+1) W0.heap.size (by omega) (by omega) (by omega) (Ao7 _) (by omega) N hN pre x W hJ hl) hM).mono ?_
  rintro e W2 ⟨⟨v0,rfl⟩,ss,hS,h2⟩;obtain⟨v,hv,hrow⟩:=h2.box;have hend:=run_endLoop (P:=Tryz.prog) h2.L (by simp [Jd]);obtain⟨W3,hW3⟩:∃W3,W2.putObj (W0.heap.size+1) (.loop {Jd fn (.func (.func g) #[] lb) w.heap.size W0.heap.size .ready none with state:=.exhausted})=W3:=⟨_,rfl⟩;rw [hW3]at hend;have hg3:W2.grownBy W3 (some (W0.heap.size+1)):=(by rw [←hW3];exact grownBy_putObj _ _ _);have hv3:W3.heap[w.heap.size]?=some (.cells #[v] 31 (0,0)):=(by rw [←hW3];exact(World.putObj_heap_other (by omega)).trans hv);have hK3:W3.heap[W0.heap.size]?=some (.deferred (some [])):=(by rw [←hW3];exact(World.putObj_heap_other (by omega)).trans h2.K);have hrow3:=hrow.kept hg3 (ownsRow_ne hrow h2.L (fun cur e=>by first|cases e|exact hne (Obj.cells.inj e).2.1));have hb3:Below w.heap.size w W3:=h2.below.grown hg3 h2.below.size (fun k e=>by cases e;omega);obtain⟨hc3,hf3⟩:=cell_of_box hv3;clear hW3;refine⟨none,W3,hend,?_⟩;gi_wp2;rw [←hs0];refine⟨by simp,.inl ⟨_,_,rfl,run_takeDeferred hK3,?_⟩⟩;exact⟨_,results_tmp rfl _ _ _,v,ss,rfl,hS,hrow3.kept (grownBy_putObj _ _ _) (ownsRow_ne hrow3 hK3 (fun cur e=>by first|cases e|exact hne (Obj.cells.inj e).2.1)),hb3.grown (grownBy_putObj _ _ _) hb3.size (fun k e=>by cases e;omega)⟩
theorem AcI(F:Fence)(n:Nat)(h8:F.fn 175)(h11:F.fn 219)(hro:F.round=none)(hn:3<=n)(g:Nat)(lb:Array Value)(hFg:F.fn g)(eg:∀args w,(callFunc g args).run Tryz.prog w=.ok (.enter g args) w)
  (S:List Pt→Prop) (N:Nat) (hN:N<=200000) (w:World) (hseq:SeqGives F (n-1-1) Tryz.prog g lb Ak S N w) :
  CallsIn F n Tryz.prog 175 #[.func (.func g) #[] lb] w fun e w'=>∃(v:Value) (ss:List Pt),e=.returned v/\S ss/\w'.ownsRow w.heap.size 24 2 v ss.length (FK ss)/\Below w.heap.size w w':=by
 have h1:1<=n:=(by omega);have e11:∀args w,(callFunc 219 args).run Tryz.prog w=.ok (.enter 219 args) w:=enters_of Tryz.func219 (by kernel_rfl) rfl;refine callsIn_of_wp Tryz.func175 rfl h8 ?_ hro;simp only [Tryz.ntmps175,List.size_toArray,List.length_cons,List.length_nil,Nat.reduceAdd,Nat.reduceSub,Array.replicate_succ,Array.replicate_zero,List.push_toArray,List.append_toArray,List.nil_append,List.cons_append];gi_wp2;refine(AbD F (n-1) h11 hro (by omega) g lb hFg eg S N hN _ hseq).mono ?_;rintro e w' ⟨v,ss,rfl,hS,hrow,hb⟩;gi_wp2;go_ret;exact⟨v,ss,rfl,hS,hrow,hb⟩
section
open Go.Shelf
abbrev Plc:={p:Pt // Az 200 p}
instance instInhPlc:Inhabited Plc:=⟨⟨⟨0,0⟩,t8.1⟩⟩
def J8(s t:Plc):Int:=Bq s.1 t.1
theorem qc(s t:Plc):ltOf J8 s t=true↔s.1.x<t.1.x∨(s.1.x=t.1.x/\s.1.y<t.1.y):=by
 unfold ltOf J8;rw [decide_eq_true_iff];exact QG _ _
theorem kO(s t:Plc):ltOf J8 s t=false↔¬(s.1.x<t.1.x∨(s.1.x=t.1.x/\s.1.y<t.1.y)):=by
 rw [←qc];simp
theorem qd:SWO (ltOf J8) where
 irrefl x:=by rw [kO];grind
 trans x y z h1 h2:=by rw [qc]at *;grind
 ntrans x y z h1 h2:=by rw [kO]at *;grind
theorem Ajg(x y:Plc)(h1:ltOf J8 x y=false)(h2:ltOf J8 y x=false):x=y:=by
 rw [kO]at h1 h2;obtain⟨⟨a,b⟩,hx⟩:=x;obtain⟨⟨a',b'⟩,hy⟩:=y;simp only [Subtype.mk.injEq,Pt.mk.injEq]at *
 grind
def I3(s:Plc):List Value:=[S (R s.1.x),S (R s.1.y)]
theorem VQ(s:Plc):(I3 s).length=2:=rfl
theorem Ad3(s:Plc):∀v∈I3 s,v.oneCell'=true:=by
 intro v hv;simp only [I3,List.mem_cons,AoI,or_false]at hv
 rcases hv with rfl|rfl<;>rfl
theorem Ajf{w0 w:World}(hw:Am w0)(hx:Ab w0 w){blk:Nat}(hb:w0.heap.size<=blk)(off size:Nat):CmpLays Tryz.prog 88 #[] I3 2 J8 blk off size w:=by
 refine iZ fun W hg x y=>?_;have h:=IM x.1 y.1 x.2 y.2 (by omega) (by omega) W (hw.ext (S2 hx hg hb));exact h
def Fo(l:List Pt):List Pt:=l.mergeSort (fun x y=>!decide (Bq y x<0))
theorem KF(l:List Pt):(Fo l).Perm l:=List.mergeSort_perm _ _
theorem ut{l:List Pt} : (Fo l).Pairwise (fun x y=>¬Bq y x<0):=by
 have tr:∀a b c:Pt,(!decide (Bq b a<0))=true→(!decide (Bq c b<0))=true→(!decide (Bq c a<0))=true:=by
  intro a b c h1 h2;simp only [Bool.not_eq_true',decide_eq_false_iff_not,QG]at *
  grind
 have lY:∀a b:Pt,((!decide (Bq b a<0))||(!decide (Bq a b<0)))=true:=by
  intro a b;simp only [Bool.or_eq_true,Bool.not_eq_true',decide_eq_false_iff_not,QG]
  grind
 have h:=List.pairwise_mergeSort tr lY l;refine h.imp ?_;intro a b hab
 simpa using hab
theorem Ala{l m:List Pt}(h:l.Perm m):Fo l=Fo m:=by
 refine List.Perm.eq_of_pairwise (le:=fun x y=>¬Bq y x<0) ?_ ut ut (((KF l).trans h).trans (KF m).symm);intro a b _ _ h1 h2;rw [QG]at h1 h2;obtain⟨a1,a2⟩:=a;obtain⟨b1,b2⟩:=b;simp only [Pt.mk.injEq]at *
 grind
theorem tB(m:List Plc):m.flatMap I3=FK (m.map (·.1)):=by
 induction m with
 | nil=>rfl
 | cons x m ih=>rw [List.flatMap_cons,ih];rfl
theorem Ajh{l:List Pt}(h:∀s∈l,Az 200 s):∃d:Array Plc,d.toList.map (·.1)=l:=
 ⟨(l.attachWith (Az 200) h).toArray,by simp⟩
def Ml(l:List Plc):List Plc:=l.mergeSort (fun x y=>!ltOf J8 y x)
theorem uk(blk off cap:Nat)(d:Array Plc)(w0 w:World)(hw:Am w0)(hx:Ab w0 w)(h0:w0.heap.size<=blk)(hH:HoldsK I3 2 w blk off d)(hblk:blk<w.heap.size)(hsz:d.size<4611686018427387904) :
  Calls Tryz.prog 135 #[.slice (some ⟨blk,off,none⟩) d.size cap,.func (.func 88) #[] #[]] w fun e w'=>
   e=.returned (.tuple #[])/\∃(n:Nat) (os:Array Obj),w'=sortWorldK I3 2 w blk off n (Ml d.toList).toArray os:=by
 have eg:∀args w,(callFunc 88 args).run Tryz.prog w=.ok (.enter 88 args) w:=enters_of Tryz.func88 (by kernel_rfl) rfl;refine(AnyQ.slices_SortFunc Tryz.laysSortPt 2 Tryz.isAgg24 Tryz.sizeOf24 I3 VQ Ad3 J8 qd 88 #[] blk off cap d w eg (Ajf hw hx h0 off d.size) hH hblk hsz).mono ?_;rintro e w' ⟨he,d',n,os,h1,h2,hw'⟩;have h:=sorted_unique_holds (lt:=ltOf J8) qd Ajg d d' h1 h2;refine⟨he,n,os,?_⟩;rw [Ml,←h];exact hw'
theorem Ahb(fv:Value)(w:World):Calls Tryz.prog 223 #[.slice none 0 0,.int .i64 0,.int .i64 0,fv] w fun e w'=>e=.returned (.tuple #[])/\w'=w:=by
 go_enter Tryz.func223,Tryz.ntmps223;go_wp2;refine wp_loop_rounds 1 ?_;rw [rounds_succ];go_wp2
 go_end0
 exact⟨rfl,rfl⟩
theorem Ajb(lim:Int)(fv:Value)(w:World):Calls Tryz.prog 182 #[.slice none 0 0,.int .i64 0,.int .i64 0,.int .i64 lim,fv] w fun e w'=>e=.returned (.tuple #[])/\w'=w:=by
 have hi:=Ahb fv;go_enter Tryz.func182,Tryz.ntmps182;go_wp2;refine wp_loop_rounds 1 ?_;rw [rounds_succ];(go_wp2_with fail);(with_reducible refine(hi _).mono ?_);rintro e w1 ⟨rfl,rfl⟩;go_wp2
 (try simp only [Exit.inBlock,Exit.then]);refine bodyPost_ret (results_none rfl _ _ _) rfl ?_
 exact⟨rfl,rfl⟩
theorem AkU(fv:Value)(w:World):Calls Tryz.prog 135 #[.slice none 0 0,fv] w fun e w'=>e=.returned (.tuple #[])/\w'=w:=by
 have h1:=len_nil;have h2:=Ajb 0 fv;go_enter Tryz.func135,Tryz.ntmps135;(go_wp2_with fail);(with_reducible refine(h1 _).mono ?_);rintro e w1 ⟨rfl,rfl⟩;(go_wp2_with fail);(with_reducible refine(h2 _).mono ?_);rintro e w1 ⟨rfl,rfl⟩;go_wp2
 go_end0
 exact⟨rfl,rfl⟩
theorem um{w0 w:World}(hw:Am w0)(hx:Ab w0 w){B:Nat}(hB:w0.heap.size<=B)(l:List Pt)(hl:∀s∈l,Az 200 s)(hlen:l.length<1000000){v:Value}(hv:w.ownsRow B 24 2 v l.length (FK l)) :
  Calls Tryz.prog 135 #[v,.func (.func 88) #[] #[]] w fun e w'=>
   e=.returned (.tuple #[])/\w.grownBy w' v.ownBlock/\w'.ownsRow B 24 2 v l.length (FK (Fo l)):=by
 by_cases hn:l = []
 ·subst hn
  have hv':v=.slice none 0 0∨∃g cap,v=.slice (some ⟨g,0,none⟩) 0 cap:=by
   rcases hv.2 with⟨h,_⟩|⟨g,cap,cur,h,_⟩
   ·exact .inl h
   ·exact .inr ⟨g,cap,h⟩
  have e:Fo [] = []:=(by unfold Fo;simp);rw [e]
  rcases hv' with rfl|⟨g,cap,rfl⟩
  ·exact(AkU _ w).mono fun _ _ ⟨he,hw⟩=>⟨he,by subst hw;exact uJ _ _,by subst hw;exact hv⟩
  ·have hgb:g<w.heap.size/\w0.heap.size<=g:=by have:=hv.lt g rfl;omega
   refine(uk g 0 cap #[] w0 w hw hx hgb.2 (fun j hj=>by simp at hj) hgb.1 (by simp)).mono ?_;rintro e w' ⟨he,n,os,rfl⟩;refine⟨he,PR I3 2 w g 0 n _ os,?_⟩;have h2:w.ownsRow B 24 2 (.slice (some ⟨g,0,none⟩) (#[]:Array Plc).size cap) (#[]:Array Plc).size ((#[]:Array Plc).toList.flatMap I3):=hv;have:=U2 VQ (by omega) h2 (d':=(Ml []).toArray) (by simp [Ml]) n os
   simpa [Ml,FK,flat,Aq]using this
 ·obtain⟨d,hd⟩:=Ajh hl;have En:d.size=l.length:=by rw [←hd];simp
  have hv':w.ownsRow B 24 2 v d.size (d.toList.flatMap I3):=by rw [tB,hd,En];exact hv
  have Cl:0<d.size:=(by rw [En];exact List.length_pos_iff.2 hn);obtain⟨g,cap,rfl,hgb,Tz,hH,hown⟩:=fO VQ (by omega) hv' Cl;refine(uk g 0 cap d w0 w hw hx (by omega) hH Tz (by omega)).mono ?_;rintro e w' ⟨he,n,os,rfl⟩;refine⟨he,PR I3 2 w g 0 n _ os,?_⟩;have ho:=U2 VQ (by omega) hv' (d':=(Ml d.toList).toArray) (by simp [Ml]) n os
  have hm:(Ml d.toList).map (·.1)=Fo l:=by unfold Ml Fo;rw [List.map_mergeSort (r:=fun x y:Plc=>!ltOf J8 y x) (f:=fun x:Plc=>x.1) (s:=fun x y=>!decide (Bq y x<0)) (fun a _ b _=>rfl),hd]
  rw [tB,List.toList_toArray,hm,En]at ho;rw [En];exact ho
theorem uu{w0 w:World}(hw:Am w0)(hx:Ab w0 w)(Bm b:Nat)(E:List (Pt×Value×Nat))(hst:∀i (h:i<E.length),E[i].2.2=i)(hBm:Bm<w.heap.size)(hm:w.cell? ⟨Bm,0,none⟩=some (.map (some b)))(hb:w.heap[b]?=some (.map (AN Ak E).toArray E.length))
  (hL:∀e∈E,Az 200 e.1) (hlen:E.length<=200000) :
  Calls Tryz.prog 124 #[.func (.func 176) #[] #[.pointer (some ⟨Bm,0,none⟩)],.func (.func 88) #[] #[]] w fun e w'=>
   ∃v,e=.returned v/\w'.ownsRow w.heap.size 24 2 v E.length (FK (Fo (E.map (·.1))))/\Ab w w':=by
 have eg:∀args w,(callFunc 176 args).run Tryz.prog w=.ok (.enter 176 args) w:=enters_of Tryz.func176 (by kernel_rfl) rfl;have c1:=callsIn_wide.1 (AcI Fence.wide 5 trivial trivial rfl (by omega) 176 #[.pointer (some ⟨Bm,0,none⟩)] trivial eg _ E.length hlen w (Ahw Fence.wide 3 trivial rfl (by omega) Bm b E hst w hBm hm hb));go_enter Tryz.func124,Tryz.ntmps124;(go_wp2_with fail);(with_reducible refine c1.mono ?_);rintro e w1 ⟨v,ss,rfl,hS,hrow,hbl⟩;have CB:Ab w w1:=hbl;have D8:ss.length=E.length:=by rw [hS.length_eq];simp
 have c2:=um hw (hx.trans CB) hx.size ss (fun s hs=>by
  have:=hS.mem_iff.1 hs;rw [List.mem_map]at this;obtain⟨e,he,rfl⟩:=this
  exact hL e he) (by omega) hrow
 have Dw:=Ala hS;rw [Dw,D8]at c2;rw [D8]at hrow;(go_wp2_with fail);(with_reducible refine c2.mono ?_);rintro e w2 ⟨rfl,hg,ho⟩;go_wp2;go_ret;exact⟨v,rfl,ho,CB.grownOwn hg hrow (Ao7 _)⟩
end
end Go.Proofs.YtnddllipjippnaaGreatDoor
namespace Go.Proofs.YtnddllipjippnaaGreatDoor
open Go.RowKit Kl
theorem Tryz.infoStr:(Tryz.prog.info? 9).map (fun i=>(i.zero,i.size,i.bytes))=some (some (S []),1,16):=by kernel_rfl
section
variable {ops : Array Oper} {rest : List Oper} {o : Oper} {a : Act} {K : Act → World → Prop} {Q : Exit → Act → World → Prop} {E : Prop}
theorem xm(s x:Operand)(ho:o.op=.call {callee:=.builtin .append,args:=#[s,x],argTypes:=#[33,33]})
  (wN:World) (base:Nat) (v:Value) (n:Nat) (l:List Bs) (hs:a.eval s=v) (hown:wN.ownsRow base 9 1 v n (l.map S)) (hn:n<200000) (d:Bs)
  (g:Nat) (hb:wN.heap[g]?=some (.cells #[S d] 9)) (hx:a.eval x=.slice (some ⟨g,0,none⟩) 1 1) (hbase:base<=wN.heap.size)
  (h:∀v' w',w'.ownsRow base 9 1 v' (n+1) ((l ++ [d]).map S)→(∀w0,Ab w0 wN→w0.heap.size<=base→Ab w0 w')→wN.grownBy w' v.ownBlock→K (a.put o.dst v') w') :
  o.wp Tryz.prog a wN K Q:=by
 obtain⟨i0,hi,hz0,hz1,hz2⟩:=info_parts Tryz.infoStr;refine mI s x 33 ho 9 i0 _ 1 16 1 Tryz.underlying33 hi hz0 hz1 hz2 rfl (by omega) (by omega) (by omega) wN base v n _ hs hown hn g _ hb rfl ?_ hx hbase ?_
 ·intro u hu;simp only [List.mem_cons,AoI,or_false]at hu;rw [hu];rfl
 ·intro v' w' h1 h2 h3;refine h v' w' ?_ h2 h3;rw [List.map_append];exact h1
theorem Alm(hgd:o.guard=none)(s x:Operand)(ho:o.op=.call {callee:=.builtin .append,args:=#[s,x],argTypes:=#[33,33]})
  (wN:World) (base:Nat) (v:Value) (n:Nat) (l:List Bs) (hs:a.eval s=v) (hown:wN.ownsRow base 9 1 v n (l.map S)) (hn:n<200000) (d:Bs)
  (g:Nat) (hb:wN.heap[g]?=some (.cells #[S d] 9)) (hx:a.eval x=.slice (some ⟨g,0,none⟩) 1 1) (hbase:base<=wN.heap.size)
  (h:∀v' w',w'.ownsRow base 9 1 v' (n+1) ((l ++ [d]).map S)→(∀w0,Ab w0 wN→w0.heap.size<=base→Ab w0 w')→wN.grownBy w' v.ownBlock→K (a.put o.dst v') w') :
  if Region.wanted o (yielded ops a.tmps)=true then Oper.wp Tryz.prog o a wN K Q else E:=by
 have hw:Region.wanted o (yielded ops a.tmps)=true:=(by simp [Region.wanted,hgd]);rw [if_pos hw];exact xm s x ho wN base v n l hs hown hn d g hb hx hbase h
end
theorem CU{w:World}{i j:Nat}{c1 c2:Array Value}{t1 t2:TypeId}{r1 r2:Nat×Nat}(h1:w.heap[i]?=some (.cells c1 t1 r1))(h2:w.heap[j]?=some (.cells c2 t2 r2))(hne:t1≠t2):i≠j:=by
 rintro rfl;rw [h1]at h2;simp only [AoB,Obj.cells.injEq]at h2;exact hne h2.2.1
theorem BQ{w:World}{B:Nat}{e:TypeId}{s n:Nat}{v:Value}{xs:List Value}(h:w.ownsRow B e s v n xs){j:Nat}{c:Array Value}{t:TypeId}{r:Nat×Nat}(hj:w.heap[j]?=some (.cells c t r))(hne:e≠t):v.ownBlock≠some j:=by
 intro k
 rcases h.2 with⟨h',_⟩|⟨g,cap,cur,h',_,hgb,_⟩
 ·rw [h']at k;cases k
 ·rw [h']at k;simp only [Value.ownBlock,AoB]at k;subst k;rw [hgb]at hj;simp only [AoB,Obj.cells.injEq]at hj;exact hne hj.2.1
theorem jU{w:World}{B n b:Nat}{e:TypeId}{s:Nat}{xs:List Value}{cap:Nat}(h:w.ownsRow B e s (.slice (some ⟨b,0,none⟩) n cap) n xs):∃cur,w.heap[b]?=some (.cells cur e (0,0)):=by
 rcases h.2 with⟨h',_⟩|⟨g,cap,cur,h',_,hgb,_⟩
 ·cases h'
 ·simp only [Value.slice.injEq,AoB,Addr.mk.injEq,and_true,true_and]at h';obtain⟨rfl,-⟩:=h';exact⟨cur,hgb⟩
theorem Cj{w:World}{p:Addr}{v:Value}{q:Nat}(h:q≠p.block):(w.setCell p v).heap[q]?=w.heap[q]?:=Below.heap_setCell _ _ _ _ h
theorem qI{w:World}{b:Nat}{a0 a1 a2:Value}{t:TypeId}(v:Value)(h:w.heap[b]?=some (.cells #[a0,a1,a2] t)):(w.setCell ⟨b,2,none⟩ v).heap[b]?=some (.cells #[a0,a1,v] t):=by
 simp only [World.setCell,Array.getElem?_modify,h];simp
theorem Amk(l:List Int)(m:Nat)(z:Int):(zs l).set m (.int .i64 z)=zs (l.set m z):=by simp [zs]
theorem Adv(l:List EdZ)(d:EdZ):A9 (l ++ [d])=A9 l ++ [.int .i64 d.f,.int .i64 d.t,.int .i64 d.l,.int .i64 d.r]:=by simp [A9]
section
variable {ops : Array Oper} {rest : List Oper} {o : Oper} {a : Act} {K : Act → World → Prop} {Q : Exit → Act → World → Prop} {E : Prop}
theorem xk(s x:Operand)(ho:o.op=.call {callee:=.builtin .append,args:=#[s,x],argTypes:=#[32,32]})
  (wN:World) (base:Nat) (v:Value) (n:Nat) (l:List EdZ) (hs:a.eval s=v) (hown:wN.ownsRow base 51 4 v n (A9 l)) (hn:n<200000) (d:EdZ)
  (g:Nat) (hb:wN.heap[g]?=some (.cells #[.int .i64 d.f,.int .i64 d.t,.int .i64 d.l,.int .i64 d.r] 51)) (hx:a.eval x=.slice (some ⟨g,0,none⟩) 1 1) (hbase:base<=wN.heap.size)
  (h:∀v' w',w'.ownsRow base 51 4 v' (n+1) (A9 (l ++ [d]))→wN.grownBy w' v.ownBlock→K (a.put o.dst v') w') :
  Oper.wp Tryz.prog o a wN K Q:=by
 obtain⟨i0,hi,hz0,hz1,hz2⟩:=info_parts Tryz.infoEd;refine mI s x 32 ho 51 i0 _ 4 32 1 Tryz.underlying32 hi hz0 hz1 hz2 rfl (by omega) (by omega) (by omega) wN base v n _ hs hown hn g _ hb rfl ?_ hx hbase ?_
 ·intro u hu;simp only [List.mem_cons,AoI,or_false]at hu
  rcases hu with rfl|rfl|rfl|rfl<;>rfl
 ·intro v' w' h1 _ h3;refine h v' w' ?_ h3;rw [Adv];exact h1
end
section
open Go.Shelf
theorem xn{P:Program}{o:Oper}{a:Act}{w w':World}{v:Value}{K:Act→World→Prop}{Q:Exit→Act→World→Prop}(h:(execOp a.eval o).run P w=.ok (.value v) w')(hk:K (a.put o.dst v) w'):o.wp P a w K Q:=by
 unfold Oper.wp;rw [h];exact hk
theorem AlY{P:Program}{Q:Exit→Act→World→Prop}{o:Oper}{a:Act}{w:World}{K:Act→World→Prop}{f:FuncId}{t:Nat}{y:Operand}{ts:Array TypeId}{c1 c2 c3:Value}(ho:o.op=.call {callee:=.value (.tmp t),args:=#[y],argTypes:=ts})(hen:Enters P f){v:Value}(hx:a.eval (.tmp t)=.func (.func f) #[] #[c1,c2,c3])(hy:a.eval y=v)
  {R:Ending→World→Prop} (hc:Calls P f #[v,c1,c2,c3] w R) (hR:∀e w'',R e w''→∃u,e=.returned u/\K (a.put o.dst u) w''):o.wp P a w K Q:=by
 subst hy;have hx':a.tmps[t]?.getD undef=.func (.func f) #[] #[c1,c2,c3]:=by rw [←hx];simp [Act.eval]
 have h2:(execOp a.eval o).run P w=.ok (.enter f #[a.eval y,c1,c2,c3]) w:=by unfold execOp;simp [ho,hx',resolve,invoke,Act.eval,go_sem];exact hen _ w
 unfold Oper.wp;rw [h2,Oper.upon_enter];refine hc.mono fun e w'' h=>?_;obtain⟨u,rfl,hk⟩:=hR e w'' h;exact hk
def sK(ops:Array Oper)(l:List (Nat×Nat)):Bool:=l.all fun p=>match ops[p.1]? with
 | some o=>(waits o).contains p.2
 | none=>false
theorem AiF{ops:Array Oper}{L:List (Op×Option Nat)}(h:ops.toList.map (fun o=>(o.op,o.dst))=L){i:Nat}{o:Oper}(ho:ops[i]?=some o):L[i]?=some (o.op,o.dst):=by
 subst h;simp [ho]
theorem uF(bM:Nat)(w:World):(Instr.fieldAt 35 (.pointer (some ⟨bM,0,none⟩)) 1).run Tryz.prog w=.ok (.pointer (some ⟨bM,1,none⟩)) w:=by simp [go_sem]
theorem Ah9{w:World}{bM:Nat}{E:Value}(h:w.cell? ⟨bM,1,none⟩=some E):(Instr.loadAt 32 (.pointer (some ⟨bM,1,none⟩))).run Tryz.prog w=.ok E w:=by simp [go_sem,h]
theorem kr{w:World}{b o:Nat}{u v:Value}(h:w.cell? ⟨b,o,none⟩=some u)(h':w.cell? ⟨b,o+1,none⟩=some v):(Instr.loadAt 24 (.pointer (some ⟨b,o,none⟩))).run Tryz.prog w=.ok (.agg #[u,v]) w:=by simp [go_sem,h,h']
theorem Aln{w:World}{bM:Nat}{P E F E':Value}(hE:∃A n c,E'=.slice A n c)(h:w.heap[bM]?=some (.cells #[P,E,F] 35)):(Instr.storeAt 32 (.pointer (some ⟨bM,1,none⟩)) E').run Tryz.prog w=.ok () (w.setCell ⟨bM,1,none⟩ E'):=by
 have h0:=Aa (o:=1) h rfl;have h1:=Aj (o:=1) h;obtain⟨A,n,c,rfl⟩:=hE;simp [go_sem,h0,h1]
theorem Acu(r1 r2 zl zr:Int)(w:World):(Instr.build 51 #[(0,.int .i64 r1),(1,.int .i64 r2),(2,.int .i64 zl),(3,.int .i64 zr)]).run Tryz.prog w=.ok (.agg #[.int .i64 r1,.int .i64 r2,.int .i64 zl,.int .i64 zr]) w:=by simp [go_sem]
theorem Acs(r1 r2 zl zr:Int)(w:World):(Instr.buildSlice 32 1 #[(0,.agg #[.int .i64 r1,.int .i64 r2,.int .i64 zl,.int .i64 zr])]).run Tryz.prog w=.ok (.slice (some ⟨w.heap.size,0,none⟩) 1 1) (w.alloc (.cells #[.int .i64 r1,.int .i64 r2,.int .i64 zl,.int .i64 zr] 51)):=by simp [go_sem]
theorem UJ{P:Program}{o:Oper}{a:Act}{w w':World}{v:Value}{K:Act→World→Prop}{Q:Exit→Act→World→Prop}(m:Sem Value)(he:execOp a.eval o=(do pure (.value (←m))))(h:m.run P w=.ok v w')(hk:K (a.put o.dst v) w'):o.wp P a w K Q:=by
 refine xn (v:=v) (w':=w') ?_ hk;rw [he];simp [h]
theorem UH{P:Program}{o:Oper}{a:Act}{w w':World}{v:Value}{K:Act→World→Prop}{Q:Exit→Act→World→Prop}{t:TypeId}{x:Operand}{D:Option Nat}(p:.load t x=o.op)(d:D=o.dst)(h:(Instr.loadAt t (a.eval x)).run P w=.ok v w')(hk:K (a.put D v) w'):o.wp P a w K Q:=
 UJ (Instr.loadAt t (a.eval x)) (by unfold execOp;rw [←p]) h (d▸hk)
theorem UG{P:Program}{o:Oper}{a:Act}{w w':World}{v:Value}{K:Act→World→Prop}{Q:Exit→Act→World→Prop}{t:TypeId}{x:Operand}{k:Nat}{D:Option Nat}(p:.fieldAddr t x k=o.op)(d:D=o.dst)(h:(Instr.fieldAt t (a.eval x) k).run P w=.ok v w')(hk:K (a.put D v) w'):o.wp P a w K Q:=
 UJ (Instr.fieldAt t (a.eval x) k) (by unfold execOp;rw [←p]) h (d▸hk)
theorem UI{P:Program}{o:Oper}{a:Act}{w:World}{K:Act→World→Prop}{Q:Exit→Act→World→Prop}(x:Operand)(h:o.op=.move x)(hk:K (a.put o.dst (a.eval x)) w):o.wp P a w K Q:=by
 unfold Oper.wp execOp;rw [h];exact hk
end
end Go.Proofs.YtnddllipjippnaaGreatDoor
namespace Go.Proofs.YtnddllipjippnaaGreatDoor
end Go.Proofs.YtnddllipjippnaaGreatDoor
