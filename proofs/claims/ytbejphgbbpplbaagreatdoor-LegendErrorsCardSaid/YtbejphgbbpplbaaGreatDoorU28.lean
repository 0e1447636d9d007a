/- U28: ShBC ShBD ShBE ShQB ShQCA. -/
import Derived.Test.YtbejphgbbpplbaaGreatDoorU23
import Derived.Test.YtbejphgbbpplbaaGreatDoorU27
set_option maxRecDepth 100000
set_option maxHeartbeats 8000000
namespace Go.Proofs.YtbejphgbbpplbaaGreatDoor
open Go.RowKit Kl Go.Sort
def F7(l:List Pt):List Value:=flat (Ak l)
theorem yw(l:List Pt)(d:Pt):F7 (l ++ [d])=F7 l ++ [S (R d.x),S (R d.y)]:=mV l d
theorem aV(W:World)(a b:Value)(t:TypeId):∀(j:Nat) (u:Value),[a,b][j]?=some u→(W.alloc (.cells #[a,b] t)).cell? ((⟨W.heap.size,0,none⟩:Addr).add j)=some u:=by
 intro j u hu;rw [Addr.add_lit,Nat.zero_add];refine Ab (ArY W (.cells #[a,b] t)) ?_;rw [←Array.getElem?_toList];exact hu
def aB:Code:=Code.region 2 #[{dst:=some 5,op:=Op.alloc 94,type:=0,pos:= "iter.go:51",after:=#[],guard:=none},{dst:=none,op:=Op.store 94 (Operand.tmp 5) (Operand.tmp 7),type:=0,pos:= "iter.go:51",after:=#[{on:=0,ground:=Ground.data},{on:=0,ground:=Ground.phase}],guard:=none}] false
def aD:Code:=Code.block 1 (Code.region 3 #[{dst:=some 8,op:=Op.load 33 (Operand.tmp 2),type:=33,pos:= "iter.go:52",after:=#[],guard:=none},{dst:=some 9,op:=Op.load 94 (Operand.tmp 5),type:=94,pos:= "iter.go:52",after:=#[],guard:=none},{dst:=some 10,op:=Op.buildSlice 33 1 #[(0,Operand.tmp 9)],type:=33,pos:= "iter.go:52",after:=#[{on:=1,ground:=Ground.data}],guard:=none},{dst:=some 11,op:=Op.call {callee:=Callee.builtin Builtin.append,args:=#[Operand.tmp 8,Operand.tmp 10],argTypes:=#[33,33]},type:=33,pos:= "iter.go:52",after:=#[{on:=0,ground:=Ground.data},{on:=2,ground:=Ground.data}],guard:=none},{dst:=none,op:=Op.store 33 (Operand.tmp 2) (Operand.tmp 11),type:=0,pos:= "iter.go:52",after:=#[{on:=3,ground:=Ground.data},{on:=3,ground:=Ground.chain},{on:=0,ground:=Ground.phase},{on:=1,ground:=Ground.phase},{on:=2,ground:=Ground.phase},{on:=3,ground:=Ground.phase}],guard:=none}] false)
def Jd(fn:FuncId)(sv:Value)(Bs D:Nat)(st:LoopState)(pend:Option Code):Loop:=
 {state:=st,pending:=pend,fn,tmps:=#[.slice none 0 0,sv,.pointer (some ⟨Bs,0,none⟩),undef,.slice none 0 0,undef,sv,undef,undef,undef,undef,undef,undef],params:=#[7],assign:=aB,body:=aD,defers:=D}
structure RO(w0:World)(fn:FuncId)(sv:Value)(Bs l D:Nat)(ss:List Pt)(W:World):Prop where
 box:∃v,W.heap[Bs]?=some (.cells #[v] 33 (0,0))/\W.ownsRow w0.heap.size 94 2 v ss.length (F7 ss)
 L:W.heap[l]?=some (.loop (Jd fn sv Bs D .ready none))
 K:W.heap[D]?=some (.deferred (some []))
 below:Below w0.heap.size w0 W
theorem sO(w0:World)(fn:FuncId)(sv:Value)(Bs l D B:Nat)(hB:w0.heap.size<=B):AbidesFrom B (RO w0 fn sv Bs l D):=fun s W W' row h hg hrow=>by
 have hrow':∀r,row=some r→∃o:Obj,W.heap[r]?=some o/\o.isWalk=true:=fun r e=>(hrow r e).2;obtain⟨v,hv,hr⟩:=h.box
 exact⟨⟨v,(grownBy_keeps hg hrow' hv rfl).trans hv,ownsRow_abides hr hg hrow'⟩,(grownBy_keeps hg hrow' h.L rfl).trans h.L,(grownBy_keeps hg hrow' h.K rfl).trans h.K,
  h.below.grown hg h.below.size (fun k e=>Asl hB (hrow k e).1)⟩
theorem AdD (F : Fence) (m : Nat) (w0 : World) (fn : FuncId) (hfn : F.fn fn) (sv : Value) (Bs l D : Nat) (hBl : Bs ≠ l) (hDl : D ≠ l) (hDB : D ≠ Bs) (h0B : w0.heap.size ≤ Bs) (h0l : w0.heap.size ≤ l)
    (N : Nat) (hN : N ≤ 200000) (ss : List Pt) (x : Pt) (W : World) (h : RO w0 fn sv Bs l D ss W) (hlen : ss.length < N) :
    YieldAt F m Tryz.prog l #[Af x] W fun e W' => e = .returned (.bool true) ∧ RO w0 fn sv Bs l D (ss ++ [x]) W' ∧ KeepsWalks W W' := by
  have hne : 33 ≠ 94 := by decide
  obtain ⟨i0, hi, hz0, hz1, hz2⟩ := info_parts Tryz.infoPt
  obtain ⟨v, hv, hrow⟩ := h.box
  refine ⟨fn, #[.slice none 0 0, sv, .pointer (some ⟨Bs, 0, none⟩), undef, .slice none 0 0, undef, sv, Af x, undef, undef, undef, undef, undef], aB, aD, by simpa [Jd] using run_yield (P := Tryz.prog) (args := #[Af x]) h.L rfl, roundIn_of_wpIn hfn ?_⟩
  have hka : KeepsWalks W (W.alloc (.cells #[S (R x.x), S (R x.y)] 94)) := KeepsWalks.alloc _ _
  have ha := sO w0 fn sv Bs l D W.heap.size h.below.size ss W _ none h (GG ((Aa.refl W).alloc (.cells #[S (R x.x), S (R x.y)] 94)) none) (fun r e => by cases e)
  have Ef := ArY W (.cells #[S (R x.x), S (R x.y)] 94)
  have TZ : l < W.heap.size := (Array.getElem?_eq_some_iff.1 h.L).1
  unfold aB
  unfold Af
  gi_wp2_with (rw [Oper.semAt_eq _ _ _ (fun c h => by cases h)]; go_simp; try go_bits)
  obtain ⟨bv, Dj⟩ := ArV W.heap.size
  rw [← Dj] at Ef TZ ⊢
  unfold S at ha Ef hka
  clear Dj h hv hrow
  generalize eY : W.alloc (.cells #[.string ⟨(R x.x).toArray⟩, .string ⟨(R x.y).toArray⟩] 94) = Wa at *
  clear eY
  obtain ⟨v, hv, hrow⟩ := ha.box
  have hl : l < Wa.heap.size := (Array.getElem?_eq_some_iff.1 ha.L).1
  have hbr := run_beginRound (P := Tryz.prog) ha.L rfl
  obtain ⟨W2, hW2⟩ : ∃ W2, Wa.putObj l (.loop { Jd fn sv Bs D .ready none with state := .busy }) = W2 := ⟨_, rfl⟩
  rw [hW2] at hbr
  have hg2 : Wa.grownBy W2 (some l) := by rw [← hW2]; exact grownBy_putObj _ _ _
  have hk2 : KeepsWalks Wa W2 := by rw [← hW2]; exact KeepsWalks.putObj _ ha.L rfl
  have hv2 : W2.heap[Bs]? = some (.cells #[v] 33 (0, 0)) := by rw [← hW2]; exact (World.putObj_heap_other hBl).trans hv
  have D1 : W2.heap[bv]? = some (.cells #[S (R x.x), S (R x.y)] 94) := by rw [← hW2]; exact (World.putObj_heap_other (by omega)).trans Ef
  have hK2 : W2.heap[D]? = some (.deferred (some [])) := by rw [← hW2]; exact (World.putObj_heap_other hDl).trans ha.K
  have hL2 : W2.heap[l]? = some (.loop { Jd fn sv Bs D .ready none with state := .busy }) := by rw [← hW2]; exact World.putObj_heap_same hl
  have hrow2 : W2.ownsRow w0.heap.size 94 2 v ss.length (F7 ss) := hrow.kept hg2 (ownsRow_ne hrow ha.L (fun cur e => by first | cases e | exact hne (Obj.cells.inj e).2.1))
  have hb2 : Below w0.heap.size w0 W2 := ha.below.grown hg2 ha.below.size (fun k e => by cases e; exact h0l)
  obtain ⟨hc2, hf2⟩ := cell_of_box hv2
  have hBlt : Bs < W2.heap.size := (Array.getElem?_eq_some_iff.1 hv2).1
  have hl2 : l < W2.heap.size := (Array.getElem?_eq_some_iff.1 hL2).1
  have hDlt : D < W2.heap.size := (Array.getElem?_eq_some_iff.1 hK2).1
  have ne_of : ∀ {j : Nat} {o : Obj}, W2.heap[j]? = some o → (∀ cur, o ≠ .cells cur 94 (0, 0)) → some j ≠ v.ownBlock := fun hj hno => by
    rcases ownsRow_ne hrow2 hj hno with e | e
    · rw [e]; simp
    · exact fun e' => e e'.symm
  have q0 := Ab (o := 0) D1 rfl
  have q1 := Ab (o := 1) D1 rfl
  have Ue : W2.heap.size ≠ l := by omega
  clear hW2 ha hv hrow Ef D1
  refine ⟨W2, hbr, ?_⟩
  unfold aD
  gi_wp2_with (first
    | (gi_at_builtin; refine wpListIn_append_own _ rfl _ _ 33 rfl w0.heap.size 94 i0 (.agg #[S [], S []]) 2 32 Tryz.underlying33 hi hz0 hz1 hz2 rfl (by decide) _ _ _ rfl (hrow2.alloc _) ⟨W2.heap.size, 0, none⟩ 1 1 [S (R x.x), S (R x.y)] rfl rfl (aV _ _ _ _) (by simp [Value.oneCell']) (by unfold maxLen; omega) (by omega) (by have := hb2.size; simp; omega) ?_; intro v' w3 hown' hg3 hnil3
       have hv3 : w3.heap[Bs]? = some (.cells #[v] 33 (0, 0)) := (hg3.block Bs (by simp; omega) (ne_of hv2 (fun cur e => by first | cases e | exact hne (Obj.cells.inj e).2.1))).trans ((Below.heap_alloc _ _ Bs hBlt).trans hv2)
       obtain ⟨hc3, hf3⟩ := cell_of_box hv3
       obtain ⟨g', cap', cur', rfl, hbase', hgb', hr1, hr2, hr3, hr4⟩ : ∃ g' cap' cur', v' = .slice (some ⟨g', 0, none⟩) (ss.length + 1) cap' ∧ w0.heap.size ≤ g' ∧ w3.heap[g']? = some (.cells cur' 94 (0, 0)) ∧ ss.length + 1 ≤ cap' ∧ cap' ≤ maxLen ∧ cur'.size = cap' * 2 ∧ cur'.toList.take ((ss.length + 1) * 2) = F7 ss ++ [S (R x.x), S (R x.y)] := by
         rcases hown'.2 with ⟨_, h0⟩ | h'
         · exact absurd h0 (by omega)
         · exact h'
       go_frame)
    | (rw [Oper.semAt_eq _ _ _ (fun c h => by cases h)]; go_simp; try go_bits))
  have hg3' : (W2.alloc (.cells #[S (R x.x), S (R x.y)] 94)).grownBy w3 v.ownBlock := hg3
  have hL3 : w3.heap[l]? = some (.loop { Jd fn sv Bs D .ready none with state := .busy }) := (hg3'.block l (by simp; omega) (ne_of hL2 (fun cur e => by first | cases e | exact hne (Obj.cells.inj e).2.1))).trans ((Below.heap_alloc _ _ l hl2).trans hL2)
  have hK3 : w3.heap[D]? = some (.deferred (some [])) := (hg3'.block D (by simp; omega) (ne_of hK2 (fun cur e => by first | cases e | exact hne (Obj.cells.inj e).2.1))).trans ((Below.heap_alloc _ _ D hDlt).trans hK2)
  obtain ⟨w4, hw4⟩ : ∃ w4, w3.setCell ⟨Bs, 0, none⟩ (.slice (some ⟨g', 0, none⟩) (ss.length + 1) cap') = w4 := ⟨_, rfl⟩
  rw [hw4]
  have hg4 : w3.grownBy w4 (some Bs) := by rw [← hw4]; exact grownBy_setCell0 _ _ _
  have hv4 : w4.heap[Bs]? = some (.cells #[.slice (some ⟨g', 0, none⟩) (ss.length + 1) cap'] 33 (0, 0)) := by rw [← hw4]; exact heap_setCell_box _ hv3
  have hL4 : w4.heap[l]? = some (.loop { Jd fn sv Bs D .ready none with state := .busy }) := (hg4.block l (Array.getElem?_eq_some_iff.1 hL3).1 (fun e => hBl (by cases e; rfl))).trans hL3
  have hK4 : w4.heap[D]? = some (.deferred (some [])) := (hg4.block D (Array.getElem?_eq_some_iff.1 hK3).1 (fun e => hDB (by cases e; rfl))).trans hK3
  have hrow4 := hown'.kept hg4 (ownsRow_ne hown' hv3 (fun cur e => by first | cases e | exact hne (Obj.cells.inj e).2.1))
  have hl4 : l < w4.heap.size := (Array.getElem?_eq_some_iff.1 hL4).1
  have hb3 : Below w0.heap.size w0 w3 := (hb2.alloc hb2.size _).grown hg3' (by have := hb2.size; simp; omega) (fun k e => (hrow2.lt k e).1)
  have hb4 : Below w0.heap.size w0 w4 := hb3.grown hg4 hb3.size (fun k e => by cases e; exact h0B)
  have hk4 : KeepsWalks W w4 := (hka.trans ((hk2.trans (KeepsWalks.alloc _ _)).trans (KeepsWalks.of_grownBy hg3' (ownsRow_not_walk (hrow2.alloc _))))).trans (by rw [← hw4]; exact KeepsWalks.setCell _ _ _)
  clear hw4
  refine ⟨_, _, run_endRound none hL4, rfl, ⟨⟨_, (World.putObj_heap_other hBl).trans hv4, ?_⟩, World.putObj_heap_same hl4, (World.putObj_heap_other hDl).trans hK4, hb4.grown (grownBy_putObj _ _ _) hb4.size (fun k e => by cases e; exact h0l)⟩, hk4.trans (KeepsWalks.putObj _ hL4 rfl)⟩
  have := hrow4.kept (grownBy_putObj w4 l (.loop { { Jd fn sv Bs D .ready none with state := .busy } with state := if (none : Option Code).isNone then .ready else .done, pending := none })) (ownsRow_ne hrow4 hL4 (fun cur e => by first | cases e | exact hne (Obj.cells.inj e).2.1))
  rw [yw]
  simpa using this
theorem AdJ(F:Fence)(n:Nat)(h11:F.fn 323)(hro:F.round=none)(hn:2<=n)(g:Nat)(lb:Array Value)(hFg:F.fn g)(eg:∀args w,(callFunc g args).run Tryz.prog w=.ok (.enter g args) w)
  (S:List Pt→Prop) (N:Nat) (hN:N<=200000) (w:World) (hseq:SeqGives F (n-1) Tryz.prog g lb Af S N w) :
  CallsIn F n Tryz.prog 323 #[.slice none 0 0,.func (.func g) #[] lb] w fun e w'=>∃(v:Value) (ss:List Pt),e=.returned v/\S ss/\w'.ownsRow w.heap.size 94 2 v ss.length (F7 ss)/\Below w.heap.size w w':=by
 have h1:1<=n:=(by omega);have hne:33≠94:=(by decide);refine callsIn_of_wp_marks Tryz.func323 rfl h11 ?_ hro;simp only [Tryz.ntmps323,List.size_toArray,List.length_cons,List.length_nil,Nat.reduceAdd,Nat.reduceSub,Array.replicate_succ,Array.replicate_zero,List.push_toArray,List.append_toArray,List.nil_append,List.cons_append];gi_wp2;refine wpIn_rangeFunc ?_;intro fn hfn;rw [hro];obtain⟨W0,hW0⟩:∃W0,w.alloc (.cells #[.slice none 0 0] 33)=W0:=⟨_,rfl⟩;have hs0:W0.heap.size=w.heap.size+1:=(by rw [←hW0];simp);have hv0:W0.heap[w.heap.size]?=some (.cells #[.slice none 0 0] 33 (0,0)):=(by rw [←hW0];exact World.alloc_heap_new w _);have hb0:Below w.heap.size w W0:=(by rw [←hW0];exact(Below.refl _ w).alloc (ArZ _) _);rw [hW0];obtain⟨W1,hW1⟩:∃W1,(W0.alloc (.deferred (some []))).alloc (.loop (Jd fn (.func (.func g) #[] lb) w.heap.size W0.heap.size .ready none))=W1:=⟨_,rfl⟩
 have hold:∀k,k<W0.heap.size→W1.heap[k]?=W0.heap[k]?:=fun k hk=>by rw [←hW1];exact(Below.heap_alloc _ _ k (by simp;omega)).trans (Below.heap_alloc _ _ k hk)
 have hb1:Below w.heap.size w W1:=(by rw [←hW1];exact(hb0.alloc hb0.size _).alloc (by have:=hb0.size;simp;omega) _);have hs1:W1.heap.size=W0.heap.size+2:=by rw [←hW1];simp
 have hM:RO w fn (.func (.func g) #[] lb) w.heap.size (W0.heap.size+1) W0.heap.size [] W1:=
  ⟨⟨_,(hold w.heap.size (by omega)).trans hv0,⟨rfl,.inl ⟨rfl,rfl⟩⟩⟩,
   by rw [←hW1];have:=World.alloc_heap_new (W0.alloc (.deferred (some []))) (.loop (Jd fn (.func (.func g) #[] lb) w.heap.size W0.heap.size .ready none));rwa [Ash]at this,
   by rw [←hW1];exact(Below.heap_alloc _ _ _ (by simp)).trans (World.alloc_heap_new W0 _),hb1⟩
 refine⟨W0.heap.size+1,[{target:=.collected W0.heap.size,args:=#[]}],W1,{target:=.fn (.func g) lb,args:=#[.func (.yield (W0.heap.size+1)) #[] #[]]},W1,g,
  #[.func (.yield (W0.heap.size+1)) #[] #[]]++lb,W1,?_,?_,?_,?_,fun _=>h1,?_⟩
 ·rw [←hW1];exact run_enterLoop_outer _ _ _ _ _
 ·simp [resolve,go_sem]
 ·intro f' hf';simp [Target.leads]at hf';subst hf';exact hFg
 ·simp [invoke,go_sem,eg]
 ·refine(hseq (W0.heap.size+1) (RO w fn (.func (.func g) #[] lb) w.heap.size (W0.heap.size+1) W0.heap.size) W1 hb1 (sO _ _ _ _ _ _ _ hb1.size)
   (fun pre x W hJ hl=>AdD F (n-1-1) w fn hfn _ w.heap.size (W0.heap.size+1) W0.heap.size (by omega) (by omega) (by omega) (ArZ _) (by omega) N hN pre x W hJ hl) hM).mono ?_
  rintro e W2 ⟨⟨v0,rfl⟩,ss,hS,h2⟩;obtain⟨v,hv,hrow⟩:=h2.box;have hend:=run_endLoop (P:=Tryz.prog) h2.L (by simp [Jd]);obtain⟨W3,hW3⟩:∃W3,W2.putObj (W0.heap.size+1) (.loop {Jd fn (.func (.func g) #[] lb) w.heap.size W0.heap.size .ready none with state:=.exhausted})=W3:=⟨_,rfl⟩;rw [hW3]at hend;have hg3:W2.grownBy W3 (some (W0.heap.size+1)):=(by rw [←hW3];exact grownBy_putObj _ _ _);have hv3:W3.heap[w.heap.size]?=some (.cells #[v] 33 (0,0)):=(by rw [←hW3];exact(World.putObj_heap_other (by omega)).trans hv);have hK3:W3.heap[W0.heap.size]?=some (.deferred (some [])):=(by rw [←hW3];exact(World.putObj_heap_other (by omega)).trans h2.K);have hrow3:=hrow.kept hg3 (ownsRow_ne hrow h2.L (fun cur e=>by first|cases e|exact hne (Obj.cells.inj e).2.1));have hb3:Below w.heap.size w W3:=h2.below.grown hg3 h2.below.size (fun k e=>by cases e;omega);obtain⟨hc3,hf3⟩:=cell_of_box hv3;clear hW3;refine⟨none,W3,hend,?_⟩;gi_wp2;rw [←hs0];refine⟨by simp,.inl ⟨_,_,rfl,run_takeDeferred hK3,?_⟩⟩;exact⟨_,results_tmp rfl _ _ _,v,ss,rfl,hS,hrow3.kept (grownBy_putObj _ _ _) (ownsRow_ne hrow3 hK3 (fun cur e=>by first|cases e|exact hne (Obj.cells.inj e).2.1)),hb3.grown (grownBy_putObj _ _ _) hb3.size (fun k e=>by cases e;omega)⟩
theorem AeX(F:Fence)(n:Nat)(h8:F.fn 262)(h11:F.fn 323)(hro:F.round=none)(hn:3<=n)(g:Nat)(lb:Array Value)(hFg:F.fn g)(eg:∀args w,(callFunc g args).run Tryz.prog w=.ok (.enter g args) w)
  (S:List Pt→Prop) (N:Nat) (hN:N<=200000) (w:World) (hseq:SeqGives F (n-1-1) Tryz.prog g lb Af S N w) :
  CallsIn F n Tryz.prog 262 #[.func (.func g) #[] lb] w fun e w'=>∃(v:Value) (ss:List Pt),e=.returned v/\S ss/\w'.ownsRow w.heap.size 94 2 v ss.length (F7 ss)/\Below w.heap.size w w':=by
 have h1:1<=n:=(by omega);have e11:∀args w,(callFunc 323 args).run Tryz.prog w=.ok (.enter 323 args) w:=enters_of Tryz.func323 (by kernel_rfl) rfl;refine callsIn_of_wp Tryz.func262 rfl h8 ?_ hro;simp only [Tryz.ntmps262,List.size_toArray,List.length_cons,List.length_nil,Nat.reduceAdd,Nat.reduceSub,Array.replicate_succ,Array.replicate_zero,List.push_toArray,List.append_toArray,List.nil_append,List.cons_append];gi_wp2;refine(AdJ F (n-1) h11 hro (by omega) g lb hFg eg S N hN _ hseq).mono ?_;rintro e w' ⟨v,ss,rfl,hS,hrow,hb⟩;gi_wp2;go_ret;exact⟨v,ss,rfl,hS,hrow,hb⟩
section
open Go.Shelf
abbrev Plc:={p:Pt // Aq 1 p}
instance instInhPlc:Inhabited Plc:=⟨⟨⟨0,0⟩,AaK.1⟩⟩
def JB(s t:Plc):Int:=AX s.1 t.1
theorem yz(s t:Plc):ltOf JB s t=true↔s.1.x<t.1.x∨(s.1.x=t.1.x/\s.1.y<t.1.y):=by
 unfold ltOf JB;rw [decide_eq_true_iff];exact Ri _ _
theorem mO(s t:Plc):ltOf JB s t=false↔¬(s.1.x<t.1.x∨(s.1.x=t.1.x/\s.1.y<t.1.y)):=by
 rw [←yz];simp
theorem y8:SWO (ltOf JB) where
 irrefl x:=by rw [mO];grind
 trans x y z h1 h2:=by rw [yz]at *;grind
 ntrans x y z h1 h2:=by rw [mO]at *;grind
theorem Amu(x y:Plc)(h1:ltOf JB x y=false)(h2:ltOf JB y x=false):x=y:=by
 rw [mO]at h1 h2;obtain⟨⟨a,b⟩,hx⟩:=x;obtain⟨⟨a',b'⟩,hy⟩:=y;simp only [Subtype.mk.injEq,Pt.mk.injEq]at *
 grind
def I4(s:Plc):List Value:=[S (R s.1.x),S (R s.1.y)]
theorem VV(s:Plc):(I4 s).length=2:=rfl
theorem AfL(s:Plc):∀v∈I4 s,v.oneCell'=true:=by
 intro v hv;simp only [I4,List.mem_cons,Asm,or_false]at hv
 rcases hv with rfl|rfl<;>rfl
theorem Amt{w0 w:World}(hw:Al w0)(hx:Aa w0 w){blk:Nat}(hb:w0.heap.size<=blk)(off size:Nat):CmpLays Tryz.prog 110 #[] I4 2 JB blk off size w:=by
 refine XY fun W hg x y=>?_;have h:=IO x.1 y.1 x.2 y.2 (by omega) (by omega) W (hw.ext (MQ hx hg hb));exact h
def Fo(l:List Pt):List Pt:=l.mergeSort (fun x y=>!decide (AX y x<0))
theorem KH(l:List Pt):(Fo l).Perm l:=List.mergeSort_perm _ _
theorem AaX{l:List Pt} : (Fo l).Pairwise (fun x y=>¬AX y x<0):=by
 have tr:∀a b c:Pt,(!decide (AX b a<0))=true→(!decide (AX c b<0))=true→(!decide (AX c a<0))=true:=by
  intro a b c h1 h2;simp only [Bool.not_eq_true',decide_eq_false_iff_not,Ri]at *
  grind
 have UQ:∀a b:Pt,((!decide (AX b a<0))||(!decide (AX a b<0)))=true:=by
  intro a b;simp only [Bool.or_eq_true,Bool.not_eq_true',decide_eq_false_iff_not,Ri]
  grind
 have h:=List.pairwise_mergeSort tr UQ l;refine h.imp ?_;intro a b hab
 simpa using hab
theorem Aom{l m:List Pt}(h:l.Perm m):Fo l=Fo m:=by
 refine List.Perm.eq_of_pairwise (le:=fun x y=>¬AX y x<0) ?_ AaX AaX (((KH l).trans h).trans (KH m).symm);intro a b _ _ h1 h2;rw [Ri]at h1 h2;obtain⟨a1,a2⟩:=a;obtain⟨b1,b2⟩:=b;simp only [Pt.mk.injEq]at *
 grind
theorem wI(m:List Plc):m.flatMap I4=F7 (m.map (·.1)):=by
 induction m with
 | nil=>rfl
 | cons x m ih=>rw [List.flatMap_cons,ih];rfl
theorem Amv{l:List Pt}(h:∀s∈l,Aq 1 s):∃d:Array Plc,d.toList.map (·.1)=l:=
 ⟨(l.attachWith (Aq 1) h).toArray,by simp⟩
def Mq(l:List Plc):List Plc:=l.mergeSort (fun x y=>!ltOf JB y x)
theorem AaU(blk off cap:Nat)(d:Array Plc)(w0 w:World)(hw:Al w0)(hx:Aa w0 w)(h0:w0.heap.size<=blk)(hH:HoldsK I4 2 w blk off d)(hblk:blk<w.heap.size)(hsz:d.size<4611686018427387904) :
  Calls Tryz.prog 178 #[.slice (some ⟨blk,off,none⟩) d.size cap,.func (.func 110) #[] #[]] w fun e w'=>
   e=.returned (.tuple #[])/\∃(n:Nat) (os:Array Obj),w'=sortWorldK I4 2 w blk off n (Mq d.toList).toArray os:=by
 have eg:∀args w,(callFunc 110 args).run Tryz.prog w=.ok (.enter 110 args) w:=enters_of Tryz.func110 (by kernel_rfl) rfl;refine(AnyQ.slices_SortFunc Tryz.laysSortPt 2 Tryz.isAgg94 Tryz.sizeOf94 I4 VV AfL JB y8 110 #[] blk off cap d w eg (Amt hw hx h0 off d.size) hH hblk hsz).mono ?_;rintro e w' ⟨he,d',n,os,h1,h2,hw'⟩;have h:=sorted_unique_holds (lt:=ltOf JB) y8 Amu d d' h1 h2;refine⟨he,n,os,?_⟩;rw [Mq,←h];exact hw'
theorem AjF(fv:Value)(w:World):Calls Tryz.prog 307 #[.slice none 0 0,.int .i64 0,.int .i64 0,fv] w fun e w'=>e=.returned (.tuple #[])/\w'=w:=by
 go_enter Tryz.func307,Tryz.ntmps307;go_wp2;refine wp_loop_rounds 1 ?_;rw [rounds_succ];go_wp2
 go_end0
 exact⟨rfl,rfl⟩
theorem Amn(lim:Int)(fv:Value)(w:World):Calls Tryz.prog 259 #[.slice none 0 0,.int .i64 0,.int .i64 0,.int .i64 lim,fv] w fun e w'=>e=.returned (.tuple #[])/\w'=w:=by
 have hi:=AjF fv;go_enter Tryz.func259,Tryz.ntmps259;go_wp2;refine wp_loop_rounds 1 ?_;rw [rounds_succ];(go_wp2_with fail);(with_reducible refine(hi _).mono ?_);rintro e w1 ⟨rfl,rfl⟩;go_wp2
 (try simp only [Exit.inBlock,Exit.then]);refine bodyPost_ret (results_none rfl _ _ _) rfl ?_
 exact⟨rfl,rfl⟩
theorem Aoa(fv:Value)(w:World):Calls Tryz.prog 178 #[.slice none 0 0,fv] w fun e w'=>e=.returned (.tuple #[])/\w'=w:=by
 have h1:=len_nil;have h2:=Amn 0 fv;go_enter Tryz.func178,Tryz.ntmps178;(go_wp2_with fail);(with_reducible refine(h1 _).mono ?_);rintro e w1 ⟨rfl,rfl⟩;(go_wp2_with fail);(with_reducible refine(h2 _).mono ?_);rintro e w1 ⟨rfl,rfl⟩;go_wp2
 go_end0
 exact⟨rfl,rfl⟩
theorem AaV{w0 w:World}(hw:Al w0)(hx:Aa w0 w){B:Nat}(hB:w0.heap.size<=B)(l:List Pt)(hl:∀s∈l,Aq 1 s)(hlen:l.length<1000000){v:Value}(hv:w.ownsRow B 94 2 v l.length (F7 l)) :
  Calls Tryz.prog 178 #[v,.func (.func 110) #[] #[]] w fun e w'=>
   e=.returned (.tuple #[])/\w.grownBy w' v.ownBlock/\w'.ownsRow B 94 2 v l.length (F7 (Fo l)):=by
 by_cases hn:l = []
 ·subst hn
  have hv':v=.slice none 0 0∨∃g cap,v=.slice (some ⟨g,0,none⟩) 0 cap:=by
   rcases hv.2 with⟨h,_⟩|⟨g,cap,cur,h,_⟩
   ·exact .inl h
   ·exact .inr ⟨g,cap,h⟩
  have e:Fo [] = []:=(by unfold Fo;simp);rw [e]
  rcases hv' with rfl|⟨g,cap,rfl⟩
  ·exact(Aoa _ w).mono fun _ _ ⟨he,hw⟩=>⟨he,by subst hw;exact dC _ _,by subst hw;exact hv⟩
  ·have hgb:g<w.heap.size/\w0.heap.size<=g:=by have:=hv.lt g rfl;omega
   refine(AaU g 0 cap #[] w0 w hw hx hgb.2 (fun j hj=>by simp at hj) hgb.1 (by simp)).mono ?_;rintro e w' ⟨he,n,os,rfl⟩;refine⟨he,Oz I4 2 w g 0 n _ os,?_⟩;have h2:w.ownsRow B 94 2 (.slice (some ⟨g,0,none⟩) (#[]:Array Plc).size cap) (#[]:Array Plc).size ((#[]:Array Plc).toList.flatMap I4):=hv;have:=Rq VV (by omega) h2 (d':=(Mq []).toArray) (by simp [Mq]) n os
   simpa [Mq,F7,flat,Ak]using this
 ·obtain⟨d,hd⟩:=Amv hl;have Dk:d.size=l.length:=by rw [←hd];simp
  have hv':w.ownsRow B 94 2 v d.size (d.toList.flatMap I4):=by rw [wI,hd,Dk];exact hv
  have Cp:0<d.size:=(by rw [Dk];exact List.length_pos_iff.2 hn);obtain⟨g,cap,rfl,hgb,OM,hH,hown⟩:=XF VV (by omega) hv' Cp;refine(AaU g 0 cap d w0 w hw hx (by omega) hH OM (by omega)).mono ?_;rintro e w' ⟨he,n,os,rfl⟩;refine⟨he,Oz I4 2 w g 0 n _ os,?_⟩;have ho:=Rq VV (by omega) hv' (d':=(Mq d.toList).toArray) (by simp [Mq]) n os
  have hm:(Mq d.toList).map (·.1)=Fo l:=by unfold Mq Fo;rw [List.map_mergeSort (r:=fun x y:Plc=>!ltOf JB y x) (f:=fun x:Plc=>x.1) (s:=fun x y=>!decide (AX y x<0)) (fun a _ b _=>rfl),hd]
  rw [wI,List.toList_toArray,hm,Dk]at ho;rw [Dk];exact ho
theorem AaZ{w0 w:World}(hw:Al w0)(hx:Aa w0 w)(Bm b:Nat)(E:List (Pt×Value×Nat))(hst:∀i (h:i<E.length),E[i].2.2=i)(hBm:Bm<w.heap.size)(hm:w.cell? ⟨Bm,0,none⟩=some (.map (some b)))(hb:w.heap[b]?=some (.map (AG Af E).toArray E.length))
  (hL:∀e∈E,Aq 1 e.1) (hlen:E.length<=200000) :
  Calls Tryz.prog 185 #[.func (.func 263) #[] #[.pointer (some ⟨Bm,0,none⟩)],.func (.func 110) #[] #[]] w fun e w'=>
   ∃v,e=.returned v/\w'.ownsRow w.heap.size 94 2 v E.length (F7 (Fo (E.map (·.1))))/\Aa w w':=by
 have eg:∀args w,(callFunc 263 args).run Tryz.prog w=.ok (.enter 263 args) w:=enters_of Tryz.func263 (by kernel_rfl) rfl;have c1:=callsIn_wide.1 (AeX Fence.wide 5 trivial trivial rfl (by omega) 263 #[.pointer (some ⟨Bm,0,none⟩)] trivial eg _ E.length hlen w (AjS Fence.wide 3 trivial rfl (by omega) Bm b E hst w hBm hm hb));go_enter Tryz.func185,Tryz.ntmps185;(go_wp2_with fail);(with_reducible refine c1.mono ?_);rintro e w1 ⟨v,ss,rfl,hS,hrow,hbl⟩;have CG:Aa w w1:=hbl;have Do:ss.length=E.length:=by rw [hS.length_eq];simp
 have c2:=AaV hw (hx.trans CG) hx.size ss (fun s hs=>by
  have:=hS.mem_iff.1 hs;rw [List.mem_map]at this;obtain⟨e,he,rfl⟩:=this
  exact hL e he) (by omega) hrow
 have Dp:=Aom hS;rw [Dp,Do]at c2;rw [Do]at hrow;(go_wp2_with fail);(with_reducible refine c2.mono ?_);rintro e w2 ⟨rfl,hg,ho⟩;go_wp2;go_ret;exact⟨v,rfl,ho,CG.grownOwn hg hrow (ArZ _)⟩
end
end Go.Proofs.YtbejphgbbpplbaaGreatDoor
namespace Go.Proofs.YtbejphgbbpplbaaGreatDoor
open Go.RowKit Kl
theorem Tryz.infoStr:(Tryz.prog.info? 9).map (fun i=>(i.zero,i.size,i.bytes))=some (some (S []),1,16):=by kernel_rfl
section
variable {ops : Array Oper} {rest : List Oper} {o : Oper} {a : Act} {K : Act → World → Prop} {Q : Exit → Act → World → Prop} {E : Prop}
theorem Ap0(s x:Operand)(ho:o.op=.call {callee:=.builtin .append,args:=#[s,x],argTypes:=#[23,23]})
  (wN:World) (base:Nat) (v:Value) (n:Nat) (l:List Bs) (hs:a.eval s=v) (hown:wN.ownsRow base 9 1 v n (l.map S)) (hn:n<200000) (d:Bs)
  (g:Nat) (hb:wN.heap[g]?=some (.cells #[S d] 9)) (hx:a.eval x=.slice (some ⟨g,0,none⟩) 1 1) (hbase:base<=wN.heap.size)
  (h:∀v' w',w'.ownsRow base 9 1 v' (n+1) ((l ++ [d]).map S)→(∀w0,Aa w0 wN→w0.heap.size<=base→Aa w0 w')→wN.grownBy w' v.ownBlock→K (a.put o.dst v') w') :
  o.wp Tryz.prog a wN K Q:=by
 obtain⟨i0,hi,hz0,hz1,hz2⟩:=info_parts Tryz.infoStr;refine Zb s x 23 ho 9 i0 _ 1 16 1 Tryz.underlying23 hi hz0 hz1 hz2 rfl (by omega) (by omega) (by omega) wN base v n _ hs hown hn g _ hb rfl ?_ hx hbase ?_
 ·intro u hu;simp only [List.mem_cons,Asm,or_false]at hu;rw [hu];rfl
 ·intro v' w' h1 h2 h3;refine h v' w' ?_ h2 h3;rw [List.map_append];exact h1
theorem Abe(hgd:o.guard=none)(s x:Operand)(ho:o.op=.call {callee:=.builtin .append,args:=#[s,x],argTypes:=#[23,23]})
  (wN:World) (base:Nat) (v:Value) (n:Nat) (l:List Bs) (hs:a.eval s=v) (hown:wN.ownsRow base 9 1 v n (l.map S)) (hn:n<200000) (d:Bs)
  (g:Nat) (hb:wN.heap[g]?=some (.cells #[S d] 9)) (hx:a.eval x=.slice (some ⟨g,0,none⟩) 1 1) (hbase:base<=wN.heap.size)
  (h:∀v' w',w'.ownsRow base 9 1 v' (n+1) ((l ++ [d]).map S)→(∀w0,Aa w0 wN→w0.heap.size<=base→Aa w0 w')→wN.grownBy w' v.ownBlock→K (a.put o.dst v') w') :
  if Region.wanted o (yielded ops a.tmps)=true then Oper.wp Tryz.prog o a wN K Q else E:=by
 have hw:Region.wanted o (yielded ops a.tmps)=true:=(by simp [Region.wanted,hgd]);rw [if_pos hw];exact Ap0 s x ho wN base v n l hs hown hn d g hb hx hbase h
end
structure IZ(wr:World)(B n bx AU bM bU:Nat)(U:Option Addr)(cu:Nat)(units:List Bs)(P E F:Value)(nums:List Int)(Ag:List Bs):Prop where
 cN:wr.heap[bx]?=some (.cells #[.slice (some ⟨AU,0,none⟩) n n] 69)
 num:wr.ownsRow 0 3 1 (.slice (some ⟨AU,0,none⟩) n n) n (zs nums)
 cM:wr.heap[bM]?=some (.cells #[P,E,F] 36)
 fac:wr.ownsRow B 9 1 F Ag.length (Ag.map S)
 cU:wr.heap[bU]?=some (.cells #[.slice U n cu] 23)
 uni:wr.ownsRow 0 9 1 (.slice U n cu) n (units.map S)
 uB:∀k,(Value.slice U n cu).ownBlock=some k→k<B
 lenN:nums.length=n
 lenU:units.length=n
 cu1:n<=cu
 cu2:cu<=9223372036854775807
 rng:∀z∈nums,0<=z/\z<=(Ag.length:Int)
 cnt:Ag.length+nums.countP (fun z=>z == 0)<=n
 txt:∀s∈Ag,s∈units
theorem Ds{w:World}{i j:Nat}{c1 c2:Array Value}{t1 t2:TypeId}{r1 r2:Nat×Nat}(h1:w.heap[i]?=some (.cells c1 t1 r1))(h2:w.heap[j]?=some (.cells c2 t2 r2))(hne:t1≠t2):i≠j:=by
 rintro rfl;rw [h1]at h2;simp only [Ase,Obj.cells.injEq]at h2;exact hne h2.2.1
theorem A8{w:World}{B:Nat}{e:TypeId}{s n:Nat}{v:Value}{xs:List Value}(h:w.ownsRow B e s v n xs){j:Nat}{c:Array Value}{t:TypeId}{r:Nat×Nat}(hj:w.heap[j]?=some (.cells c t r))(hne:e≠t):v.ownBlock≠some j:=by
 intro k
 rcases h.2 with⟨h',_⟩|⟨g,cap,cur,h',_,hgb,_⟩
 ·rw [h']at k;cases k
 ·rw [h']at k;simp only [Value.ownBlock,Ase]at k;subst k;rw [hgb]at hj;simp only [Ase,Obj.cells.injEq]at hj;exact hne hj.2.1
theorem Hd{w:World}{B n b:Nat}{e:TypeId}{s:Nat}{xs:List Value}{cap:Nat}(h:w.ownsRow B e s (.slice (some ⟨b,0,none⟩) n cap) n xs):∃cur,w.heap[b]?=some (.cells cur e (0,0)):=by
 rcases h.2 with⟨h',_⟩|⟨g,cap,cur,h',_,hgb,_⟩
 ·cases h'
 ·simp only [Value.slice.injEq,Ase,Addr.mk.injEq,and_true,true_and]at h';obtain⟨rfl,-⟩:=h';exact⟨cur,hgb⟩
theorem Da{w:World}{p:Addr}{v:Value}{q:Nat}(h:q≠p.block):(w.setCell p v).heap[q]?=w.heap[q]?:=Below.heap_setCell _ _ _ _ h
theorem aM{w:World}{b:Nat}{a0 a1 a2:Value}{t:TypeId}(v:Value)(h:w.heap[b]?=some (.cells #[a0,a1,a2] t)):(w.setCell ⟨b,2,none⟩ v).heap[b]?=some (.cells #[a0,a1,v] t):=by
 simp only [World.setCell,Array.getElem?_modify,h];simp
theorem Zf(l:List Int)(m:Nat)(z:Int):(zs l).set m (.int .i64 z)=zs (l.set m z):=by simp [zs]
theorem vF:∀(l:List Int) (m:Nat) (z:Int) (h:m<l.length),l[m]=0→z≠0→(l.set m z).countP (fun z=>z == 0)+1=l.countP (fun z=>z == 0)
 | a::l,0,z,_,h0,hz=>by
  simp only [List.getElem_cons_zero]at h0;subst h0;have:(z == 0)=false:=beq_false_of_ne hz;simp [this]
 | a::l,m+1,z,h,h0,hz=>by have:=vF l m z (by simpa using h) (by simpa using h0) hz;simp only [List.set_cons_succ,List.countP_cons];omega
theorem IZ.extn{w w':World}{B n bx AU bM bU:Nat}{U:Option Addr}{cu:Nat}{units:List Bs}{P E F:Value}{nums:List Int}{Ag:List Bs}(h:IZ w B n bx AU bM bU U cu units P E F nums Ag)(hx:Aa w w'):IZ w' B n bx AU bM bU U cu units P E F nums Ag:=
 ⟨(hx.block _ (ArX h.cN)).trans h.cN,Ao h.num hx,(hx.block _ (ArX h.cM)).trans h.cM,Ao h.fac hx,(hx.block _ (ArX h.cU)).trans h.cU,Ao h.uni hx,h.uB,h.lenN,h.lenU,h.cu1,h.cu2,h.rng,h.cnt,h.txt⟩
theorem IZ.step{w:World}{B n bx AU bM bU:Nat}{U:Option Addr}{cu:Nat}{units:List Bs}{P E F:Value}{nums:List Int}{Ag:List Bs}(h:IZ w B n bx AU bM bU U cu units P E F nums Ag){m:Nat}(hm:m<nums.length)(hz:nums[m]=0){s:Bs}(hs:s∈units){X:Obj}{W7:World}{F':Value}
  (hg:((w.alloc X).drew).grownBy W7 F.ownBlock) (ho:W7.ownsRow B 9 1 F' (Ag.length+1) ((Ag ++ [s]).map S)) :
  IZ ((W7.setCell ⟨bM,2,none⟩ F').setCell ⟨AU,m,none⟩ (.int .i64 ((Ag.length:Int)+1))) B n bx AU bM bU U cu units P E F' (nums.set m ((Ag.length:Int)+1)) (Ag ++ [s])/\Ar (fun k=>k=AU∨k=bM∨F.ownBlock=some k) w ((W7.setCell ⟨bM,2,none⟩ F').setCell ⟨AU,m,none⟩ (.int .i64 ((Ag.length:Int)+1)))
  /\(W7.setCell ⟨bM,2,none⟩ F').heap[bx]?=some (.cells #[.slice (some ⟨AU,0,none⟩) n n] 69)/\(W7.setCell ⟨bM,2,none⟩ F').heap[bM]?=some (.cells #[P,E,F'] 36)/\(W7.setCell ⟨bM,2,none⟩ F').ownsRow 0 3 1 (.slice (some ⟨AU,0,none⟩) n n) n (zs nums):=by
 obtain⟨cn,Bl⟩:=Hd h.num;have E4:Aa w ((w.alloc X).drew):=((Aa.refl w).alloc X).drew;have n1:=Ds Bl h.cM (by decide);have n2:=Ds h.cN Bl (by decide);have n3:=Ds h.cN h.cM (by decide);have n4:=Ds h.cU Bl (by decide);have n5:=Ds h.cU h.cM (by decide);have f1:=A8 h.fac Bl (by decide);have f2:=A8 h.fac h.cM (by decide);have f3:=A8 h.fac h.cN (by decide);have f4:=A8 h.fac h.cU (by decide);have g7:∀{j:Nat} {o:Obj},w.heap[j]?=some o→F.ownBlock≠some j→W7.heap[j]?=some o:=fun {j o} hj hn=>(hg.block j (Asj (ArX hj) E4.size) (fun e=>hn e.symm)).trans ((E4.block j (ArX hj)).trans hj);have DY:=g7 h.cM f2;have Wu:=g7 Bl f1;have WP:Ar (fun k=>k=AU∨k=bM∨F.ownBlock=some k) w W7:=((Ar.refl _ w).ext E4).grown hg (fun k e=>.inl (.inr (.inr e)));have FV:=(WP.setCell (p:=⟨bM,2,none⟩) (.inl (.inr (.inl rfl))) F').setCell (p:=⟨AU,m,none⟩) (.inl (.inl rfl)) (.int .i64 ((Ag.length:Int)+1))
 have o7:W7.ownsRow 0 3 1 (.slice (some ⟨AU,0,none⟩) n n) n (zs nums):=(Ao h.num E4).kept hg (by
  cases hF:F.ownBlock with
  | none=>exact .inr (by simp [Value.ownBlock])
  | some k=>refine .inr (fun e=>f1 ?_);rw [hF];exact e.symm)
 have o8:=BG (K:=fun k=>k=bM) o7 ((Ar.refl (fun k=>k=bM) W7).setCell (p:=⟨bM,2,none⟩) (.inl rfl) F') (fun k hk e=>by simp only [Value.ownBlock,Ase]at hk;omega);have o9:=(o8.stored m (.int .i64 ((Ag.length:Int)+1))).1;rw [Zf]at o9;have q1:=A8 ho DY (by decide);have q2:=A8 ho Wu (by decide);refine⟨⟨?_,o9,?_,?_,?_,?_,h.uB,by rw [List.length_set];exact h.lenN,h.lenU,h.cu1,h.cu2,?_,?_,?_⟩,FV,by rw [Da (by show bx≠bM;exact n3)];exact g7 h.cN f3,aM F' DY,o8⟩
 ·rw [Da (by show bx≠AU;exact n2),Da (by show bx≠bM;exact n3)];exact g7 h.cN f3
 ·rw [Da (by show bM≠AU;exact fun e=>n1 e.symm)];exact aM F' DY
 ·rw [List.length_append,List.length_singleton];refine BG (K:=fun k=>k=AU∨k=bM) ho (((Ar.refl (fun k=>k=AU∨k=bM) W7).setCell (p:=⟨bM,2,none⟩) (.inl (.inr rfl)) F').setCell (p:=⟨AU,m,none⟩) (.inl (.inl rfl)) _) ?_;rintro k hk (e|e)
  ·subst e;exact q2 hk
  ·subst e;exact q1 hk
 ·rw [Da (by show bU≠AU;exact n4),Da (by show bU≠bM;exact n5)];exact g7 h.cU f4
 ·have u1:=Ao h.uni E4
  have u2:=u1.kept hg (by
   cases hF:(Value.slice U n cu).ownBlock with
   | none=>exact .inl rfl
   | some k=>
    refine .inr (fun e=>?_);have h1:=h.uB k hF;have h2:=(h.fac.lt k e.symm).1
    omega)
  refine BG (K:=fun k=>k=AU∨k=bM) u2 (((Ar.refl (fun k=>k=AU∨k=bM) W7).setCell (p:=⟨bM,2,none⟩) (.inl (.inr rfl)) F').setCell (p:=⟨AU,m,none⟩) (.inl (.inl rfl)) _) ?_;rintro k hk (e|e)
  ·subst e;exact A8 h.uni Bl (by decide) hk
  ·subst e;exact A8 h.uni h.cM (by decide) hk
 ·intro z hz';rw [List.length_append,List.length_singleton]
  rcases List.mem_or_eq_of_mem_set hz' with k|k
  ·have:=h.rng z k;omega
  ·omega
 ·have h1:=vF nums m ((Ag.length:Int)+1) hm hz (by omega);have h2:=h.cnt;rw [List.length_append,List.length_singleton];omega
 ·intro x hx
  rcases List.mem_append.1 hx with k|k
  ·exact h.txt x k
  ·simp only [Asn]at k;rw [k];exact hs
def Adi(w:World)(B n bx AU bM bU:Nat)(U:Option Addr)(cu:Nat)(units:List Bs)(P E F:Value)(e:Ending)(w':World):Prop:=
 ∃z F' B8 AV,e=.returned (.int .i64 z)/\IZ w' B n bx AU bM bU U cu units P E F' B8 AV/\Ar (fun k=>k=AU∨k=bM∨F.ownBlock=some k) w w'
theorem vq{w:World}{B n bx AU bM bU:Nat}{U:Option Addr}{cu:Nat}{units:List Bs}{P E F:Value}{nums:List Int}{Ag:List Bs}(h:IZ w B n bx AU bM bU U cu units P E F nums Ag)(hn:n<=100000)(hB:B<=w.heap.size)(f:Int)(hf0:-1<=f)(OJ:f<(n:Int)) :
  Calls Tryz.prog 196 #[.int .i64 f,.pointer (some ⟨bx,0,none⟩),.pointer (some ⟨bM,0,none⟩),.pointer (some ⟨bU,0,none⟩)] w (Adi w B n bx AU bM bU U cu units P E F):=by
 by_cases LI:f<0
 ·go_enter Tryz.func196,Tryz.ntmps196;go_wp2;go_ret;exact⟨-1,F,nums,Ag,rfl,h,Ar.refl _ _⟩
 ·obtain⟨m,rfl⟩:∃m:Nat,f=(m:Int):=⟨f.toNat,by omega⟩;have hm:m<n:=(by omega);have hm0:(0:Int)<=(m:Int):=(by omega);have k0:=Ab (o:=0) h.cN rfl;obtain⟨z,hz⟩:∃z,z=nums[m]'(by rw [h.lenN];exact hm):=⟨_,rfl⟩
  have hc:w.cell? ⟨AU,m,none⟩=some (.int .i64 z):=by rw [h.num.cellAt m (by omega),hz];simp [zs,Asf (show m<nums.length by rw [h.lenN];exact hm)]
  have hr:=h.rng z (by rw [hz];exact Asa _);have DJ:Ag.length<=n:=(by have:=h.cnt;omega);by_cases hz0:z=0
  ·subst hz0;have HZ:=ArW hz;clear hz;have D2:=h.lenU;obtain⟨U',cu',gw,hrU,-,-⟩:=Ae.of_own' (by omega) h.uni;simp only [Value.slice.injEq,true_and]at gw;obtain⟨rfl,rfl⟩:=gw;obtain⟨bu,ou,rfl,hu⟩:=hrU.ad (by simp;omega);have kE:=hu m (by simp;omega);obtain⟨s,hs⟩:∃s,s=units[m]'(by rw [D2];exact hm):=⟨_,rfl⟩;rw [List.getElem_map,←hs]at kE;have HS:=ArW hs;clear hs;obtain⟨oF,cF,rfl,-,-,-⟩:=Ae.of_own' (by omega) h.fac;have k1:w.cell? ⟨bM,2,none⟩=some (.slice oF Ag.length cF):=Ab h.cM rfl;have k2:=Ab (o:=0) h.cU rfl;have Arr:(m:Int)<(n:Int):=(by omega);clear hu;go_enter Tryz.func196,Tryz.ntmps196
   go_upto_region 4 with fail
   have dQ:(Value.slice oF Ag.length cF).ownBlock≠some bM:=A8 h.fac h.cM (by decide);have dY:=ArX h.cM;have hfc:=h.fac;have OE:=h.cM;have iF:Ag.length<200000:=by omega
   go_region_law (refine Abe rfl _ _ rfl _ B (.slice oF Ag.length cF) Ag.length Ag rfl (Ao hfc (by first|exact(Aa.refl w).alloc _|exact((Aa.refl w).alloc _).drew)) iF s w.heap.size (ArY w _) rfl (by simp;omega) ?_;intro v7 w7 Dm Ia EB;obtain⟨IK,Iz,rfl,-,-,-⟩:=Ae.of_own' (by omega) Dm;have DY:=(EB.block bM (by simp;omega) (fun e=>dQ e.symm)).trans ((((Aa.refl w).alloc _).block bM dY).trans OE);have e1:w7.cell? ⟨bM,2,none⟩=some (.slice oF Ag.length cF):=Ab DY rfl;have e2:=AB (o:=2) DY)
   all_goals (
    obtain⟨N9,B9,x1,x2,x3⟩:=h.step (m:=m) (by rw [h.lenN];exact hm) HZ.out.symm (s:=s) (by rw [HS.out];exact Asa _) EB Dm;have y1:=Ab (o:=0) x1 rfl;have y2:(w7.setCell ⟨bM,2,none⟩ (.slice IK (Ag.length+1) Iz)).cell? ⟨bM,2,none⟩=some (.slice IK (Ag.length+1) Iz):=Ab x2 rfl
    have y3:(w7.setCell ⟨bM,2,none⟩ (.slice IK (Ag.length+1) Iz)).cell? ⟨AU,m,none⟩=some (.int .i64 0):=by rw [x3.cellAt m (by omega)];have:=HZ.out;simp [zs,Asf (show m<nums.length by rw [h.lenN];exact hm),←this]
    have y4:=x3.frozenAt m;have v1:=Ab (o:=0) N9.cN rfl
    have v2:(((w7.setCell ⟨bM,2,none⟩ (.slice IK (Ag.length+1) Iz)).setCell ⟨AU,m,none⟩ (.int .i64 ((Ag.length:Int)+1)))).cell? ⟨AU,m,none⟩=some (.int .i64 ((Ag.length:Int)+1)):=by rw [N9.num.cellAt m (by omega)];simp [zs,show m<nums.length by rw [h.lenN];exact hm]
    have hwr:IntKind.wrap .i64 (((Ag.length:Int)+1)-1)=(Ag.length:Int):=(by rw [Asg _ (by omega)];omega);clear DY e1 e2 EB Dm Ia x1 x2 x3;generalize (w7.setCell ⟨bM,2,none⟩ (.slice IK (Ag.length+1) Iz))=W8 at *;have HN:=ArW N9;have HB:=ArW B9;clear N9 B9;go_wp2;go_ret
    exact⟨(Ag.length:Int),_,_,_,by go_num,HN.out,HB.out⟩)
  ·have hzw:IntKind.wrap .i64 (z-1)=z-1:=Asg _ (by omega);clear hz;go_enter Tryz.func196,Tryz.ntmps196;go_wp2;go_ret;exact⟨z-1,F,nums,Ag,rfl,h,Ar.refl _ _⟩
def lenV:Value→Nat
 | .slice _ n _=>n
 | _=>0
theorem Ako{w:World}{B:Nat}{e:TypeId}{s n:Nat}{v:Value}{xs:List Value}(h:w.ownsRow B e s v n xs):lenV v=n:=by
 rcases h.2 with⟨h',rfl⟩|⟨g,cap,cur,h',_⟩
 ·rw [h'];rfl
 ·rw [h'];rfl
theorem mN{w:World}{B:Nat}{e:TypeId}{s n c:Nat}{A:Option Addr}{xs:List Value}(h:w.ownsRow B e s (.slice A n c) n xs)(hn:0<n):∃g,A=some ⟨g,0,none⟩:=by
 rcases h.2 with⟨h',_⟩|⟨g,cap,cur,h',_⟩
 ·simp only [Value.slice.injEq]at h';omega
 ·simp only [Value.slice.injEq]at h';exact⟨g,h'.1⟩
theorem fk:∀(l:List Hf) (k:Nat) (y:Hf),(((((Bd l).set (k*5) (S (R y.a.x))).set (k*5+1) (S (R y.a.y))).set (k*5+2) (S (R y.b.x))).set (k*5+3) (S (R y.b.y))).set (k*5+4) (.int .i64 y.l)=Bd (l.set k y)
 | [],_,_=>by simp [Bd]
 | p::l,0,_=>rfl
 | p::l,k+1,y=>by
  have e:Bd (p::l)=S (R p.a.x)::S (R p.a.y)::S (R p.b.x)::S (R p.b.y) :: .int .i64 p.l::Bd l:=rfl;have e1:(k+1)*5=k*5+1+1+1+1+1:=(by omega);rw [e,e1];simp only [List.set_cons_succ,fk l k y]
  rfl
theorem yf{W:World}{B g n c:Nat}{l:List Hf}(h:W.ownsRow B 176 5 (.slice (some ⟨g,0,none⟩) n c) n (Bd l))(k:Nat)(y:Hf) :
  (((((W.setCell ⟨g,k*5,none⟩ (S (R y.a.x))).setCell ⟨g,k*5+1,none⟩ (S (R y.a.y))).setCell ⟨g,k*5+2,none⟩ (S (R y.b.x))).setCell ⟨g,k*5+3,none⟩ (S (R y.b.y))).setCell ⟨g,k*5+4,none⟩ (.int .i64 y.l)).ownsRow B 176 5 (.slice (some ⟨g,0,none⟩) n c) n (Bd (l.set k y)):=by
 have h5:=((((((((h.stored (k*5) (S (R y.a.x))).1.stored (k*5+1) (S (R y.a.y))).1.stored (k*5+2) (S (R y.b.x))).1).stored (k*5+3) (S (R y.b.y))).1).stored (k*5+4) (.int .i64 y.l))).1
 rwa [fk]at h5
theorem tO{K:Nat→Prop}{w W:World}(h:Ar K w W){g:Nat}(hg:K g)(k:Nat)(y:Hf) :
  Ar K w (((((W.setCell ⟨g,k*5,none⟩ (S (R y.a.x))).setCell ⟨g,k*5+1,none⟩ (S (R y.a.y))).setCell ⟨g,k*5+2,none⟩ (S (R y.b.x))).setCell ⟨g,k*5+3,none⟩ (S (R y.b.y))).setCell ⟨g,k*5+4,none⟩ (.int .i64 y.l)):=
 ((((h.setCell (p:=⟨g,k*5,none⟩) (.inl hg) _).setCell (p:=⟨g,k*5+1,none⟩) (.inl hg) _).setCell (p:=⟨g,k*5+2,none⟩) (.inl hg) _).setCell (p:=⟨g,k*5+3,none⟩) (.inl hg) _).setCell (p:=⟨g,k*5+4,none⟩) (.inl hg) _
theorem DT.set{n:Nat}{l:List Hf}(h:DT n l)(k:Nat){y:Hf}(hy:y∈l):DT n (l.set k y):=by
 intro z hz
 rcases List.mem_or_eq_of_mem_set hz with e|e
 ·exact h z e
 ·rw [e];exact h y hy
section
variable {ops : Array Oper} {rest : List Oper} {o : Oper} {a : Act} {Q : Exit → Act → World → Prop}
theorem AdG(hgd:o.guard=none)(s x:Operand)(ho:o.op=.call {callee:=.builtin .append,args:=#[s,x],argTypes:=#[33,33]})
  (wN:World) (base:Nat) (v:Value) (n:Nat) (l:List Pt) (hs:a.eval s=v) (hown:wN.ownsRow base 94 2 v n (flat (Ak l))) (hn:n<200000) (d:Pt)
  (g:Nat) (hb:wN.heap[g]?=some (.cells #[S (R d.x),S (R d.y)] 94)) (hx:a.eval x=.slice (some ⟨g,0,none⟩) 1 1) (hbase:base<=wN.heap.size)
  (h:∀v' w',w'.ownsRow base 94 2 v' (n+1) (flat (Ak (l ++ [d])))→wN.grownBy w' v.ownBlock→wpList Tryz.prog ops Q rest (a.put o.dst v') w') :
  wpList Tryz.prog ops Q (o::rest) a wN:=
 wpList_plain hgd fun _ hK=>AbJ s x ho wN base v n l hs hown hn d g hb hx hbase fun v' w' h1 _ h3=>hK _ _ (h v' w' h1 h3)
end
structure ME(W3 wr:World)(bM:Nat)(P:Value)(pts:List Pt):Prop where
 cM:wr.heap[bM]?=some (.cells #[P,.slice none 0 0,.slice none 0 0] 36)
 own:wr.ownsRow W3.heap.size 94 2 P pts.length (flat (Ak pts))
 but:Ar (fun q=>q=bM) W3 wr
 sheet:∀p∈pts,C3 p
theorem ME.ext{W3 wr w':World}{bM:Nat}{P:Value}{pts:List Pt}(h:ME W3 wr bM P pts)(hx:Aa wr w'):ME W3 w' bM P pts:=
 ⟨(hx.block _ (ArX h.cM)).trans h.cM,Ao h.own hx,h.but.ext hx,h.sheet⟩
theorem ME.app{W3 wr W7:World}{bM:Nat}{P P':Value}{pts:List Pt}(h:ME W3 wr bM P pts)(EY:bM<W3.heap.size){p:Pt}(hp:C3 p){E4:World}(hE:Aa wr E4)(hg:E4.grownBy W7 P.ownBlock)(ho:W7.ownsRow W3.heap.size 94 2 P' (pts.length+1) (flat (Ak (pts ++ [p])))) :
  W7.heap[bM]?=some (.cells #[P,.slice none 0 0,.slice none 0 0] 36)/\ME W3 (W7.setCell ⟨bM,0,none⟩ P') bM P' (pts ++ [p]):=by
 have hne:=A8 h.own h.cM (by decide);have h7:=(hg.block bM (Asj (ArX h.cM) hE.size) (fun e=>hne e.symm)).trans ((hE.block bM (ArX h.cM)).trans h.cM);have hq:=A8 ho h7 (by decide);refine⟨h7,?_,?_,?_,?_⟩
 ·simp only [World.setCell,Array.getElem?_modify,h7];simp
 ·rw [List.length_append,List.length_singleton];exact BG (K:=fun q=>q=bM) ho ((Ar.refl (fun q=>q=bM) W7).setCell (p:=⟨bM,0,none⟩) (.inl rfl) P') (fun k hk e=>by subst e;exact hq hk)
 ·exact((h.but.ext hE).own hg (Ao h.own hE) (ArZ _)).setCell (p:=⟨bM,0,none⟩) (.inl rfl) P'
 ·intro x hx
  rcases List.mem_append.1 hx with k|k
  ·exact h.sheet x k
  ·simp only [Asn]at k;rw [k];exact hp
theorem AfE(l:List AD)(d:AD):B6 (l ++ [d])=B6 l ++ [.int .i64 d.f,.int .i64 d.t,.int .i64 d.l,.int .i64 d.r]:=by simp [B6]
section
variable {ops : Array Oper} {rest : List Oper} {o : Oper} {a : Act} {K : Act → World → Prop} {Q : Exit → Act → World → Prop} {E : Prop}
theorem AbH(s x:Operand)(ho:o.op=.call {callee:=.builtin .append,args:=#[s,x],argTypes:=#[34,34]})
  (wN:World) (base:Nat) (v:Value) (n:Nat) (l:List AD) (hs:a.eval s=v) (hown:wN.ownsRow base 126 4 v n (B6 l)) (hn:n<200000) (d:AD)
  (g:Nat) (hb:wN.heap[g]?=some (.cells #[.int .i64 d.f,.int .i64 d.t,.int .i64 d.l,.int .i64 d.r] 126)) (hx:a.eval x=.slice (some ⟨g,0,none⟩) 1 1) (hbase:base<=wN.heap.size)
  (h:∀v' w',w'.ownsRow base 126 4 v' (n+1) (B6 (l ++ [d]))→wN.grownBy w' v.ownBlock→K (a.put o.dst v') w') :
  Oper.wp Tryz.prog o a wN K Q:=by
 obtain⟨i0,hi,hz0,hz1,hz2⟩:=info_parts Tryz.infoEd;refine Zb s x 34 ho 126 i0 _ 4 32 1 Tryz.underlying34 hi hz0 hz1 hz2 rfl (by omega) (by omega) (by omega) wN base v n _ hs hown hn g _ hb rfl ?_ hx hbase ?_
 ·intro u hu;simp only [List.mem_cons,Asm,or_false]at hu
  rcases hu with rfl|rfl|rfl|rfl<;>rfl
 ·intro v' w' h1 _ h3;refine h v' w' ?_ h3;rw [AfE];exact h1
end
structure EN(W5 wr:World)(n bx AU bM bU:Nat)(U:Option Addr)(cu:Nat)(units:List Bs)(P E F:Value)(nums:List Int)(Ag:List Bs)(eds:List AD):Prop where
 nam:IZ wr W5.heap.size n bx AU bM bU U cu units P E F nums Ag
 own:wr.ownsRow W5.heap.size 126 4 E eds.length (B6 eds)
 but:Ar (fun q=>q=AU∨q=bM) W5 wr
theorem EN.extn{W5 wr w':World}{n bx AU bM bU:Nat}{U:Option Addr}{cu:Nat}{units:List Bs}{P E F:Value}{nums:List Int}{Ag:List Bs}{eds:List AD}(h:EN W5 wr n bx AU bM bU U cu units P E F nums Ag eds)(hx:Aa wr w'):EN W5 w' n bx AU bM bU U cu units P E F nums Ag eds:=
 ⟨h.nam.extn hx,Ao h.own hx,h.but.ext hx⟩
theorem EN.name{W5 wr w':World}{n bx AU bM bU:Nat}{U:Option Addr}{cu:Nat}{units:List Bs}{P E F F':Value}{nums B8:List Int}{Ag AV:List Bs}{eds:List AD}(h:EN W5 wr n bx AU bM bU U cu units P E F nums Ag eds)
  (hn:IZ w' W5.heap.size n bx AU bM bU U cu units P E F' B8 AV) (hb:Ar (fun k=>k=AU∨k=bM∨F.ownBlock=some k) wr w'):EN W5 w' n bx AU bM bU U cu units P E F' B8 AV eds:=by
 obtain⟨cn,Bl⟩:=Hd h.nam.num;refine⟨hn,BG h.own hb ?_,?_⟩
 ·rintro k hk (e|e|e)
  ·subst e;exact A8 h.own Bl (by decide) hk
  ·subst e;exact A8 h.own h.nam.cM (by decide) hk
  ·rcases h.nam.fac.2 with⟨h',_⟩|⟨g,cap,cur,h',_,hgb,_⟩
   ·rw [h']at e;cases e
   ·rw [h']at e;simp only [Value.ownBlock,Ase]at e;subst e;exact A8 h.own hgb (by decide) hk
 ·refine⟨hb.os.trans h.but.os,hb.tape.trans h.but.tape,hb.output.trans h.but.output,Asl h.but.size hb.size,fun k hk IE=>?_⟩;refine(hb.block k (Asj hk h.but.size) ?_).trans (h.but.block k hk IE);rintro(e|e|e)
  ·exact IE (.inl e)
  ·exact IE (.inr e)
  ·have:=(h.nam.fac.lt k e).1;omega
theorem EN.app{W5 wr W7:World}{n bx AU bM bU:Nat}{U:Option Addr}{cu:Nat}{units:List Bs}{P E E' F:Value}{nums:List Int}{Ag:List Bs}{eds:List AD}(h:EN W5 wr n bx AU bM bU U cu units P E F nums Ag eds)
  {d:AD} {X4:World} (hE:Aa wr X4) (hg:X4.grownBy W7 E.ownBlock) (ho:W7.ownsRow W5.heap.size 126 4 E' (eds.length+1) (B6 (eds ++ [d]))) :
  W7.heap[bM]?=some (.cells #[P,E,F] 36)/\EN W5 (W7.setCell ⟨bM,1,none⟩ E') n bx AU bM bU U cu units P E' F nums Ag (eds ++ [d]):=by
 have h4:=h.extn hE;obtain⟨cn,Bl⟩:=Hd h4.nam.num;have e1:=A8 h4.own h4.nam.cM (by decide);have e2:=A8 h4.own Bl (by decide);have e3:=A8 h4.own h4.nam.cN (by decide);have e4:=A8 h4.own h4.nam.cU (by decide);have g7:∀{j:Nat} {o:Obj},X4.heap[j]?=some o→E.ownBlock≠some j→W7.heap[j]?=some o:=fun {j o} hj hn=>(hg.block j (ArX hj) (fun e=>hn e.symm)).trans hj;have h7:=g7 h4.nam.cM e1;have n1:=Ds Bl h4.nam.cM (by decide);have n2:=Ds h4.nam.cN h4.nam.cM (by decide);have n3:=Ds h4.nam.cU h4.nam.cM (by decide);have bb:=(Ar.refl (fun k=>k=bM) W7).setCell (p:=⟨bM,1,none⟩) (.inl rfl) E'
 have kp:∀{e:TypeId} {s m:Nat} {v:Value} {xs:List Value} {B:Nat},X4.ownsRow B e s v m xs→e≠126→e≠36→(W7.setCell ⟨bM,1,none⟩ E').ownsRow B e s v m xs:=by
  intro e s m v xs B hv hne GT
  have Us:W7.ownsRow B e s v m xs:=hv.kept hg (by
   cases hE:E.ownBlock with
   | none=>cases hv':v.ownBlock with
    | none=>exact .inl rfl
    | some k=>exact .inr (by simp)
   | some k=>
    refine .inr (fun e0=>?_)
    rcases h4.own.2 with⟨h',_⟩|⟨g,cap,cur,h',_,hgb,_⟩
    ·rw [h']at hE;cases hE
    ·rw [h']at hE;simp only [Value.ownBlock,Ase]at hE;subst hE
     exact A8 hv hgb hne e0)
  exact BG Us bb (fun k hk e0=>by subst e0;exact A8 Us h7 GT hk)
 refine⟨h7,⟨?_,kp h4.nam.num (by decide) (by decide),?_,kp h4.nam.fac (by decide) (by decide),?_,kp h4.nam.uni (by decide) (by decide),h.nam.uB,h.nam.lenN,h.nam.lenU,h.nam.cu1,h.nam.cu2,h.nam.rng,h.nam.cnt,h.nam.txt⟩,?_,?_⟩
 ·rw [Da (by show bx≠bM;exact n2)];exact g7 h4.nam.cN e3
 ·simp only [World.setCell,Array.getElem?_modify,h7];simp
 ·rw [Da (by show bU≠bM;exact n3)];exact g7 h4.nam.cU e4
 ·rw [List.length_append,List.length_singleton];exact BG ho bb (fun k hk e0=>by subst e0;exact A8 ho h7 (by decide) hk)
 ·exact(h4.but.own hg h4.own (ArZ _)).setCell (p:=⟨bM,1,none⟩) (.inl (.inr rfl)) E'
structure MapAt(w:World)(n:Nat)(units:List Bs)(A B F:Option Addr)(c d g:Nat)(m:Bz)(Ag:List Bs):Prop where
 cap:JJ m c d g
 pts:Ae w A (flat (Ak m.pts))
 eds:Ae w B (B6 m.eds)
 fac:Ae w F (Ag.map S)
 nf:m.nf=Ag.length
 le:Ag.length<=n
 sheet:∀p∈m.pts,C3 p
 txt:∀s∈Ag,s∈units
structure PE(n:Nat)(A B F:Option Addr):Prop where
 a:∀x,A=some x→n<=x.block
 b:∀x,B=some x→n<=x.block
 f:∀x,F=some x→n<=x.block
theorem PE.mono{n k:Nat}{A B F:Option Addr}(h:PE n A B F)(hk:k<=n):PE k A B F:=
 ⟨fun x e=>Asl hk (h.a x e),fun x e=>Asl hk (h.b x e),fun x e=>Asl hk (h.f x e)⟩
theorem Ro{w:World}{B:Nat}{e:TypeId}{s n k c:Nat}{A:Option Addr}{xs:List Value}(h:w.ownsRow B e s (.slice A k c) n xs):∀x,A=some x→B<=x.block:=by
 rintro x rfl;exact(h.lt x.block rfl).1
def rD(w0:World)(n:Nat)(units:List Bs)(e:Ending)(w':World):Prop:=
 ∃A B F c d g m Ag,e=.returned (Bv A B F m c d g)/\MapAt w' n units A B F c d g m Ag/\Aa w0 w'/\PE w0.heap.size A B F
end Go.Proofs.YtbejphgbbpplbaaGreatDoor
