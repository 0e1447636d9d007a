/- X35: BC BD BE C4 D1 D3 D6. -/
import Derived.Test.YtjalkoacphhgdaaGreatDoorX34
set_option maxRecDepth 100000
set_option maxHeartbeats 16000000
namespace Go.Proofs.YtjalkoacphhgdaaGreatDoor
open Go.RowKit Kl Go.Sort
def Fw(l:List Pt):List Value:=flat (Ao l)
theorem td(l:List Pt)(d:Pt):Fw (l ++ [d])=Fw l ++ [S (R d.x),S (R d.y)]:=lJ l d
theorem ZP(W:World)(a b:Value)(t:TypeId):∀(j:Nat) (u:Value),[a,b][j]?=some u→(W.alloc (.cells #[a,b] t)).cell? ((⟨W.heap.size,0,none⟩:Addr).add j)=some u:=by
 intro j u hu;rw [Addr.add_lit,Nat.zero_add];refine Ab (AqJ W (.cells #[a,b] t)) ?_;rw [←Array.getElem?_toList];exact hu
def Z9:Code:=Code.region 2 #[{dst:=some 5,op:=Op.alloc 92,type:=0,pos:= "iter.go:51",after:=#[],guard:=none},{dst:=none,op:=Op.store 92 (Operand.tmp 5) (Operand.tmp 7),type:=0,pos:= "iter.go:51",after:=#[{on:=0,ground:=Ground.data},{on:=0,ground:=Ground.phase}],guard:=none}] false
def ZB:Code:=Code.block 1 (Code.region 3 #[{dst:=some 8,op:=Op.load 33 (Operand.tmp 2),type:=33,pos:= "iter.go:52",after:=#[],guard:=none},{dst:=some 9,op:=Op.load 92 (Operand.tmp 5),type:=92,pos:= "iter.go:52",after:=#[],guard:=none},{dst:=some 10,op:=Op.buildSlice 33 1 #[(0,Operand.tmp 9)],type:=33,pos:= "iter.go:52",after:=#[{on:=1,ground:=Ground.data}],guard:=none},{dst:=some 11,op:=Op.call {callee:=Callee.builtin Builtin.append,args:=#[Operand.tmp 8,Operand.tmp 10],argTypes:=#[33,33]},type:=33,pos:= "iter.go:52",after:=#[{on:=0,ground:=Ground.data},{on:=2,ground:=Ground.data}],guard:=none},{dst:=none,op:=Op.store 33 (Operand.tmp 2) (Operand.tmp 11),type:=0,pos:= "iter.go:52",after:=#[{on:=3,ground:=Ground.data},{on:=3,ground:=Ground.chain},{on:=0,ground:=Ground.phase},{on:=1,ground:=Ground.phase},{on:=2,ground:=Ground.phase},{on:=3,ground:=Ground.phase}],guard:=none}] false)
def IV(fn:FuncId)(sv:Value)(Bs D:Nat)(st:LoopState)(pend:Option Code):Loop:=
 {state:=st,pending:=pend,fn,tmps:=#[.slice none 0 0,sv,.pointer (some ⟨Bs,0,none⟩),undef,.slice none 0 0,undef,sv,undef,undef,undef,undef,undef,undef],params:=#[7],assign:=Z9,body:=ZB,defers:=D}
structure Ra(w0:World)(fn:FuncId)(sv:Value)(Bs l D:Nat)(ss:List Pt)(W:World):Prop where
 box:∃v,W.heap[Bs]?=some (.cells #[v] 33 (0,0))/\W.ownsRow w0.heap.size 92 2 v ss.length (Fw ss)
 L:W.heap[l]?=some (.loop (IV fn sv Bs D .ready none))
 K:W.heap[D]?=some (.deferred (some []))
 below:Below w0.heap.size w0 W
theorem qQ(w0:World)(fn:FuncId)(sv:Value)(Bs l D B:Nat)(hB:w0.heap.size<=B):AbidesFrom B (Ra w0 fn sv Bs l D):=fun s W W' row h hg hrow=>by
 have hrow':∀r,row=some r→∃o:Obj,W.heap[r]?=some o/\o.isWalk=true:=fun r e=>(hrow r e).2;obtain⟨v,hv,hr⟩:=h.box
 exact⟨⟨v,(grownBy_keeps hg hrow' hv rfl).trans hv,ownsRow_abides hr hg hrow'⟩,(grownBy_keeps hg hrow' h.L rfl).trans h.L,(grownBy_keeps hg hrow' h.K rfl).trans h.K,
  h.below.grown hg h.below.size (fun k e=>AqU hB (hrow k e).1)⟩
theorem Ack (F : Fence) (m : Nat) (w0 : World) (fn : FuncId) (hfn : F.fn fn) (sv : Value) (Bs l D : Nat) (hBl : Bs ≠ l) (hDl : D ≠ l) (hDB : D ≠ Bs) (h0B : w0.heap.size ≤ Bs) (h0l : w0.heap.size ≤ l)
    (N : Nat) (hN : N ≤ 200000) (ss : List Pt) (x : Pt) (W : World) (h : Ra w0 fn sv Bs l D ss W) (hlen : ss.length < N) :
    YieldAt F m Tryz.prog l #[Ak x] W fun e W' => e = .returned (.bool true) ∧ Ra w0 fn sv Bs l D (ss ++ [x]) W' ∧ KeepsWalks W W' := by
  have hne : 33 ≠ 92 := by decide
  obtain ⟨i0, hi, hz0, hz1, hz2⟩ := info_parts Tryz.infoPt
  obtain ⟨v, hv, hrow⟩ := h.box
  refine ⟨fn, #[.slice none 0 0, sv, .pointer (some ⟨Bs, 0, none⟩), undef, .slice none 0 0, undef, sv, Ak x, undef, undef, undef, undef, undef], Z9, ZB, by simpa [IV] using run_yield (P := Tryz.prog) (args := #[Ak x]) h.L rfl, roundIn_of_wpIn hfn ?_⟩
  have hka : KeepsWalks W (W.alloc (.cells #[S (R x.x), S (R x.y)] 92)) := KeepsWalks.alloc _ _
  have ha := qQ w0 fn sv Bs l D W.heap.size h.below.size ss W _ none h (G0 ((Aa.refl W).alloc (.cells #[S (R x.x), S (R x.y)] 92)) none) (fun r e => by cases e)
  have Gk := AqJ W (.cells #[S (R x.x), S (R x.y)] 92)
  have Tg : l < W.heap.size := (Array.getElem?_eq_some_iff.1 h.L).1
  unfold Z9
  unfold Ak
  gi_wp2_with (rw [Oper.semAt_eq _ _ _ (fun c h => by cases h)]; go_simp; try go_bits)
  obtain ⟨bv, CX⟩ := AqG W.heap.size
  rw [← CX] at Gk Tg ⊢
  unfold S at ha Gk hka
  clear CX h hv hrow
  generalize dH : W.alloc (.cells #[.string ⟨(R x.x).toArray⟩, .string ⟨(R x.y).toArray⟩] 92) = Wa at *
  clear dH
  obtain ⟨v, hv, hrow⟩ := ha.box
  have hl : l < Wa.heap.size := (Array.getElem?_eq_some_iff.1 ha.L).1
  have hbr := run_beginRound (P := Tryz.prog) ha.L rfl
  obtain ⟨W2, hW2⟩ : ∃ W2, Wa.putObj l (.loop { IV fn sv Bs D .ready none with state := .busy }) = W2 := ⟨_, rfl⟩
  rw [hW2] at hbr
  have hg2 : Wa.grownBy W2 (some l) := by rw [← hW2]; exact grownBy_putObj _ _ _
  have hk2 : KeepsWalks Wa W2 := by rw [← hW2]; exact KeepsWalks.putObj _ ha.L rfl
  have hv2 : W2.heap[Bs]? = some (.cells #[v] 33 (0, 0)) := by rw [← hW2]; exact (World.putObj_heap_other hBl).trans hv
  have Da : W2.heap[bv]? = some (.cells #[S (R x.x), S (R x.y)] 92) := by rw [← hW2]; exact (World.putObj_heap_other (by omega)).trans Gk
  have hK2 : W2.heap[D]? = some (.deferred (some [])) := by rw [← hW2]; exact (World.putObj_heap_other hDl).trans ha.K
  have hL2 : W2.heap[l]? = some (.loop { IV fn sv Bs D .ready none with state := .busy }) := by rw [← hW2]; exact World.putObj_heap_same hl
  have hrow2 : W2.ownsRow w0.heap.size 92 2 v ss.length (Fw ss) := hrow.kept hg2 (ownsRow_ne hrow ha.L (fun cur e => by first | cases e | exact hne (Obj.cells.inj e).2.1))
  have hb2 : Below w0.heap.size w0 W2 := ha.below.grown hg2 ha.below.size (fun k e => by cases e; exact h0l)
  obtain ⟨hc2, hf2⟩ := cell_of_box hv2
  have hBlt : Bs < W2.heap.size := (Array.getElem?_eq_some_iff.1 hv2).1
  have hl2 : l < W2.heap.size := (Array.getElem?_eq_some_iff.1 hL2).1
  have hDlt : D < W2.heap.size := (Array.getElem?_eq_some_iff.1 hK2).1
  have ne_of : ∀ {j : Nat} {o : Obj}, W2.heap[j]? = some o → (∀ cur, o ≠ .cells cur 92 (0, 0)) → some j ≠ v.ownBlock := fun hj hno => by
    rcases ownsRow_ne hrow2 hj hno with e | e
    · rw [e]; simp
    · exact fun e' => e e'.symm
  have q0 := Ab (o := 0) Da rfl
  have q1 := Ab (o := 1) Da rfl
  have fO : W2.heap.size ≠ l := by omega
  clear hW2 ha hv hrow Gk Da
  refine ⟨W2, hbr, ?_⟩
  unfold ZB
  gi_wp2_with (first
    | (gi_at_builtin; refine wpListIn_append_own _ rfl _ _ 33 rfl w0.heap.size 92 i0 (.agg #[S [], S []]) 2 32 Tryz.underlying33 hi hz0 hz1 hz2 rfl (by decide) _ _ _ rfl (hrow2.alloc _) ⟨W2.heap.size, 0, none⟩ 1 1 [S (R x.x), S (R x.y)] rfl rfl (ZP _ _ _ _) (by simp [Value.oneCell']) (by unfold maxLen; omega) (by omega) (by have := hb2.size; simp; omega) ?_; intro v' w3 hown' hg3 hnil3
       have hv3 : w3.heap[Bs]? = some (.cells #[v] 33 (0, 0)) := (hg3.block Bs (by simp; omega) (ne_of hv2 (fun cur e => by first | cases e | exact hne (Obj.cells.inj e).2.1))).trans ((Below.heap_alloc _ _ Bs hBlt).trans hv2)
       obtain ⟨hc3, hf3⟩ := cell_of_box hv3
       obtain ⟨g', cap', cur', rfl, hbase', hgb', hr1, hr2, hr3, hr4⟩ : ∃ g' cap' cur', v' = .slice (some ⟨g', 0, none⟩) (ss.length + 1) cap' ∧ w0.heap.size ≤ g' ∧ w3.heap[g']? = some (.cells cur' 92 (0, 0)) ∧ ss.length + 1 ≤ cap' ∧ cap' ≤ maxLen ∧ cur'.size = cap' * 2 ∧ cur'.toList.take ((ss.length + 1) * 2) = Fw ss ++ [S (R x.x), S (R x.y)] := by
         rcases hown'.2 with ⟨_, h0⟩ | h'
         · exact absurd h0 (by omega)
         · exact h'
       go_frame)
    | (rw [Oper.semAt_eq _ _ _ (fun c h => by cases h)]; go_simp; try go_bits))
  have hg3' : (W2.alloc (.cells #[S (R x.x), S (R x.y)] 92)).grownBy w3 v.ownBlock := hg3
  have hL3 : w3.heap[l]? = some (.loop { IV fn sv Bs D .ready none with state := .busy }) := (hg3'.block l (by simp; omega) (ne_of hL2 (fun cur e => by first | cases e | exact hne (Obj.cells.inj e).2.1))).trans ((Below.heap_alloc _ _ l hl2).trans hL2)
  have hK3 : w3.heap[D]? = some (.deferred (some [])) := (hg3'.block D (by simp; omega) (ne_of hK2 (fun cur e => by first | cases e | exact hne (Obj.cells.inj e).2.1))).trans ((Below.heap_alloc _ _ D hDlt).trans hK2)
  obtain ⟨w4, hw4⟩ : ∃ w4, w3.setCell ⟨Bs, 0, none⟩ (.slice (some ⟨g', 0, none⟩) (ss.length + 1) cap') = w4 := ⟨_, rfl⟩
  rw [hw4]
  have hg4 : w3.grownBy w4 (some Bs) := by rw [← hw4]; exact grownBy_setCell0 _ _ _
  have hv4 : w4.heap[Bs]? = some (.cells #[.slice (some ⟨g', 0, none⟩) (ss.length + 1) cap'] 33 (0, 0)) := by rw [← hw4]; exact heap_setCell_box _ hv3
  have hL4 : w4.heap[l]? = some (.loop { IV fn sv Bs D .ready none with state := .busy }) := (hg4.block l (Array.getElem?_eq_some_iff.1 hL3).1 (fun e => hBl (by cases e; rfl))).trans hL3
  have hK4 : w4.heap[D]? = some (.deferred (some [])) := (hg4.block D (Array.getElem?_eq_some_iff.1 hK3).1 (fun e => hDB (by cases e; rfl))).trans hK3
  have hrow4 := hown'.kept hg4 (ownsRow_ne hown' hv3 (fun cur e => by first | cases e | exact hne (Obj.cells.inj e).2.1))
  have hl4 : l < w4.heap.size := (Array.getElem?_eq_some_iff.1 hL4).1
  have hb3 : Below w0.heap.size w0 w3 := (hb2.alloc hb2.size _).grown hg3' (by have := hb2.size; simp; omega) (fun k e => (hrow2.lt k e).1)
  have hb4 : Below w0.heap.size w0 w4 := hb3.grown hg4 hb3.size (fun k e => by cases e; exact h0B)
  have hk4 : KeepsWalks W w4 := (hka.trans ((hk2.trans (KeepsWalks.alloc _ _)).trans (KeepsWalks.of_grownBy hg3' (ownsRow_not_walk (hrow2.alloc _))))).trans (by rw [← hw4]; exact KeepsWalks.setCell _ _ _)
  clear hw4
  refine ⟨_, _, run_endRound none hL4, rfl, ⟨⟨_, (World.putObj_heap_other hBl).trans hv4, ?_⟩, World.putObj_heap_same hl4, (World.putObj_heap_other hDl).trans hK4, hb4.grown (grownBy_putObj _ _ _) hb4.size (fun k e => by cases e; exact h0l)⟩, hk4.trans (KeepsWalks.putObj _ hL4 rfl)⟩
  have := hrow4.kept (grownBy_putObj w4 l (.loop { { IV fn sv Bs D .ready none with state := .busy } with state := if (none : Option Code).isNone then .ready else .done, pending := none })) (ownsRow_ne hrow4 hL4 (fun cur e => by first | cases e | exact hne (Obj.cells.inj e).2.1))
  rw [td]
  simpa using this
theorem Acp(F:Fence)(n:Nat)(h11:F.fn 325)(hro:F.round=none)(hn:2<=n)(g:Nat)(lb:Array Value)(hFg:F.fn g)(eg:∀args w,(callFunc g args).run Tryz.prog w=.ok (.enter g args) w)
  (S:List Pt→Prop) (N:Nat) (hN:N<=200000) (w:World) (hseq:SeqGives F (n-1) Tryz.prog g lb Ak S N w) :
  CallsIn F n Tryz.prog 325 #[.slice none 0 0,.func (.func g) #[] lb] w fun e w'=>∃(v:Value) (ss:List Pt),e=.returned v/\S ss/\w'.ownsRow w.heap.size 92 2 v ss.length (Fw ss)/\Below w.heap.size w w':=by
 have h1:1<=n:=(by omega);have hne:33≠92:=(by decide);refine callsIn_of_wp_marks Tryz.func325 rfl h11 ?_ hro;simp only [Tryz.ntmps325,List.size_toArray,List.length_cons,List.length_nil,Nat.reduceAdd,Nat.reduceSub,Array.replicate_succ,Array.replicate_zero,List.push_toArray,List.append_toArray,List.nil_append,List.cons_append];gi_wp2;refine wpIn_rangeFunc ?_;intro fn hfn;rw [hro];obtain⟨W0,hW0⟩:∃W0,w.alloc (.cells #[.slice none 0 0] 33)=W0:=⟨_,rfl⟩;have hs0:W0.heap.size=w.heap.size+1:=(by rw [←hW0];simp);have hv0:W0.heap[w.heap.size]?=some (.cells #[.slice none 0 0] 33 (0,0)):=(by rw [←hW0];exact World.alloc_heap_new w _);have hb0:Below w.heap.size w W0:=(by rw [←hW0];exact(Below.refl _ w).alloc (AqK _) _);rw [hW0];obtain⟨W1,hW1⟩:∃W1,(W0.alloc (.deferred (some []))).alloc (.loop (IV fn (.func (.func g) #[] lb) w.heap.size W0.heap.size .ready none))=W1:=⟨_,rfl⟩
 have hold:∀k,k<W0.heap.size→W1.heap[k]?=W0.heap[k]?:=fun k hk=>by rw [←hW1];exact(Below.heap_alloc _ _ k (by simp;omega)).trans (Below.heap_alloc _ _ k hk)
 have hb1:Below w.heap.size w W1:=(by rw [←hW1];exact(hb0.alloc hb0.size _).alloc (by have:=hb0.size;simp;omega) _);have hs1:W1.heap.size=W0.heap.size+2:=by rw [←hW1];simp
 have hM:Ra w fn (.func (.func g) #[] lb) w.heap.size (W0.heap.size+1) W0.heap.size [] W1:=
  ⟨⟨_,(hold w.heap.size (by omega)).trans hv0,⟨rfl,.inl ⟨rfl,rfl⟩⟩⟩,
   by rw [←hW1];have:=World.alloc_heap_new (W0.alloc (.deferred (some []))) (.loop (IV fn (.func (.func g) #[] lb) w.heap.size W0.heap.size .ready none));rwa [AqR]at this,
   by rw [←hW1];exact(Below.heap_alloc _ _ _ (by simp)).trans (World.alloc_heap_new W0 _),hb1⟩
 refine⟨W0.heap.size+1,[{target:=.collected W0.heap.size,args:=#[]}],W1,{target:=.fn (.func g) lb,args:=#[.func (.yield (W0.heap.size+1)) #[] #[]]},W1,g,
  #[.func (.yield (W0.heap.size+1)) #[] #[]]++lb,W1,?_,?_,?_,?_,fun _=>h1,?_⟩
 ·rw [←hW1];exact run_enterLoop_outer _ _ _ _ _
 ·simp [resolve,go_sem]
 ·intro f' hf';simp [Target.leads]at hf';subst hf';exact hFg
 ·simp [invoke,go_sem,eg]
 ·refine(hseq (W0.heap.size+1) (Ra w fn (.func (.func g) #[] lb) w.heap.size (W0.heap.size+1) W0.heap.size) W1 hb1 (qQ _ _ _ _ _ _ _ hb1.size)
   (fun pre x W hJ hl=>Ack F (n-1-1) w fn hfn _ w.heap.size (W0.heap.size+1) W0.heap.size (by omega) (by omega) (by omega) (AqK _) (by omega) N hN pre x W hJ hl) hM).mono ?_
  rintro e W2 ⟨⟨v0,rfl⟩,ss,hS,h2⟩;obtain⟨v,hv,hrow⟩:=h2.box;have hend:=run_endLoop (P:=Tryz.prog) h2.L (by simp [IV]);obtain⟨W3,hW3⟩:∃W3,W2.putObj (W0.heap.size+1) (.loop {IV fn (.func (.func g) #[] lb) w.heap.size W0.heap.size .ready none with state:=.exhausted})=W3:=⟨_,rfl⟩;rw [hW3]at hend;have hg3:W2.grownBy W3 (some (W0.heap.size+1)):=(by rw [←hW3];exact grownBy_putObj _ _ _);have hv3:W3.heap[w.heap.size]?=some (.cells #[v] 33 (0,0)):=(by rw [←hW3];exact(World.putObj_heap_other (by omega)).trans hv);have hK3:W3.heap[W0.heap.size]?=some (.deferred (some [])):=(by rw [←hW3];exact(World.putObj_heap_other (by omega)).trans h2.K);have hrow3:=hrow.kept hg3 (ownsRow_ne hrow h2.L (fun cur e=>by first|cases e|exact hne (Obj.cells.inj e).2.1));have hb3:Below w.heap.size w W3:=h2.below.grown hg3 h2.below.size (fun k e=>by cases e;omega);obtain⟨hc3,hf3⟩:=cell_of_box hv3;clear hW3;refine⟨none,W3,hend,?_⟩;gi_wp2;rw [←hs0];refine⟨by simp,.inl ⟨_,_,rfl,run_takeDeferred hK3,?_⟩⟩;exact⟨_,results_tmp rfl _ _ _,v,ss,rfl,hS,hrow3.kept (grownBy_putObj _ _ _) (ownsRow_ne hrow3 hK3 (fun cur e=>by first|cases e|exact hne (Obj.cells.inj e).2.1)),hb3.grown (grownBy_putObj _ _ _) hb3.size (fun k e=>by cases e;omega)⟩
theorem AdJ(F:Fence)(n:Nat)(h8:F.fn 266)(h11:F.fn 325)(hro:F.round=none)(hn:3<=n)(g:Nat)(lb:Array Value)(hFg:F.fn g)(eg:∀args w,(callFunc g args).run Tryz.prog w=.ok (.enter g args) w)
  (S:List Pt→Prop) (N:Nat) (hN:N<=200000) (w:World) (hseq:SeqGives F (n-1-1) Tryz.prog g lb Ak S N w) :
  CallsIn F n Tryz.prog 266 #[.func (.func g) #[] lb] w fun e w'=>∃(v:Value) (ss:List Pt),e=.returned v/\S ss/\w'.ownsRow w.heap.size 92 2 v ss.length (Fw ss)/\Below w.heap.size w w':=by
 have h1:1<=n:=(by omega);have e11:∀args w,(callFunc 325 args).run Tryz.prog w=.ok (.enter 325 args) w:=enters_of Tryz.func325 (by kernel_rfl) rfl;refine callsIn_of_wp Tryz.func266 rfl h8 ?_ hro;simp only [Tryz.ntmps266,List.size_toArray,List.length_cons,List.length_nil,Nat.reduceAdd,Nat.reduceSub,Array.replicate_succ,Array.replicate_zero,List.push_toArray,List.append_toArray,List.nil_append,List.cons_append];gi_wp2;refine(Acp F (n-1) h11 hro (by omega) g lb hFg eg S N hN _ hseq).mono ?_;rintro e w' ⟨v,ss,rfl,hS,hrow,hb⟩;gi_wp2;go_ret;exact⟨v,ss,rfl,hS,hrow,hb⟩
section
open Go.Shelf
abbrev Plc:={p:Pt // Ar 200 p}
instance instInhPlc:Inhabited Plc:=⟨⟨⟨0,0⟩,xx.1⟩⟩
def Jy(s t:Plc):Int:=Be s.1 t.1
theorem tz(s t:Plc):ltOf Jy s t=true↔s.1.x<t.1.x∨(s.1.x=t.1.x/\s.1.y<t.1.y):=by
 unfold ltOf Jy;rw [decide_eq_true_iff];exact Q4 _ _
theorem lB(s t:Plc):ltOf Jy s t=false↔¬(s.1.x<t.1.x∨(s.1.x=t.1.x/\s.1.y<t.1.y)):=by
 rw [←tz];simp
theorem t8:SWO (ltOf Jy) where
 irrefl x:=by rw [lB];grind
 trans x y z h1 h2:=by rw [tz]at *;grind
 ntrans x y z h1 h2:=by rw [lB]at *;grind
theorem Alq(x y:Plc)(h1:ltOf Jy x y=false)(h2:ltOf Jy y x=false):x=y:=by
 rw [lB]at h1 h2;obtain⟨⟨a,b⟩,hx⟩:=x;obtain⟨⟨a',b'⟩,hy⟩:=y;simp only [Subtype.mk.injEq,Pt.mk.injEq]at *
 grind
def Iu(s:Plc):List Value:=[S (R s.1.x),S (R s.1.y)]
theorem Vt(s:Plc):(Iu s).length=2:=rfl
theorem Ae9(s:Plc):∀v∈Iu s,v.oneCell'=true:=by
 intro v hv;simp only [Iu,List.mem_cons,AqV,or_false]at hv
 rcases hv with rfl|rfl<;>rfl
theorem Alp{w0 w:World}(hw:Am w0)(hx:Aa w0 w){blk:Nat}(hb:w0.heap.size<=blk)(off size:Nat):CmpLays Tryz.prog 110 #[] Iu 2 Jy blk off size w:=by
 refine Xt fun W hg x y=>?_;have h:=IE x.1 y.1 x.2 y.2 (by omega) (by omega) W (hw.ext (MB hx hg hb));exact h
def ES(l:List Pt):List Pt:=l.mergeSort (fun x y=>!decide (Be y x<0))
theorem Ky(l:List Pt):(ES l).Perm l:=List.mergeSort_perm _ _
theorem yl{l:List Pt} : (ES l).Pairwise (fun x y=>¬Be y x<0):=by
 have tr:∀a b c:Pt,(!decide (Be b a<0))=true→(!decide (Be c b<0))=true→(!decide (Be c a<0))=true:=by
  intro a b c h1 h2;simp only [Bool.not_eq_true',decide_eq_false_iff_not,Q4]at *
  grind
 have Ut:∀a b:Pt,((!decide (Be b a<0))||(!decide (Be a b<0)))=true:=by
  intro a b;simp only [Bool.or_eq_true,Bool.not_eq_true',decide_eq_false_iff_not,Q4]
  grind
 have h:=List.pairwise_mergeSort tr Ut l;refine h.imp ?_;intro a b hab
 simpa using hab
theorem Ano{l m:List Pt}(h:l.Perm m):ES l=ES m:=by
 refine List.Perm.eq_of_pairwise (le:=fun x y=>¬Be y x<0) ?_ yl yl (((Ky l).trans h).trans (Ky m).symm);intro a b _ _ h1 h2;rw [Q4]at h1 h2;obtain⟨a1,a2⟩:=a;obtain⟨b1,b2⟩:=b;simp only [Pt.mk.injEq]at *
 grind
theorem uN(m:List Plc):m.flatMap Iu=Fw (m.map (·.1)):=by
 induction m with
 | nil=>rfl
 | cons x m ih=>rw [List.flatMap_cons,ih];rfl
theorem Alr{l:List Pt}(h:∀s∈l,Ar 200 s):∃d:Array Plc,d.toList.map (·.1)=l:=
 ⟨(l.attachWith (Ar 200) h).toArray,by simp⟩
def Ma(l:List Plc):List Plc:=l.mergeSort (fun x y=>!ltOf Jy y x)
theorem yh(blk off cap:Nat)(d:Array Plc)(w0 w:World)(hw:Am w0)(hx:Aa w0 w)(h0:w0.heap.size<=blk)(hH:HoldsK Iu 2 w blk off d)(hblk:blk<w.heap.size)(hsz:d.size<4611686018427387904) :
  Calls Tryz.prog 187 #[.slice (some ⟨blk,off,none⟩) d.size cap,.func (.func 110) #[] #[]] w fun e w'=>
   e=.returned (.tuple #[])/\∃(n:Nat) (os:Array Obj),w'=sortWorldK Iu 2 w blk off n (Ma d.toList).toArray os:=by
 have eg:∀args w,(callFunc 110 args).run Tryz.prog w=.ok (.enter 110 args) w:=enters_of Tryz.func110 (by kernel_rfl) rfl;refine(AnyQ.slices_SortFunc Tryz.laysSortPt 2 Tryz.isAgg92 Tryz.sizeOf92 Iu Vt Ae9 Jy t8 110 #[] blk off cap d w eg (Alp hw hx h0 off d.size) hH hblk hsz).mono ?_;rintro e w' ⟨he,d',n,os,h1,h2,hw'⟩;have h:=sorted_unique_holds (lt:=ltOf Jy) t8 Alq d d' h1 h2;refine⟨he,n,os,?_⟩;rw [Ma,←h];exact hw'
theorem AiB(fv:Value)(w:World):Calls Tryz.prog 309 #[.slice none 0 0,.int .i64 0,.int .i64 0,fv] w fun e w'=>e=.returned (.tuple #[])/\w'=w:=by
 go_enter Tryz.func309,Tryz.ntmps309;go_wp2;refine wp_loop_rounds 1 ?_;rw [rounds_succ];go_wp2
 go_end0
 exact⟨rfl,rfl⟩
theorem Alj(lim:Int)(fv:Value)(w:World):Calls Tryz.prog 263 #[.slice none 0 0,.int .i64 0,.int .i64 0,.int .i64 lim,fv] w fun e w'=>e=.returned (.tuple #[])/\w'=w:=by
 have hi:=AiB fv;go_enter Tryz.func263,Tryz.ntmps263;go_wp2;refine wp_loop_rounds 1 ?_;rw [rounds_succ];(go_wp2_with fail);(with_reducible refine(hi _).mono ?_);rintro e w1 ⟨rfl,rfl⟩;go_wp2
 (try simp only [Exit.inBlock,Exit.then]);refine bodyPost_ret (results_none rfl _ _ _) rfl ?_
 exact⟨rfl,rfl⟩
theorem Ane(fv:Value)(w:World):Calls Tryz.prog 187 #[.slice none 0 0,fv] w fun e w'=>e=.returned (.tuple #[])/\w'=w:=by
 have h1:=len_nil;have h2:=Alj 0 fv;go_enter Tryz.func187,Tryz.ntmps187;(go_wp2_with fail);(with_reducible refine(h1 _).mono ?_);rintro e w1 ⟨rfl,rfl⟩;(go_wp2_with fail);(with_reducible refine(h2 _).mono ?_);rintro e w1 ⟨rfl,rfl⟩;go_wp2
 go_end0
 exact⟨rfl,rfl⟩
theorem yi{w0 w:World}(hw:Am w0)(hx:Aa w0 w){B:Nat}(hB:w0.heap.size<=B)(l:List Pt)(hl:∀s∈l,Ar 200 s)(hlen:l.length<1000000){v:Value}(hv:w.ownsRow B 92 2 v l.length (Fw l)) :
  Calls Tryz.prog 187 #[v,.func (.func 110) #[] #[]] w fun e w'=>
   e=.returned (.tuple #[])/\w.grownBy w' v.ownBlock/\w'.ownsRow B 92 2 v l.length (Fw (ES l)):=by
 by_cases hn:l = []
 ·subst hn
  have hv':v=.slice none 0 0∨∃g cap,v=.slice (some ⟨g,0,none⟩) 0 cap:=by
   rcases hv.2 with⟨h,_⟩|⟨g,cap,cur,h,_⟩
   ·exact .inl h
   ·exact .inr ⟨g,cap,h⟩
  have e:ES [] = []:=(by unfold ES;simp);rw [e]
  rcases hv' with rfl|⟨g,cap,rfl⟩
  ·exact(Ane _ w).mono fun _ _ ⟨he,hw⟩=>⟨he,by subst hw;exact aW _ _,by subst hw;exact hv⟩
  ·have hgb:g<w.heap.size/\w0.heap.size<=g:=by have:=hv.lt g rfl;omega
   refine(yh g 0 cap #[] w0 w hw hx hgb.2 (fun j hj=>by simp at hj) hgb.1 (by simp)).mono ?_;rintro e w' ⟨he,n,os,rfl⟩;refine⟨he,Oa Iu 2 w g 0 n _ os,?_⟩;have h2:w.ownsRow B 92 2 (.slice (some ⟨g,0,none⟩) (#[]:Array Plc).size cap) (#[]:Array Plc).size ((#[]:Array Plc).toList.flatMap Iu):=hv;have:=QD Vt (by omega) h2 (d':=(Ma []).toArray) (by simp [Ma]) n os
   simpa [Ma,Fw,flat,Ao]using this
 ·obtain⟨d,hd⟩:=Alr hl;have CY:d.size=l.length:=by rw [←hd];simp
  have hv':w.ownsRow B 92 2 v d.size (d.toList.flatMap Iu):=by rw [uN,hd,CY];exact hv
  have BW:0<d.size:=(by rw [CY];exact List.length_pos_iff.2 hn);obtain⟨g,cap,rfl,hgb,Oz,hH,hown⟩:=WV Vt (by omega) hv' BW;refine(yh g 0 cap d w0 w hw hx (by omega) hH Oz (by omega)).mono ?_;rintro e w' ⟨he,n,os,rfl⟩;refine⟨he,Oa Iu 2 w g 0 n _ os,?_⟩;have ho:=QD Vt (by omega) hv' (d':=(Ma d.toList).toArray) (by simp [Ma]) n os
  have hm:(Ma d.toList).map (·.1)=ES l:=by unfold Ma ES;rw [List.map_mergeSort (r:=fun x y:Plc=>!ltOf Jy y x) (f:=fun x:Plc=>x.1) (s:=fun x y=>!decide (Be y x<0)) (fun a _ b _=>rfl),hd]
  rw [uN,List.toList_toArray,hm,CY]at ho;rw [CY];exact ho
theorem yn{w0 w:World}(hw:Am w0)(hx:Aa w0 w)(Bm b:Nat)(E:List (Pt×Value×Nat))(hst:∀i (h:i<E.length),E[i].2.2=i)(hBm:Bm<w.heap.size)(hm:w.cell? ⟨Bm,0,none⟩=some (.map (some b)))(hb:w.heap[b]?=some (.map (AB Ak E).toArray E.length))
  (hL:∀e∈E,Ar 200 e.1) (hlen:E.length<=200000) :
  Calls Tryz.prog 194 #[.func (.func 267) #[] #[.pointer (some ⟨Bm,0,none⟩)],.func (.func 110) #[] #[]] w fun e w'=>
   ∃v,e=.returned v/\w'.ownsRow w.heap.size 92 2 v E.length (Fw (ES (E.map (·.1))))/\Aa w w':=by
 have eg:∀args w,(callFunc 267 args).run Tryz.prog w=.ok (.enter 267 args) w:=enters_of Tryz.func267 (by kernel_rfl) rfl;have c1:=callsIn_wide.1 (AdJ Fence.wide 5 trivial trivial rfl (by omega) 267 #[.pointer (some ⟨Bm,0,none⟩)] trivial eg _ E.length hlen w (AiL Fence.wide 3 trivial rfl (by omega) Bm b E hst w hBm hm hb));go_enter Tryz.func194,Tryz.ntmps194;(go_wp2_with fail);(with_reducible refine c1.mono ?_);rintro e w1 ⟨v,ss,rfl,hS,hrow,hbl⟩;have Cf:Aa w w1:=hbl;have CN:ss.length=E.length:=by rw [hS.length_eq];simp
 have c2:=yi hw (hx.trans Cf) hx.size ss (fun s hs=>by
  have:=hS.mem_iff.1 hs;rw [List.mem_map]at this;obtain⟨e,he,rfl⟩:=this
  exact hL e he) (by omega) hrow
 have Db:=Ano hS;rw [Db,CN]at c2;rw [CN]at hrow;(go_wp2_with fail);(with_reducible refine c2.mono ?_);rintro e w2 ⟨rfl,hg,ho⟩;go_wp2;go_ret;exact⟨v,rfl,ho,Cf.grownOwn hg hrow (AqK _)⟩
end
end Go.Proofs.YtjalkoacphhgdaaGreatDoor
namespace Go.Proofs.YtjalkoacphhgdaaGreatDoor
open Go.RowKit Kl
theorem Aef{w0 w:World}(hw:Am w0)(hx:Aa w0 w){B:Nat}{r b1 b2:Nat}{L:List (Sg×Int)}{E:List (Pt×Value×Nat)}{R0:List (Pt×List Pt)}(h:Bw B w r b1 b2 L E R0)(hN:EW (L.map (·.1)) R0)(hW:Px (L.map (·.1)))(hlen:L.length<=100000)(hrl:∀e∈R0,e.2.length<100000) :
  Calls Tryz.prog 156 #[.pointer (some ⟨r,0,none⟩)] w fun e w'=>∃A cap,e=.returned (.slice A (Is (L.map (·.1)) R0).length cap)/\Mi w' A cap (Is (L.map (·.1)) R0)/\Aa w w':=by
 have hmm:=@run_makeMap Tryz.prog;have n1:=Ab (o:=0) h.cell rfl;obtain⟨Ws,MO⟩:=AqG (L.map (·.1));have xT:Ws.length=L.length:=(by rw [MO];simp);obtain⟨C,hC⟩:=AqG (Is Ws R0);rw [←MO]at hN hW ⊢;rw [←hC];have HC:=AqH hC;have HN:=AqH hN;have HW:=AqH hW;have KD:=AqH hrl;have Ll:=AqJ w (.map #[] 0);have Cf:=(Aa.refl w).alloc (.map #[] 0);have cJ:=h.ext Cf;have hs1:(w.alloc (.map #[] 0)).heap.size=w.heap.size+1:=(by simp);have kw:=fun mb W=>jI mb W;have hb0:=h.left;have dx:=AqI h.cell;have hsw:∀e∈L,Ex 200 e.1:=fun e he=>hW.sz e.1 (by rw [MO];exact List.mem_map_of_mem he);have HSW:=AqH hsw;have UH:=AqH xT;have Mq:=AqH MO;clear hC hN hW hrl hsw xT MO;go_enter Tryz.func156,Tryz.ntmps156
 go_upto_region 3 with fail
 generalize w.alloc (.map #[] 0)=W1 at *;obtain⟨bu,zC⟩:=AqG w.heap.size;rw [←zC]at Ll ⊢;have LC:w.heap.size<=bu:=(by omega);have Kk:bu<W1.heap.size:=(by omega);clear zC hs1;have m1:=Ab (o:=0) cJ.cell rfl;(go_wp2_with fail);(with_reducible refine(kw _ _).mono ?_);rintro e w2 ⟨rfl,hw2⟩;have Cq:Aa W1 w2:=(by rw [hw2];exact(Aa.refl W1).alloc _);have BU:=AqJ W1 (.cells #[.map (some b1)] 131);rw [←hw2]at BU;have Kb:=cJ.ext Cq;have hx2:=(hx.trans Cf).trans Cq;have hBm:W1.heap.size<w2.heap.size:=AqI BU;have sk:=mO hw hx2 W1.heap.size b1 L hBm (Ab BU rfl) Kb.left HSW.out (by omega);clear hw2 m1 n1 kw;(go_wp2_with fail);(with_reducible refine sk.mono ?_);rintro e w3 ⟨sv,rfl,Db,Fc⟩;rw [←Mq.out]at Db;have Ja:Aa w w3:=(Cf.trans Cq).trans Fc;have G2:=Kb.ext Fc;have iF:w3.heap[bu]?=some (.map #[] 0):=((Cq.trans Fc).block bu Kk).trans Ll;have hU0:DT w3 bu []:=iF;have CN:(BA Ws).length=L.length:=(by rw [(J4 Ws).length_eq];exact UH.out);obtain⟨sA,sc,rfl,-,-,-⟩:=Ad.of_own' (by omega) Db;have hx3:Aa w0 w3:=hx.trans Ja;have Apy:bu<w3.heap.size:=AqI iF;have He:=AqH CN;have oY:=AqH Db;have Ig:=AqH h;clear sk BU hBm Kb hx2 Cq Cf Fc Ll Kk cJ hb0 CN Db h hx G2;have hl0:(0:Int)<=(L.length:Int):=by omega
 go_upto_region 4 with fail
 go_loopw [3,16] (fun out i wr=>∃(k:Nat) (st:List Sg×List (List Sg)),i=.int .i64 (k:Nat)/\k<=L.length/\st=((BA Ws).take k).foldl (Gb Ws.length R0) ([],[])/\Hg w3.heap.size wr out st.2/\DT wr bu st.1/\Au (fun j=>j=bu) w3 wr) (fun _ i _=>L.length-(intOf i).toNat)
 case atStart=>exact⟨0,([],[]),rfl,by omega,by simp,Hg.nil _ _,hU0,Au.refl _ _⟩
 case round=>
  obtain⟨k,st,rfl,hk,hst,hO,hU,hB⟩:=hrel;have HST:=AqH hst;clear hst;have Db:=CB oY.out hB (fun j hj e=>rq oY.out iF (fun _ e=>by cases e) j hj e);have BL:Aa w wr:=hB.toExt Ja (fun j e=>by subst e;exact LC);by_cases hlt:k<L.length
  ·obtain⟨sA',sc',ja,jc,-,-⟩:=Ad.of_own' (by omega) Db;simp only [Value.slice.injEq,true_and]at ja;obtain⟨rfl,rfl⟩:=ja;obtain⟨b,o,rfl,g1,g2,g3,g4⟩:=NC jc (show k<(BA Ws).length by rw [He.out];exact hlt);obtain⟨s0,hs0⟩:∃s,s=(BA Ws)[k]'(by rw [He.out];exact hlt):=⟨_,rfl⟩;rw [←hs0]at g1 g2 g3 g4
   have hstep:((BA Ws).take (k+1)).foldl (Gb Ws.length R0) ([],[])=Gb Ws.length R0 st s0:=by rw [AqN (show k<(BA Ws).length by rw [He.out];exact hlt),List.foldl_append,←HST.out,←hs0];rfl
   have gV:s0∈Ws:=(J4 Ws).mem_iff.1 (by rw [hs0];exact AqL _);obtain⟨Dw,-⟩:=tL HN.out k (by rw [He.out];omega);rw [←HST.out]at Dw;have hlU:=Kn Dw.nd Dw.sub;obtain⟨dd,e1,e2,e3,-,-⟩:=lR HN.out (Ws.length-st.1.length+1) st.1 s0 [] Dw.nd Dw.sub gV (by omega);have Ji:dd.length<=Ws.length:=Kn (List.nodup_append.1 e2).2.1 e3;have HDL:=AqH Ji;have YX:=AqH e1;have UG:=AqH hstep;have Mm:=AqH Dw;have HS0:=AqH gV;have AA:=AqJ wr (.cells #[S (R s0.a.x),S (R s0.a.y),S (R s0.b.x),S (R s0.b.y)] 155);have E4:=(Aa.refl wr).alloc (.cells #[S (R s0.a.x),S (R s0.a.y),S (R s0.b.x),S (R s0.b.y)] 155);have Xb:wr.heap.size<(wr.alloc (.cells #[S (R s0.a.x),S (R s0.a.y),S (R s0.b.x),S (R s0.b.y)] 155)).heap.size:=(by simp);have k0:(0:Int)<=(k:Int):=(by omega);have k1:(k:Int)<(L.length:Int):=(by omega);clear hs0 hstep Dw e1 e2 e3 Ji gV Db jc hlU
   go_upto_region 6 with fail
   unfold S at AA E4 Xb;generalize dG:wr.alloc (.cells #[.string ⟨(R s0.a.x).toArray⟩,.string ⟨(R s0.a.y).toArray⟩,.string ⟨(R s0.b.x).toArray⟩,.string ⟨(R s0.b.y).toArray⟩] 155)=W4 at *;obtain⟨bs,SL⟩:=AqG wr.heap.size;rw [←SL]at AA Xb ⊢;have Aid:bu<wr.heap.size:=AqI hU;have hne:bu≠bs:=(by omega);have MO:wr.heap.size<=bs:=(by omega);have Aqq:=hB.size;clear dG SL g1 g2 g3 g4;have Iw:Ik W4 W4 bu bs (.slice none 0 0) st.1 s0 []:=⟨(E4.block bu Aid).trans hU,AA,⟨rfl,.inl ⟨rfl,rfl⟩⟩,Au.refl _ _⟩;have HI0:=AqH Iw;clear Iw AA
   go_upto_region 7 with fail
   go_loopw [7] (fun cv wi=>∃(U:List Sg) (s:Sg) (c:List Sg),Ik W4 wi bu bs cv U s c/\s∈Ws/\U.Nodup/\(∀t∈U,t∈Ws)/\GN R0 (Ws.length-U.length+1) U s c=(st.1++dd,dd)) (fun _ wi=>L.length-jQ wi bu)
   case atStart=>exact⟨st.1,s0,[],HI0.out,HS0.out,Mm.out.nd,Mm.out.sub,by rw [YX.out];simp⟩
   case round=>
    obtain⟨U,s,c,hI,Nm,VT,VU,hrun⟩:=hrel;have wH:=rS E4 hI.but MO;have B5:=hB.trans wH;have VY:Aa w wr:=B5.toExt Ja (fun j e=>by subst e;exact LC);have xA:=Ig.out.ext VY;have z0:=Ab (o:=0) hI.box rfl;have z1:=Ab (o:=1) hI.box rfl;have z2:=Ab (o:=2) hI.box rfl;have z3:=Ab (o:=3) hI.box rfl;have WL:=hI.used.look s;obtain⟨cA,cc,rfl,-,-,-⟩:=Ad.of_own' (by omega) hI.row;have xR:=Kn VT VU;by_cases hu:U.any (AL s)=true
    ·rw [hu]at WL
     have AS:U=st.1++dd/\c=dd:=by unfold GN at hrun;rw [if_pos hu]at hrun;simp only [Prod.mk.injEq]at hrun;exact hrun
     obtain⟨rfl,rfl⟩:=AS
     have xC:=hO.keep wH (fun j _ e cs ee h=>by
      subst e;have h1:=hU;unfold DT at h1;rw [h1]at h
      cases h)
     have cY:=hI.used;unfold As at WL;have HI:=AqH hI;clear hrun hI hO xR VT VU xA;by_cases hc0:c.length=0
     ·have Ek:c = []:=List.eq_nil_of_length_eq_zero hc0
      have hcs:Gb Ws.length R0 st s0=(st.1++c,st.2):=by unfold Gb;rw [YX.out,Ek];rfl
      have Gw:=AqH hcs;have hcz:(c.length:Int)=0:=(by omega);rw [hc0];clear hc0 Ek hcs hcz;go_wp2;go_roundw
      case rel=>exact⟨k+1,(st.1++c,st.2),by go_num,hlt,by rw [UG.out,Gw.out],xC,cY,B5⟩
      case measure=>simp [intOf];omega
     ·have hcs:Gb Ws.length R0 st s0=(st.1++c,st.2 ++ [c]):=by unfold Gb;rw [YX.out];simp only [List.nil_append];rw [if_pos (by omega)]
      have Gw:=AqH hcs;have Ln:(0:Int)<(c.length:Int):=(by omega);have hcd:decide ((c.length:Int)>0)=true:=decide_eq_true Ln;obtain⟨vs,TA,Xh⟩:=xC
      have AhP:st.2.length<200000:=by have h1:=Mm.out.flat;have h2:=Kn Mm.out.nd Mm.out.sub;have h3:st.2.length<=st.2.flatten.length:=Xv Mm.out.ne;rw [h1]at h3;have:=UH.out;omega
      have hrow:=ru HI.out.row (B':=w3.heap.size) (by have:=hB.size;have:=E4.size;omega);have hbase:w3.heap.size<=wr.heap.size:=B5.size;have HVR:=AqH Xh;clear hc0 hcs Xh
      go_wp2_with (at_builtin;go_loud (refine appRow rfl _ _ rfl _ w3.heap.size u3 st.2.length vs rfl (AC TA ((Aa.refl wr).alloc _)) AhP (.slice cA c.length cc) rfl wr.heap.size (AqJ wr _) rfl (by simp;omega) ?_);intro v9 w9 BQ FM)
      have MQ:=(Aa.refl wr).alloc (.cells #[.slice cA c.length cc] 160);have hO9:=AkT (AC TA MQ) (fun j hj=>by obtain⟨v,q1,q2⟩:=HVR.out j hj;exact⟨v,q1,AC q2 MQ⟩) (AC hrow MQ) FM BQ;have cZ:DT (wr.alloc (.cells #[.slice cA c.length cc] 160)) bu (st.1++c):=(MQ.block bu (AqI cY)).trans cY;have hU9:=cZ.far FM (Ya (AC TA MQ) cZ);have ME:=(B5.ext MQ).own FM (AC TA MQ) (AqK _);clear MQ cZ BQ FM TA hrow;go_wp2;go_roundw
      case rel=>exact⟨k+1,(st.1++c,st.2 ++ [c]),by go_num,hlt,by rw [UG.out,Gw.out],hO9,hU9,ME⟩
      case measure=>simp [intOf];omega
    ·have hno:U.any (AL s)=false:=(by simpa using hu);rw [hno]at WL
     have hcl:c.length<200000:=by have h1:=wh R0 (Ws.length-U.length+1) U s c;rw [hrun]at h1;have:=HDL.out;have:=UH.out;simp only at h1;omega
     have iy:s∉U:=qP.1 hno
     have dB:(U ++ [s]).Nodup:=by rw [List.nodup_append];refine⟨VT,by simp,?_⟩;intro a ha b hb;simp only [AqW]at hb;subst hb;rintro rfl;exact iy ha
     have dD:∀t∈U ++ [s],t∈Ws:=by
      intro t ht
      rcases List.mem_append.1 ht with ht|ht
      ·exact VU t ht
      ·simp only [AqW]at ht;exact ht▸Nm
     have dA:=Kn dB dD;rw [List.length_append,List.length_singleton]at dA
     have hrun':GN R0 (Ws.length-(U ++ [s]).length+1) (U ++ [s]) (N2 R0 s) (c ++ [s])=(st.1++dd,dd):=by unfold GN at hrun;rw [if_neg (by rw [hno];simp)]at hrun;rw [List.length_append,List.length_singleton,show Ws.length-(U.length+1)+1=Ws.length-U.length by omega];exact hrun
     obtain⟨Wp,hput,MI⟩:=hI.put hne hno;obtain⟨e,hf,j,m,hj,hi,hm,Tm,Gl,WP⟩:=HN.out.step Nm;rw [←Gl]at WP;have cn:=fun (W7:World) (FK:Aa w W7)=>Akl (Ig.out.ext FK) s hf hj hi hm Tm (KD.out e (List.mem_of_find?_eq_some hf));rw [←Gl]at cn;obtain⟨t,ht⟩:=AqG (N2 R0 s);rw [←ht]at WP hrun' cn;have y0:=Ab (o:=0) MI.box rfl;have y1:=Ab (o:=1) MI.box rfl;have y2:=Ab (o:=2) MI.box rfl;have y3:=Ab (o:=3) MI.box rfl;have Dy:=hI.used.size;have HMS:=AqH (And.intro Dy (And.intro dA UH.out));have HR:=AqH (And.intro hrun' (And.intro dB (And.intro dD WP)));have AY:W4.heap.size<=Wp.heap.size:=MI.but.size;have Hz:=MI.row;have HIP:=AqH MI;unfold As at WL hput cn;clear hrun hrun' VT dB VU dD WP Dy xR dA hI MI ht Gl Tm hm hi hj hf hno iy hu xA
     go_wp2_with (at_builtin;go_loud (refine Aco rfl _ _ rfl _ W4.heap.size (.slice cA c.length cc) c.length c rfl (AC Hz ((Aa.refl Wp).alloc _)) hcl s Wp.heap.size (AqJ Wp _) rfl (by simp;omega) ?_);intro v7 w7 L2 Qd;have Ej:=Ik.app HIP.out Xb Qd L2;have x0:=Ab (o:=0) Ej.box rfl;have x1:=Ab (o:=1) Ej.box rfl;have x2:=Ab (o:=2) Ej.box rfl;have x3:=Ab (o:=3) Ej.box rfl)
     have FK:Aa w w7:=(hB.trans (rS E4 Ej.but MO)).toExt Ja (fun j e=>by subst e;exact LC);(with_reducible refine(cn w7 FK).mono ?_);rintro e w8 ⟨rfl,Bd⟩;have Du:=(Bd.block bs (AqI Ej.box)).trans Ej.box;have y0:=AK (o:=0) Du;have y1:=AK (o:=1) Du;have y2:=AK (o:=2) Du;have y3:=AK (o:=3) Du;have q0:=Ab (o:=0) Du rfl;have q1:=Ab (o:=1) Du rfl;have q2:=Ab (o:=2) Du rfl;have q3:=Ab (o:=3) Du rfl;have PI:=Ej.nxt Bd hne Xb t;have oJ:=AqH PI;clear PI Du x0 x1 x2 x3 FK Bd Ej L2 Qd Hz cn;go_wp2;go_roundw
     case rel=>exact⟨U ++ [s],t,c ++ [s],oJ.out,HR.out.2.2.2,HR.out.2.1,HR.out.2.2.1,HR.out.1⟩
     case measure=>have h1:=oJ.out.used.size;have h2:=HMS.out;rw [List.length_append,List.length_singleton]at h1;rw [h1,h2.1];omega
  ·have hk2:k=L.length:=by omega
   have AS:st.2=C:=by rw [HC.out];unfold Is;rw [HST.out,hk2,←He.out,List.take_length]
   have hle:(L.length:Int)<=(k:Int):=(by omega);rw [AS]at hO;obtain⟨A,cap,rfl,hcs⟩:=hO.cycs;have Gw:=AqH hcs;clear hcs hO hU Db hB hk2;go_wp2;go_ret;exact⟨A,cap,rfl,Gw.out,BL⟩
def Dd(C:List (List Sg)):List (Sg×Int):=C.zipIdx.flatMap (fun ci=>ci.1.map (fun s=>(s,(ci.2:Int))))
theorem rz(C:List (List Sg))(c:List Sg):Dd (C ++ [c])=Dd C++c.map (fun s=>(s,(C.length:Int))):=by
 unfold Dd;rw [List.zipIdx_append,List.flatMap_append];simp
theorem ry(C:List (List Sg)):(Dd C).map (·.1)=C.flatten:=by
 have main:∀n,n<=C.length→(Dd (C.take n)).map (·.1)=(C.take n).flatten:=by
  intro n
  induction n with
  | zero=>intro _;simp [Dd]
  | succ n ih=>
   intro hn;rw [AqN (by omega),rz,List.map_append,ih (by omega),List.flatten_append,List.map_map]
   congr 1
   simp [Function.comp_def]
 have:=main C.length (AqK _)
 rwa [List.take_length]at this
theorem AkZ{C:List (List Sg)}{e:Sg×Int}(h:e∈Dd C):∃i,∃hi:i<C.length,e.2=(i:Int)/\e.1∈C[i]:=by
 unfold Dd at h;rw [List.mem_flatMap]at h;obtain⟨ci,h1,h2⟩:=h;rw [List.mem_map]at h2;obtain⟨s,hs,rfl⟩:=h2;obtain⟨c,i⟩:=ci;rw [List.mem_zipIdx_iff_getElem?]at h1;simp only at h1 hs;rw [AqX]at h1;obtain⟨hi,rfl⟩:=h1;exact⟨i,hi,rfl,hs⟩
def P9(C:List (List Sg))(s:Sg):Int:=match (Dd C).find? (fun e=>AL s e.1)with|some e=>e.2|none=>0
theorem Aed{C:List (List Sg)}{s:Sg}(h:s∈C.flatten):∃i,∃hi:i<C.length,P9 C s=(i:Int)/\s∈C[i]:=by
 unfold P9;rw [←ry,List.mem_map]at h;obtain⟨e,he,rfl⟩:=h
 cases hf:(Dd C).find? (fun x=>AL e.1 x.1)with
 | none=>
  rw [List.find?_eq_none]at hf;exact absurd (II.2 rfl) (hf e he)
 | some x=>obtain⟨i,hi,h1,h2⟩:=AkZ (List.mem_of_find?_eq_some hf);have h3:=List.find?_some hf;rw [II]at h3;exact⟨i,hi,h1,h3▸h2⟩
def findNext(f:Nat→Int)(C:List (List Sg)):Option (Sg×Rat)→Int
 | none=>-1
 | some x=>f (P9 C x.1).toNat
def Cl(W:List Sg)(C:List (List Sg)):Nat→Nat→Int
 | 0,_=>-1
 | n+1,i=>
  if 0<My (C.getD i [])then (i:Int)
  else findNext (fun j=>Cl W C n j) C (Dn (aOf (C.getD i [])) W)
where aOf:List Sg→Pt
 | []=>⟨0,0⟩
 | s::_=>s.a
def leftOf(W:List Sg)(X:Rat):Nat:=W.countP (fun s=>decide (s.a.x<X))
theorem tG{α:Type}{p q:α→Bool} : ∀{l:List α},(∀x∈l,p x=true→q x=true)→(∃x∈l,q x=true/\p x=false)→l.countP p<l.countP q
 | [],_,h=>by obtain⟨x,hx,_⟩:=h;cases hx
 | a::l,h1,h2=>by
  have hle:l.countP p<=l.countP q:=List.countP_mono_left (fun x hx=>h1 x (List.mem_cons_of_mem _ hx));obtain⟨x,hx,hq,hp⟩:=h2
  rcases List.mem_cons.1 hx with rfl|hx
  ·rw [List.countP_cons,List.countP_cons,hq,hp];simp;omega
  ·have:=tG (fun x hx=>h1 x (List.mem_cons_of_mem _ hx)) ⟨x,hx,hq,hp⟩;have ha:=h1 a List.mem_cons_self;rw [List.countP_cons,List.countP_cons]
   cases DZ:p a
   ·cases q a<;>simp<;>omega
   ·rw [ha DZ];simp;omega
theorem qB{c:List Sg}(h:0<c.length):Cl.aOf c=c[0].a:=by
 cases c with
 | nil=>simp at h
 | cons s c=>rfl
theorem Afl{W U:List Sg}{C:List (List Sg)}(hC:Uz W U C)(hall:∀s∈W,s∈U)(hG:KA W){i:Nat}(hi:i<C.length){x:Sg×Rat}(hb:Dn (Cl.aOf C[i]) W=some x) :
  x.1∈W/\∃j,∃hj:j<C.length,P9 C x.1=(j:Int)/\leftOf W (Cl.aOf C[j]).x<leftOf W (Cl.aOf C[i]).x:=by
 have h1:=ZI hG (Cl.aOf C[i]) W (fun _ h=>h);rw [hb]at h1;obtain⟨s,EG⟩:=x;obtain⟨hs,hc,-,-⟩:=h1;obtain⟨j,hj,e,hm⟩:=Aed (C:=C) (s:=s) (by rw [hC.flat];exact hall s hs);refine⟨hs,j,hj,e,?_⟩;have hl0:0<C[j].length:=List.length_pos_iff.2 (hC.ne _ (AqL hj));have hle:=hC.least _ (AqL hj) s hm hl0;rw [Q5]at hle;rw [qB hl0];refine tG (fun y _ hy=>?_) ⟨s,hs,?_,?_⟩
 ·simp only [decide_eq_true_eq]at hy ⊢;have:=hc.1
  grind
 ·simp only [decide_eq_true_eq];exact hc.1
 ·simp only [decide_eq_false_iff_not];grind
theorem vR(s:Sg):∀(L:List (Sg×Int)) (k:Nat),(L.mapIdx (fun i e=>(e.1,Value.int .i64 e.2,i+k))).find? (fun e=>AL s e.1)=none/\L.find? (fun e=>AL s e.1)=none∨∃x e,(L.mapIdx (fun i e=>(e.1,Value.int .i64 e.2,i+k))).find? (fun e=>AL s e.1)=some x/\L.find? (fun e=>AL s e.1)=some e/\x.2.1=.int .i64 e.2
 | [],_=>.inl ⟨by simp,by simp⟩
 | e::L,k=>by
  rw [List.mapIdx_cons,List.find?_cons,List.find?_cons]
  cases h:AL s e.1
  ·have:=vR s L (k+1)
   simpa only [Nat.add_assoc,Nat.add_comm 1 k]using this
  ·exact .inr ⟨_,e,rfl,rfl,rfl⟩
theorem named{a b:World}(_:Aa a b):∃x,x=b:=⟨b,rfl⟩
def AI(s:Sg)(L:List (Sg×Int)):Int:=match L.find? (fun e=>AL s e.1)with|some e=>e.2|none=>0
theorem m8(s:Sg)(L:List (Sg×Int)):Fu AL (.int .i64 0) s (stamp L)=.int .i64 (AI s L):=by
 have h:=vR s L 0;simp only [Nat.add_zero]at h;unfold Fu AI stamp
 rcases h with⟨h1,h2⟩|⟨x,e,h1,h2,h3⟩
 ·rw [h1,h2]
 ·rw [h1,h2];exact h3
theorem QP(s:Sg)(L:List (Sg×Int)){b:Nat}{W:World}(hb:W.heap[b]?=some (.map (AB As (stamp L)).toArray L.length)) :
  (Instr.lookup 131 (.map (some b)) (As s) false).run Tryz.prog W=.ok (.int .i64 (AI s L)) W:=by
 rw [QQ Xs s (stamp L) hb,m8]
structure RA(B:Nat)(w:World)(r b1 b2:Nat)(L:List (Sg×Int))(E:List (Pt×Value×Nat))(R0:List (Pt×List Pt))(bc bn bf ba bm:Nat)(A:Option Addr)(cap:Nat)(C:List (List Sg)):Prop where
 net:Bw B w r b1 b2 L E R0
 cyc:Mi w A cap C
 cc:w.cell? ⟨bc,0,none⟩=some (.slice A C.length cap)
 cn:w.cell? ⟨bn,0,none⟩=some (.pointer (some ⟨r,0,none⟩))
 cf:w.cell? ⟨bf,0,none⟩=some (.func (.func 233) #[] #[.pointer (some ⟨bc,0,none⟩),.pointer (some ⟨bn,0,none⟩),.pointer (some ⟨bf,0,none⟩),.pointer (some ⟨ba,0,none⟩)])
 ca:w.cell? ⟨ba,0,none⟩=some (.map (some bm))
 m:w.heap[bm]?=some (.map (AB As (stamp (Dd C))).toArray (Dd C).length)
theorem RA.ext{B:Nat}{w w':World}{r b1 b2:Nat}{L:List (Sg×Int)}{E:List (Pt×Value×Nat)}{R0:List (Pt×List Pt)}{bc bn bf ba bm:Nat}{A:Option Addr}{cap:Nat}{C:List (List Sg)}(h:RA B w r b1 b2 L E R0 bc bn bf ba bm A cap C)(hx:Aa w w'):RA B w' r b1 b2 L E R0 bc bn bf ba bm A cap C:=
 ⟨h.net.ext hx,h.cyc.ext hx,hx.cellS h.cc,hx.cellS h.cn,hx.cellS h.cf,hx.cellS h.ca,(hx.block _ (AqI h.m)).trans h.m⟩
structure Rj(W:List Sg)(U:List Sg)(C:List (List Sg)):Prop where
 ok:Uz W U C
 all:∀s∈W,s∈U
 good:KA W
 grid:∀s∈W,JL s
 len:W.length<=100000
theorem yx{α:Type} : ∀{l:List (List α)} {i:Nat} (h:i<l.length),l[i].length<=l.flatten.length
 | a::l,0,_=>by simp
 | a::l,i+1,h=>by have:=yx (l:=l) (i:=i) (by simpa using h);simp only [List.getElem_cons_succ,List.flatten_cons,List.length_append];omega
theorem Rj.row{W U:List Sg}{C:List (List Sg)}(h:Rj W U C){i:Nat}(hi:i<C.length):(∀s∈C[i],JL s)/\0<C[i].length/\C[i].length<=100000:=by
 refine⟨fun s hs=>h.grid s (h.ok.sub s ?_),List.length_pos_iff.2 (h.ok.ne _ (AqL hi)),?_⟩
 ·rw [←h.ok.flat];exact List.mem_flatten.2 ⟨_,AqL hi,hs⟩
 ·have h1:=yx hi;rw [h.ok.flat]at h1;have h2:=Kn h.ok.nd h.ok.sub;have:=h.len;omega
theorem Afk{B:Nat}{r b1 b2:Nat}{L:List (Sg×Int)}{E:List (Pt×Value×Nat)}{R0:List (Pt×List Pt)}{bc bn bf ba bm:Nat}{A:Option Addr}{cap:Nat}{C:List (List Sg)}{W U:List Sg}(hW:W=L.map (·.1))(hG:Rj W U C) :
  ∀(n i:Nat) (hi:i<C.length),leftOf W (Cl.aOf C[i]).x<n→∀w,Am w→RA B w r b1 b2 L E R0 bc bn bf ba bm A cap C→
  Calls Tryz.prog 233 #[.int .i64 (i:Nat),.pointer (some ⟨bc,0,none⟩),.pointer (some ⟨bn,0,none⟩),.pointer (some ⟨bf,0,none⟩),.pointer (some ⟨ba,0,none⟩)] w (Ax (Cl W C n i) w):=by
 intro n
 induction n with
 | zero=>intro i hi hlt;omega
 | succ n ih=>
  intro i hi hlt w hw h;obtain⟨g1,g2,g3⟩:=hG.row hi;obtain⟨bA,oA,A',c',rfl,hcell,AN,hc1,hc2⟩:=h.cyc.row i hi;have qV:=Acz C[i] A' c' g1 g2 g3 hc1 hc2;have ar:=fun (w1:World) (hw1:Am w1) (hE:Aa w w1)=>qV w1 hw1 (AN.ext hE);clear qV;have sg:=QN (My C[i]);have hd:=fun x=>Afl hG.ok hG.all hG.good hi (x:=x);have au:C.getD i []=C[i]:=by rw [List.getD_eq_getElem?_getD,AqP hi];rfl
  have SZ:Cl W C (n+1) i=if 0<My C[i] then (i:Int)else findNext (Cl W C n) C (Dn (Cl.aOf C[i]) W):=by rw [Cl,au]
  have hc0:(0:Int)<(c':Int):=(by omega);have hl0:(0:Int)<(C[i].length:Int):=(by omega);have Lt:(0:Int)<=(i:Int):=(by omega);have Qf:(i:Int)<(C.length:Int):=(by omega);have DZ:=qB g2;have fV:=(g1 _ (AqL g2)).a;rw [←DZ]at fV;have bl:=fun (w1:World) (hw1:Am w1) (h1:Bw B w1 r b1 b2 L E R0)=>AcG h1 (Cl.aOf C[i]) (k:=200) (fun e he=>(hG.grid e.1 (by rw [hW];exact List.mem_map_of_mem he)).sz (by omega)) (fV.sz (by omega)) (by omega) (by omega) hw1
  have AY:∀l:List Sg,l.Perm (L.map (·.1))→Dn (Cl.aOf C[i]) l=Dn (Cl.aOf C[i]) W:=fun l hl=>by rw [←hW]at hl;exact AcH hG.good _ hl (fun t ht=>hl.mem_iff.1 ht)
  have ia:=NC AN g2;have hsp:=Yp (My C[i])
  have Hv:∀x,Dn (Cl.aOf C[i]) W=some x→∃j,∃hj:j<C.length,AI x.1 (Dd C)=(j:Int)/\(P9 C x.1).toNat=j/\leftOf W (Cl.aOf C[j]).x<n:=by intro x hx;obtain⟨-,j,hj,e,hl⟩:=hd x hx;exact⟨j,hj,e,by rw [e];omega,by omega⟩
  obtain⟨st,hst⟩:=AqG (Dn (Cl.aOf C[i]) W);rw [←hst]at SZ AY Hv;obtain⟨p,hp⟩:=AqG (Cl.aOf C[i]);rw [←hp]at bl AY;rw [←DZ,←hp]at ia;obtain⟨q,hq⟩:=AqG (My C[i]);rw [←hq]at ar sg hsp SZ;obtain⟨m,hm⟩:=AqG (C[i].length);rw [←hm]at ar hl0 hcell;obtain⟨z,hz⟩:=AqG (Cl W C (n+1) i);rw [←hz]at SZ ⊢;obtain⟨bB,oB,hAB,k1,k2,-,-⟩:=ia;subst hAB;obtain⟨sq,Gp⟩:=AqG (AH q);rw [←Gp]at sg hsp;have Rp:=AqH SZ;have U7:=AqH Hv;have nP:=AqH AY;have m1:=h.cc;have m2:=h.cn;clear SZ Hv AY hp hq hm hz DZ fV hd hst Gp g1 g2 g3 au AN hlt;rw [Nat.zero_mul,Nat.add_zero]at k1 k2;go_enter Tryz.func233,Tryz.ntmps233;(go_wp2_with fail);(with_reducible refine(ar w hw (Aa.refl w)).mono ?_);rintro e w1 ⟨rfl,hx1⟩;(go_wp2_with fail);(with_reducible refine(sg _).mono ?_);rintro e w2 ⟨rfl,hx2⟩;have Ch:=hx1.trans hx2;replace m1:=Ch.cellS m1;replace m2:=Ch.cellS m2;replace hcell:=Ch.cellS hcell;replace k1:=Ch.cellS k1;replace k2:=Ch.cellS k2;clear ar sg hx1 hx2;by_cases BW:0<q
  ·have AhQ:0<sq:=hsp.2 BW;have hz:z=(i:Int):=(by rw [Rp.out,if_pos BW]);subst hz;go_wp2;go_ret;exact⟨rfl,Ch⟩
  ·have AhQ:¬0<sq:=fun h=>BW (hsp.1 h);have HZ:=AqH (show z=findNext (Cl W C n) C st by rw [Rp.out,if_neg BW]);obtain⟨c0,c1,c2,c3,hc⟩:=ZK st;obtain⟨aV,eO⟩:=AqG st.isSome;have hw2:=hw.ext Ch;have h2:=h.ext Ch
   have bl':∀w',Aa w2 w'→Calls Tryz.prog 235 #[.pointer (some ⟨r,0,none⟩),.agg #[S (R p.x),S (R p.y)]] w' (De (.tuple #[.agg #[S c0,S c1,S c2,S c3],.bool aV]) w'):=fun w' hx=>(bl w' (hw2.ext hx) (h2.net.ext hx)).mono fun e w'' ⟨l,hl,he,hx'⟩=>⟨by rw [he,nP.out l hl];unfold Vf;rw [hc,eO],hx'⟩
   have oD:=AqH eO;clear Rp hsp BW bl eO
   have SO:∀w',Aa w2 w'→(w'.cell? ⟨bc,0,none⟩=some (.slice (some ⟨bA,oA,none⟩) C.length cap)/\w'.cell? ⟨bn,0,none⟩=some (.pointer (some ⟨r,0,none⟩))/\w'.cell? ⟨bA,oA+i,none⟩=some (.slice (some ⟨bB,oB,none⟩) m c')/\w'.cell? ⟨bB,oB,none⟩=some (S (R p.x))/\w'.cell? ⟨bB,oB+1,none⟩=some (S (R p.y))):=fun w' h=>⟨h.cellS m1,h.cellS m2,h.cellS hcell,h.cellS k1,h.cellS k2⟩
   have X:Aa w2 w2:=Aa.refl w2;have e0:(0:Int)<(m:Int):=hl0;have e00:0<m:=by omega
   go_upto_region 3 with fail
   go_cut [7,8] (fun v7 v8 wx=>∃b,v7=.pointer (some ⟨b,0,none⟩)/\v8=.bool aV/\wx.heap[b]?=some (.cells #[S c0,S c1,S c2,S c3] 155)/\Aa w2 wx)
   case first=>
    go_region_held3 (fun w'=>w'.cell? ⟨bc,0,none⟩=some (.slice (some ⟨bA,oA,none⟩) C.length cap)/\w'.cell? ⟨bn,0,none⟩=some (.pointer (some ⟨r,0,none⟩))/\w'.cell? ⟨bA,oA+i,none⟩=some (.slice (some ⟨bB,oB,none⟩) m c')/\w'.cell? ⟨bB,oB,none⟩=some (S (R p.x))/\w'.cell? ⟨bB,oB+1,none⟩=some (S (R p.y)))
     (first|with_reducible exact SO _ X|with_reducible exact SO _ X.drew|with_reducible exact SO _ (X.alloc _)|with_reducible exact SO _ (X.alloc _).drew|exact SO _ ((((X.setCell (AqK _) _).setCell (AqK _) _).setCell (AqK _) _).setCell (AqK _) _)|exact SO _ (((((X.alloc _).setCell X.size _).setCell X.size _).setCell X.size _).setCell X.size _))
     (first|((with_reducible refine(bl' _ (by first|exact X|exact X.alloc _|exact X.drew|exact(X.alloc _).drew)).mono ?_);rintro e w5 ⟨rfl,Ae⟩;(first|(have Z:=(Ae.block _ (AqI (AqJ _ _))).trans (AqJ _ _))|skip);replace X:Aa w2 w5:=(by first|exact X.trans Ae|exact(X.alloc _).trans Ae|exact X.drew.trans Ae|exact(X.alloc _).drew.trans Ae);(first|(have y1:=Ab (o:=0) Z rfl;have y2:=Ab (o:=1) Z rfl;have y3:=Ab (o:=2) Z rfl;have y4:=Ab (o:=3) Z rfl;have z1:=AK (o:=0) Z;have z2:=AK (o:=1) Z;have z3:=AK (o:=2) Z;have z4:=AK (o:=3) Z)|skip)))
    all_goals go_wp2
    all_goals go_meet
    all_goals first
     | exact⟨w5.heap.size,rfl,rfl,by unfold S;exact AqJ w5 _,X.alloc _⟩
     | exact⟨w2.heap.size,rfl,rfl,by unfold S;exact P1 _ _ _ _ Z,(((X.setCell (p:=⟨w2.heap.size,0,none⟩) (AqK _) _).setCell (p:=⟨w2.heap.size,1,none⟩) (AqK _) _).setCell (p:=⟨w2.heap.size,2,none⟩) (AqK _) _).setCell (p:=⟨w2.heap.size,3,none⟩) (AqK _) _⟩
   case rest=>
    obtain⟨b,rfl,rfl,AA,Ns⟩:=hcut;obtain⟨wx,rfl⟩:=named Ns;have VX:=Ch.trans Ns;have VQ:=h.ext VX;have hwc:=hw.ext VX;clear SO X m1 m2 hcell k1 k2
    cases aV
    ·have hz:z = -1:=by
      rw [HZ.out]
      cases st with
      | none=>rfl
      | some x=>have:=oD.out;cases this
     subst hz;go_wp2;go_ret;exact⟨rfl,VX⟩
    ·obtain⟨x,rfl⟩:∃x,st=some x:=by
      cases st with
      | none=>have:=oD.out;cases this
      | some x=>exact⟨x,rfl⟩
     obtain⟨j,hj,hl,hjn,hlt⟩:=U7.out x rfl;have hz:z=Cl W C n j:=(by rw [HZ.out];show Cl W C n (P9 C x.1).toNat=_;rw [hjn]);have hq:=fun (q:Af wx)=>QP x.1 (Dd C) (VQ.ext q.h).m;rw [hl]at hq;have hcc:#[S c0,S c1,S c2,S c3]=(#[S (R x.1.a.x),S (R x.1.a.y),S (R x.1.b.x),S (R x.1.b.y)]:Array Value):=(by rw [←hc];rfl);rw [hcc]at AA;have q1:∀q:Af wx,q.w.cell? ⟨bf,0,none⟩=some (.func (.func 233) #[] #[.pointer (some ⟨bc,0,none⟩),.pointer (some ⟨bn,0,none⟩),.pointer (some ⟨bf,0,none⟩),.pointer (some ⟨ba,0,none⟩)]):=Af.cell VQ.cf;have q2:∀q:Af wx,q.w.cell? ⟨ba,0,none⟩=some (.map (some bm)):=Af.cell VQ.ca;have q3:∀q:Af wx,q.w.cell? ⟨b,0,none⟩=some (S (R x.1.a.x)):=Af.cell (Ab AA rfl);have q4:∀q:Af wx,q.w.cell? ⟨b,1,none⟩=some (S (R x.1.a.y)):=Af.cell (Ab AA rfl);have q5:∀q:Af wx,q.w.cell? ⟨b,2,none⟩=some (S (R x.1.b.x)):=Af.cell (Ab AA rfl);have q6:∀q:Af wx,q.w.cell? ⟨b,3,none⟩=some (S (R x.1.b.y)):=Af.cell (Ab AA rfl);have cs:=fun (q:Af wx)=>ih j hj hlt q.w (hwc.ext q.h) (VQ.ext q.h);rw [←hz]at cs;unfold As at hq;clear hc hz hl hjn hlt U7 nP HZ AA hcc ih
     go_upto_region 6 with fail
     refine F5 (by kernel_rfl) (by kernel_rfl) ?_
     repeat (go_big_quiet_step (first|(with_reducible refine Ei (cs _))|(go_simp;with_reducible refine Ei (cs _))))
     refine wpQuiet_nil ?_;rintro _ ⟨q,rfl⟩;go_wp2;go_ret;exact⟨rfl,VX.trans q.h⟩
def Kv(W:List Sg)(C:List (List Sg)):List Int:=(List.range C.length).map (Cl W C (W.length+1))
structure DL where
 ok:Bool
 op:Bool
 face:List (Int×Int)
 seen:List Bool
def Dm(r left:Int)(st:DL):DL:=
 match C6 r st.face with
 | some old=>⟨st.ok && decide (old=left),st.op,st.face,st.seen⟩
 | none=>
  if left<0 then ⟨false,true,st.face ++ [(r,left)],st.seen⟩
  else ⟨st.ok && !(st.seen.getD left.toNat false),st.op,st.face ++ [(r,left)],st.seen.set left.toNat true⟩
def Io(L:List (Sg×Int))(r:Int)(st:DL)(c:List Sg):DL:=c.foldl (fun st s=>Dm r (AI s L) st) st
def Hh(L:List (Sg×Int))(l:List (List Sg×Int))(st:DL):DL:=l.foldl (fun st cr=>Io L cr.2 st cr.1) st
def Ip(nf:Nat):DL:=⟨true,false,[(-1,-1)],List.replicate nf false⟩
def KR(L:List (Sg×Int))(nf:Nat)(C:List (List Sg))(rg:List Int):DL:=Hh L (C.zip rg) (Ip nf)
theorem Acc(r left:Int)(st:DL):(Dm r left st).seen.length=st.seen.length:=by
 unfold Dm
 split
 ·rfl
 ·split
  ·rfl
  ·simp
theorem Aca(L:List (Sg×Int))(r:Int)(st:DL)(c:List Sg)(s:Sg):Io L r st (c ++ [s])=Dm r (AI s L) (Io L r st c):=by simp [Io]
theorem Acb(L:List (Sg×Int))(l:List (List Sg×Int))(st:DL)(x:List Sg×Int):Hh L (l ++ [x]) st=Io L x.2 (Hh L l st) x.1:=by simp [Hh]
theorem qJ(L:List (Sg×Int))(r:Int)(c:List Sg):∀st:DL,(Io L r st c).seen.length=st.seen.length:=by
 induction c with
 | nil=>intro st;rfl
 | cons s c ih=>intro st;show (Io L r (Dm r (AI s L) st) c).seen.length=_;rw [ih,Acc]
theorem qK(L:List (Sg×Int))(l:List (List Sg×Int)):∀st:DL,(Hh L l st).seen.length=st.seen.length:=by
 induction l with
 | nil=>intro st;rfl
 | cons x l ih=>intro st;show (Hh L l (Io L x.2 st x.1)).seen.length=_;rw [ih,qJ]
def Mx(L:List (Sg×Int))(nf:Nat)(C:List (List Sg))(rg:List Int):Bool:=(KR L nf C rg).ok && !((KR L nf C rg).seen.contains false)
end Go.Proofs.YtjalkoacphhgdaaGreatDoor
