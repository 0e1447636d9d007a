/- W27. -/
import Derived.Test.YtnfedbopbcegjaaGreatDoorW25
import Derived.Test.YtnfedbopbcegjaaGreatDoorW21
import Derived.Test.YtnfedbopbcegjaaGreatDoorW26
set_option maxRecDepth 100000
set_option maxHeartbeats 8000000
namespace Go.Proofs.YtnfedbopbcegjaaGreatDoor
open Go.RowKit Kl Go.Sort
def Gt(l:List Pt):List Value:=flat (Aq l)
theorem Afo(l:List Pt)(d:Pt):Gt (l ++ [d])=Gt l ++ [S (R d.x),S (R d.y)]:=aC l d
theorem uu(W:World)(a b:Value)(t:TypeId):∀(j:Nat) (u:Value),[a,b][j]?=some u→(W.alloc (.cells #[a,b] t)).cell? ((⟨W.heap.size,0,none⟩:Addr).add j)=some u:=by
 intro j u hu;rw [Addr.add_lit,Nat.zero_add];refine Ab (AjM W (.cells #[a,b] t)) ?_;rw [←Array.getElem?_toList];exact hu
def VN:Code:=Code.region 2 #[{dst:=some 5,op:=Op.alloc 28,type:=0,pos:= "iter.go:51",after:=#[],guard:=none},{dst:=none,op:=Op.store 28 (Operand.tmp 5) (Operand.tmp 7),type:=0,pos:= "iter.go:51",after:=#[{on:=0,ground:=Ground.data},{on:=0,ground:=Ground.phase}],guard:=none}] false
def VP:Code:=Code.block 1 (Code.region 3 #[{dst:=some 8,op:=Op.load 41 (Operand.tmp 2),type:=41,pos:= "iter.go:52",after:=#[],guard:=none},{dst:=some 9,op:=Op.load 28 (Operand.tmp 5),type:=28,pos:= "iter.go:52",after:=#[],guard:=none},{dst:=some 10,op:=Op.buildSlice 41 1 #[(0,Operand.tmp 9)],type:=41,pos:= "iter.go:52",after:=#[{on:=1,ground:=Ground.data}],guard:=none},{dst:=some 11,op:=Op.call {callee:=Callee.builtin Builtin.append,args:=#[Operand.tmp 8,Operand.tmp 10],argTypes:=#[41,41]},type:=41,pos:= "iter.go:52",after:=#[{on:=0,ground:=Ground.data},{on:=2,ground:=Ground.data}],guard:=none},{dst:=none,op:=Op.store 41 (Operand.tmp 2) (Operand.tmp 11),type:=0,pos:= "iter.go:52",after:=#[{on:=3,ground:=Ground.data},{on:=3,ground:=Ground.chain},{on:=0,ground:=Ground.phase},{on:=1,ground:=Ground.phase},{on:=2,ground:=Ground.phase},{on:=3,ground:=Ground.phase}],guard:=none}] false)
def Hp(fn:FuncId)(sv:Value)(Bs D:Nat)(st:LoopState)(pend:Option Code):Loop:=
 {state:=st,pending:=pend,fn,tmps:=#[.slice none 0 0,sv,.pointer (some ⟨Bs,0,none⟩),undef,.slice none 0 0,undef,sv,undef,undef,undef,undef,undef,undef],params:=#[7],assign:=VN,body:=VP,defers:=D}
structure OR(w0:World)(fn:FuncId)(sv:Value)(Bs l D:Nat)(ss:List Pt)(W:World):Prop where
 box:∃v,W.heap[Bs]?=some (.cells #[v] 41 (0,0))/\W.ownsRow w0.heap.size 28 2 v ss.length (Gt ss)
 L:W.heap[l]?=some (.loop (Hp fn sv Bs D .ready none))
 K:W.heap[D]?=some (.deferred (some []))
 below:Below w0.heap.size w0 W
theorem eY(w0:World)(fn:FuncId)(sv:Value)(Bs l D B:Nat)(hB:w0.heap.size<=B):AbidesFrom B (OR w0 fn sv Bs l D):=fun s W W' row h hg hrow=>by
 have hrow':∀r,row=some r→∃o:Obj,W.heap[r]?=some o/\o.isWalk=true:=fun r e=>(hrow r e).2;obtain⟨v,hv,hr⟩:=h.box
 exact⟨⟨v,(grownBy_keeps hg hrow' hv rfl).trans hv,ownsRow_abides hr hg hrow'⟩,(grownBy_keeps hg hrow' h.L rfl).trans h.L,(grownBy_keeps hg hrow' h.K rfl).trans h.K,
  h.below.grown hg h.below.size (fun k e=>AjX hB (hrow k e).1)⟩
theorem qf (F : Fence) (m : Nat) (w0 : World) (fn : FuncId) (hfn : F.fn fn) (sv : Value) (Bs l D : Nat) (hBl : Bs ≠ l) (hDl : D ≠ l) (hDB : D ≠ Bs) (h0B : w0.heap.size ≤ Bs) (h0l : w0.heap.size ≤ l)
    (N : Nat) (hN : N ≤ 200000) (ss : List Pt) (x : Pt) (W : World) (h : OR w0 fn sv Bs l D ss W) (hlen : ss.length < N) :
    YieldAt F m Tryz.prog l #[Ag x] W fun e W' => e = .returned (.bool true) ∧ OR w0 fn sv Bs l D (ss ++ [x]) W' ∧ KeepsWalks W W' := by
  have hne : 41 ≠ 28 := by decide
  obtain ⟨i0, hi, hz0, hz1, hz2⟩ := info_parts Tryz.infoPt
  obtain ⟨v, hv, hrow⟩ := h.box
  refine ⟨fn, #[.slice none 0 0, sv, .pointer (some ⟨Bs, 0, none⟩), undef, .slice none 0 0, undef, sv, Ag x, undef, undef, undef, undef, undef], VN, VP, by simpa [Hp] using run_yield (P := Tryz.prog) (args := #[Ag x]) h.L rfl, roundIn_of_wpIn hfn ?_⟩
  have hka : KeepsWalks W (W.alloc (.cells #[S (R x.x), S (R x.y)] 28)) := KeepsWalks.alloc _ _
  have ha := eY w0 fn sv Bs l D W.heap.size h.below.size ss W _ none h (DJ ((Aa.refl W).alloc (.cells #[S (R x.x), S (R x.y)] 28)) none) (fun r e => by cases e)
  have EB := AjM W (.cells #[S (R x.x), S (R x.y)] 28)
  have Qy : l < W.heap.size := (Array.getElem?_eq_some_iff.1 h.L).1
  unfold VN
  unfold Ag
  gi_wp2_with (rw [Oper.semAt_eq _ _ _ (fun c h => by cases h)]; go_simp; try go_bits)
  obtain ⟨bv, CL⟩ := AjJ W.heap.size
  rw [← CL] at EB Qy ⊢
  unfold S at ha EB hka
  clear CL h hv hrow
  generalize Xs : W.alloc (.cells #[.string ⟨(R x.x).toArray⟩, .string ⟨(R x.y).toArray⟩] 28) = Wa at *
  clear Xs
  obtain ⟨v, hv, hrow⟩ := ha.box
  have hl : l < Wa.heap.size := (Array.getElem?_eq_some_iff.1 ha.L).1
  have hbr := run_beginRound (P := Tryz.prog) ha.L rfl
  obtain ⟨W2, hW2⟩ : ∃ W2, Wa.putObj l (.loop { Hp fn sv Bs D .ready none with state := .busy }) = W2 := ⟨_, rfl⟩
  rw [hW2] at hbr
  have hg2 : Wa.grownBy W2 (some l) := by rw [← hW2]; exact grownBy_putObj _ _ _
  have hk2 : KeepsWalks Wa W2 := by rw [← hW2]; exact KeepsWalks.putObj _ ha.L rfl
  have hv2 : W2.heap[Bs]? = some (.cells #[v] 41 (0, 0)) := by rw [← hW2]; exact (World.putObj_heap_other hBl).trans hv
  have CW : W2.heap[bv]? = some (.cells #[S (R x.x), S (R x.y)] 28) := by rw [← hW2]; exact (World.putObj_heap_other (by omega)).trans EB
  have hK2 : W2.heap[D]? = some (.deferred (some [])) := by rw [← hW2]; exact (World.putObj_heap_other hDl).trans ha.K
  have hL2 : W2.heap[l]? = some (.loop { Hp fn sv Bs D .ready none with state := .busy }) := by rw [← hW2]; exact World.putObj_heap_same hl
  have hrow2 : W2.ownsRow w0.heap.size 28 2 v ss.length (Gt ss) := hrow.kept hg2 (ownsRow_ne hrow ha.L (fun cur e => by first | cases e | exact hne (Obj.cells.inj e).2.1))
  have hb2 : Below w0.heap.size w0 W2 := ha.below.grown hg2 ha.below.size (fun k e => by cases e; exact h0l)
  obtain ⟨hc2, hf2⟩ := cell_of_box hv2
  have hBlt : Bs < W2.heap.size := (Array.getElem?_eq_some_iff.1 hv2).1
  have hl2 : l < W2.heap.size := (Array.getElem?_eq_some_iff.1 hL2).1
  have hDlt : D < W2.heap.size := (Array.getElem?_eq_some_iff.1 hK2).1
  have ne_of : ∀ {j : Nat} {o : Obj}, W2.heap[j]? = some o → (∀ cur, o ≠ .cells cur 28 (0, 0)) → some j ≠ v.ownBlock := fun hj hno => by
    rcases ownsRow_ne hrow2 hj hno with e | e
    · rw [e]; simp
    · exact fun e' => e e'.symm
  have q0 := Ab (o := 0) CW rfl
  have q1 := Ab (o := 1) CW rfl
  have Q8 : W2.heap.size ≠ l := by omega
  clear hW2 ha hv hrow EB CW
  refine ⟨W2, hbr, ?_⟩
  unfold VP
  gi_wp2_with (first
    | (gi_at_builtin; refine wpListIn_append_own _ rfl _ _ 41 rfl w0.heap.size 28 i0 (.agg #[S [], S []]) 2 32 Tryz.underlying41 hi hz0 hz1 hz2 rfl (by decide) _ _ _ rfl (hrow2.alloc _) ⟨W2.heap.size, 0, none⟩ 1 1 [S (R x.x), S (R x.y)] rfl rfl (uu _ _ _ _) (by simp [Value.oneCell']) (by unfold maxLen; omega) (by omega) (by have := hb2.size; simp; omega) ?_; intro v' w3 hown' hg3 hnil3
       have hv3 : w3.heap[Bs]? = some (.cells #[v] 41 (0, 0)) := (hg3.block Bs (by simp; omega) (ne_of hv2 (fun cur e => by first | cases e | exact hne (Obj.cells.inj e).2.1))).trans ((Below.heap_alloc _ _ Bs hBlt).trans hv2)
       obtain ⟨hc3, hf3⟩ := cell_of_box hv3
       obtain ⟨g', cap', cur', rfl, hbase', hgb', hr1, hr2, hr3, hr4⟩ : ∃ g' cap' cur', v' = .slice (some ⟨g', 0, none⟩) (ss.length + 1) cap' ∧ w0.heap.size ≤ g' ∧ w3.heap[g']? = some (.cells cur' 28 (0, 0)) ∧ ss.length + 1 ≤ cap' ∧ cap' ≤ maxLen ∧ cur'.size = cap' * 2 ∧ cur'.toList.take ((ss.length + 1) * 2) = Gt ss ++ [S (R x.x), S (R x.y)] := by
         rcases hown'.2 with ⟨_, h0⟩ | h'
         · exact absurd h0 (by omega)
         · exact h'
       go_frame)
    | (rw [Oper.semAt_eq _ _ _ (fun c h => by cases h)]; go_simp; try go_bits))
  have hg3' : (W2.alloc (.cells #[S (R x.x), S (R x.y)] 28)).grownBy w3 v.ownBlock := hg3
  have hL3 : w3.heap[l]? = some (.loop { Hp fn sv Bs D .ready none with state := .busy }) := (hg3'.block l (by simp; omega) (ne_of hL2 (fun cur e => by first | cases e | exact hne (Obj.cells.inj e).2.1))).trans ((Below.heap_alloc _ _ l hl2).trans hL2)
  have hK3 : w3.heap[D]? = some (.deferred (some [])) := (hg3'.block D (by simp; omega) (ne_of hK2 (fun cur e => by first | cases e | exact hne (Obj.cells.inj e).2.1))).trans ((Below.heap_alloc _ _ D hDlt).trans hK2)
  obtain ⟨w4, hw4⟩ : ∃ w4, w3.setCell ⟨Bs, 0, none⟩ (.slice (some ⟨g', 0, none⟩) (ss.length + 1) cap') = w4 := ⟨_, rfl⟩
  rw [hw4]
  have hg4 : w3.grownBy w4 (some Bs) := by rw [← hw4]; exact grownBy_setCell0 _ _ _
  have hv4 : w4.heap[Bs]? = some (.cells #[.slice (some ⟨g', 0, none⟩) (ss.length + 1) cap'] 41 (0, 0)) := by rw [← hw4]; exact heap_setCell_box _ hv3
  have hL4 : w4.heap[l]? = some (.loop { Hp fn sv Bs D .ready none with state := .busy }) := (hg4.block l (Array.getElem?_eq_some_iff.1 hL3).1 (fun e => hBl (by cases e; rfl))).trans hL3
  have hK4 : w4.heap[D]? = some (.deferred (some [])) := (hg4.block D (Array.getElem?_eq_some_iff.1 hK3).1 (fun e => hDB (by cases e; rfl))).trans hK3
  have hrow4 := hown'.kept hg4 (ownsRow_ne hown' hv3 (fun cur e => by first | cases e | exact hne (Obj.cells.inj e).2.1))
  have hl4 : l < w4.heap.size := (Array.getElem?_eq_some_iff.1 hL4).1
  have hb3 : Below w0.heap.size w0 w3 := (hb2.alloc hb2.size _).grown hg3' (by have := hb2.size; simp; omega) (fun k e => (hrow2.lt k e).1)
  have hb4 : Below w0.heap.size w0 w4 := hb3.grown hg4 hb3.size (fun k e => by cases e; exact h0B)
  have hk4 : KeepsWalks W w4 := (hka.trans ((hk2.trans (KeepsWalks.alloc _ _)).trans (KeepsWalks.of_grownBy hg3' (ownsRow_not_walk (hrow2.alloc _))))).trans (by rw [← hw4]; exact KeepsWalks.setCell _ _ _)
  clear hw4
  refine ⟨_, _, run_endRound none hL4, rfl, ⟨⟨_, (World.putObj_heap_other hBl).trans hv4, ?_⟩, World.putObj_heap_same hl4, (World.putObj_heap_other hDl).trans hK4, hb4.grown (grownBy_putObj _ _ _) hb4.size (fun k e => by cases e; exact h0l)⟩, hk4.trans (KeepsWalks.putObj _ hL4 rfl)⟩
  have := hrow4.kept (grownBy_putObj w4 l (.loop { { Hp fn sv Bs D .ready none with state := .busy } with state := if (none : Option Code).isNone then .ready else .done, pending := none })) (ownsRow_ne hrow4 hL4 (fun cur e => by first | cases e | exact hne (Obj.cells.inj e).2.1))
  rw [Afo]
  simpa using this
theorem qo(F:Fence)(n:Nat)(h11:F.fn 239)(hro:F.round=none)(hn:2<=n)(g:Nat)(lb:Array Value)(hFg:F.fn g)(eg:∀args w,(callFunc g args).run Tryz.prog w=.ok (.enter g args) w)
  (S:List Pt→Prop) (N:Nat) (hN:N<=200000) (w:World) (hseq:SeqGives F (n-1) Tryz.prog g lb Ag S N w) :
  CallsIn F n Tryz.prog 239 #[.slice none 0 0,.func (.func g) #[] lb] w fun e w'=>∃(v:Value) (ss:List Pt),e=.returned v/\S ss/\w'.ownsRow w.heap.size 28 2 v ss.length (Gt ss)/\Below w.heap.size w w':=by
 have h1:1<=n:=(by omega);have hne:41≠28:=(by decide);refine callsIn_of_wp_marks Tryz.func239 rfl h11 ?_ hro;simp only [Tryz.ntmps239,List.size_toArray,List.length_cons,List.length_nil,Nat.reduceAdd,Nat.reduceSub,Array.replicate_succ,Array.replicate_zero,List.push_toArray,List.append_toArray,List.nil_append,List.cons_append];gi_wp2;refine wpIn_rangeFunc ?_;intro fn hfn;rw [hro];obtain⟨W0,hW0⟩:∃W0,w.alloc (.cells #[.slice none 0 0] 41)=W0:=⟨_,rfl⟩;have hs0:W0.heap.size=w.heap.size+1:=(by rw [←hW0];simp);have hv0:W0.heap[w.heap.size]?=some (.cells #[.slice none 0 0] 41 (0,0)):=(by rw [←hW0];exact World.alloc_heap_new w _);have hb0:Below w.heap.size w W0:=(by rw [←hW0];exact(Below.refl _ w).alloc (AjN _) _);rw [hW0];obtain⟨W1,hW1⟩:∃W1,(W0.alloc (.deferred (some []))).alloc (.loop (Hp fn (.func (.func g) #[] lb) w.heap.size W0.heap.size .ready none))=W1:=⟨_,rfl⟩
 have hold:∀k,k<W0.heap.size→W1.heap[k]?=W0.heap[k]?:=fun k hk=>by rw [←hW1];exact(Below.heap_alloc _ _ k (by simp;omega)).trans (Below.heap_alloc _ _ k hk)
 have hb1:Below w.heap.size w W1:=(by rw [←hW1];exact(hb0.alloc hb0.size _).alloc (by have:=hb0.size;simp;omega) _);have hs1:W1.heap.size=W0.heap.size+2:=by rw [←hW1];simp
 have hM:OR w fn (.func (.func g) #[] lb) w.heap.size (W0.heap.size+1) W0.heap.size [] W1:=
  ⟨⟨_,(hold w.heap.size (by omega)).trans hv0,⟨rfl,.inl ⟨rfl,rfl⟩⟩⟩,
   by rw [←hW1];have:=World.alloc_heap_new (W0.alloc (.deferred (some []))) (.loop (Hp fn (.func (.func g) #[] lb) w.heap.size W0.heap.size .ready none));rwa [AjU]at this,
   by rw [←hW1];exact(Below.heap_alloc _ _ _ (by simp)).trans (World.alloc_heap_new W0 _),hb1⟩
 refine⟨W0.heap.size+1,[{target:=.collected W0.heap.size,args:=#[]}],W1,{target:=.fn (.func g) lb,args:=#[.func (.yield (W0.heap.size+1)) #[] #[]]},W1,g,
  #[.func (.yield (W0.heap.size+1)) #[] #[]]++lb,W1,?_,?_,?_,?_,fun _=>h1,?_⟩
 ·rw [←hW1];exact run_enterLoop_outer _ _ _ _ _
 ·simp [resolve,go_sem]
 ·intro f' hf';simp [Target.leads]at hf';subst hf';exact hFg
 ·simp [invoke,go_sem,eg]
 ·refine(hseq (W0.heap.size+1) (OR w fn (.func (.func g) #[] lb) w.heap.size (W0.heap.size+1) W0.heap.size) W1 hb1 (eY _ _ _ _ _ _ _ hb1.size)
   (fun pre x W hJ hl=>qf F (n-1-1) w fn hfn _ w.heap.size (W0.heap.size+1) W0.heap.size (by omega) (by omega) (by omega) (AjN _) (by omega) N hN pre x W hJ hl) hM).mono ?_
  rintro e W2 ⟨⟨v0,rfl⟩,ss,hS,h2⟩;obtain⟨v,hv,hrow⟩:=h2.box;have hend:=run_endLoop (P:=Tryz.prog) h2.L (by simp [Hp]);obtain⟨W3,hW3⟩:∃W3,W2.putObj (W0.heap.size+1) (.loop {Hp fn (.func (.func g) #[] lb) w.heap.size W0.heap.size .ready none with state:=.exhausted})=W3:=⟨_,rfl⟩;rw [hW3]at hend;have hg3:W2.grownBy W3 (some (W0.heap.size+1)):=(by rw [←hW3];exact grownBy_putObj _ _ _);have hv3:W3.heap[w.heap.size]?=some (.cells #[v] 41 (0,0)):=(by rw [←hW3];exact(World.putObj_heap_other (by omega)).trans hv);have hK3:W3.heap[W0.heap.size]?=some (.deferred (some [])):=(by rw [←hW3];exact(World.putObj_heap_other (by omega)).trans h2.K);have hrow3:=hrow.kept hg3 (ownsRow_ne hrow h2.L (fun cur e=>by first|cases e|exact hne (Obj.cells.inj e).2.1));have hb3:Below w.heap.size w W3:=h2.below.grown hg3 h2.below.size (fun k e=>by cases e;omega);obtain⟨hc3,hf3⟩:=cell_of_box hv3;clear hW3;refine⟨none,W3,hend,?_⟩;gi_wp2;rw [←hs0];refine⟨by simp,.inl ⟨_,_,rfl,run_takeDeferred hK3,?_⟩⟩;exact⟨_,results_tmp rfl _ _ _,v,ss,rfl,hS,hrow3.kept (grownBy_putObj _ _ _) (ownsRow_ne hrow3 hK3 (fun cur e=>by first|cases e|exact hne (Obj.cells.inj e).2.1)),hb3.grown (grownBy_putObj _ _ _) hb3.size (fun k e=>by cases e;omega)⟩
theorem wo(F:Fence)(n:Nat)(h8:F.fn 193)(h11:F.fn 239)(hro:F.round=none)(hn:3<=n)(g:Nat)(lb:Array Value)(hFg:F.fn g)(eg:∀args w,(callFunc g args).run Tryz.prog w=.ok (.enter g args) w)
  (S:List Pt→Prop) (N:Nat) (hN:N<=200000) (w:World) (hseq:SeqGives F (n-1-1) Tryz.prog g lb Ag S N w) :
  CallsIn F n Tryz.prog 193 #[.func (.func g) #[] lb] w fun e w'=>∃(v:Value) (ss:List Pt),e=.returned v/\S ss/\w'.ownsRow w.heap.size 28 2 v ss.length (Gt ss)/\Below w.heap.size w w':=by
 have h1:1<=n:=(by omega);have e11:∀args w,(callFunc 239 args).run Tryz.prog w=.ok (.enter 239 args) w:=enters_of Tryz.func239 (by kernel_rfl) rfl;refine callsIn_of_wp Tryz.func193 rfl h8 ?_ hro;simp only [Tryz.ntmps193,List.size_toArray,List.length_cons,List.length_nil,Nat.reduceAdd,Nat.reduceSub,Array.replicate_succ,Array.replicate_zero,List.push_toArray,List.append_toArray,List.nil_append,List.cons_append];gi_wp2;refine(qo F (n-1) h11 hro (by omega) g lb hFg eg S N hN _ hseq).mono ?_;rintro e w' ⟨v,ss,rfl,hS,hrow,hb⟩;gi_wp2;go_ret;exact⟨v,ss,rfl,hS,hrow,hb⟩
section
open Go.Shelf
abbrev Plc:={p:Pt // A0 1 p}
instance instInhPlc:Inhabited Plc:=⟨⟨⟨0,0⟩,yX.1⟩⟩
def It(s t:Plc):Int:=AS s.1 t.1
theorem wR(s t:Plc):ltOf It s t=true↔s.1.x<t.1.x∨(s.1.x=t.1.x/\s.1.y<t.1.y):=by
 unfold ltOf It;rw [decide_eq_true_iff];exact MR _ _
theorem ZW(s t:Plc):ltOf It s t=false↔¬(s.1.x<t.1.x∨(s.1.x=t.1.x/\s.1.y<t.1.y)):=by
 rw [←wR];simp
theorem wS:SWO (ltOf It) where
 irrefl x:=by rw [ZW];grind
 trans x y z h1 h2:=by rw [wR]at *;grind
 ntrans x y z h1 h2:=by rw [ZW]at *;grind
theorem Afv(x y:Plc)(h1:ltOf It x y=false)(h2:ltOf It y x=false):x=y:=by
 rw [ZW]at h1 h2;obtain⟨⟨a,b⟩,hx⟩:=x;obtain⟨⟨a',b'⟩,hy⟩:=y;simp only [Subtype.mk.injEq,Pt.mk.injEq]at *
 grind
def GH(s:Plc):List Value:=[S (R s.1.x),S (R s.1.y)]
theorem SD(s:Plc):(GH s).length=2:=rfl
theorem zw(s:Plc):∀v∈GH s,v.oneCell'=true:=by
 intro v hv;simp only [GH,List.mem_cons,AjY,or_false]at hv
 rcases hv with rfl|rfl<;>rfl
theorem Afu{w0 w:World}(hw:Ak w0)(hx:Aa w0 w){blk:Nat}(hb:w0.heap.size<=blk)(off size:Nat):CmpLays Tryz.prog 125 #[] GH 2 It blk off size w:=by
 refine Zv fun W hg x y=>?_;have h:=Jk x.1 y.1 x.2 y.2 (by omega) (by omega) W (hw.ext (N7 hx hg hb));exact h
def Gw(l:List Pt):List Pt:=l.mergeSort (fun x y=>!decide (AS y x<0))
theorem OK(l:List Pt):(Gw l).Perm l:=List.mergeSort_perm _ _
theorem zJ{l:List Pt} : (Gw l).Pairwise (fun x y=>¬AS y x<0):=by
 have tr:∀a b c:Pt,(!decide (AS b a<0))=true→(!decide (AS c b<0))=true→(!decide (AS c a<0))=true:=by
  intro a b c h1 h2;simp only [Bool.not_eq_true',decide_eq_false_iff_not,MR]at *
  grind
 have bD:∀a b:Pt,((!decide (AS b a<0))||(!decide (AS a b<0)))=true:=by
  intro a b;simp only [Bool.or_eq_true,Bool.not_eq_true',decide_eq_false_iff_not,MR]
  grind
 have h:=List.pairwise_mergeSort tr bD l;refine h.imp ?_;intro a b hab
 simpa using hab
theorem AgR{l m:List Pt}(h:l.Perm m):Gw l=Gw m:=by
 refine List.Perm.eq_of_pairwise (le:=fun x y=>¬AS y x<0) ?_ zJ zJ (((OK l).trans h).trans (OK m).symm);intro a b _ _ h1 h2;rw [MR]at h1 h2;obtain⟨a1,a2⟩:=a;obtain⟨b1,b2⟩:=b;simp only [Pt.mk.injEq]at *
 grind
theorem jF(m:List Plc):m.flatMap GH=Gt (m.map (·.1)):=by
 induction m with
 | nil=>rfl
 | cons x m ih=>rw [List.flatMap_cons,ih];rfl
theorem Afw{l:List Pt}(h:∀s∈l,A0 1 s):∃d:Array Plc,d.toList.map (·.1)=l:=
 ⟨(l.attachWith (A0 1) h).toArray,by simp⟩
def Ku(l:List Plc):List Plc:=l.mergeSort (fun x y=>!ltOf It y x)
theorem zG(blk off cap:Nat)(d:Array Plc)(w0 w:World)(hw:Ak w0)(hx:Aa w0 w)(h0:w0.heap.size<=blk)(hH:HoldsK GH 2 w blk off d)(hblk:blk<w.heap.size)(hsz:d.size<4611686018427387904) :
  Calls Tryz.prog 194 #[.slice (some ⟨blk,off,none⟩) d.size cap,.func (.func 125) #[] #[]] w fun e w'=>
   e=.returned (.tuple #[])/\∃(n:Nat) (os:Array Obj),w'=sortWorldK GH 2 w blk off n (Ku d.toList).toArray os:=by
 have eg:∀args w,(callFunc 125 args).run Tryz.prog w=.ok (.enter 125 args) w:=enters_of Tryz.func125 (by kernel_rfl) rfl;refine(AnyQ.slices_SortFunc Tryz.laysSortPt 2 Tryz.isAgg28 Tryz.sizeOf28 GH SD zw It wS 125 #[] blk off cap d w eg (Afu hw hx h0 off d.size) hH hblk hsz).mono ?_;rintro e w' ⟨he,d',n,os,h1,h2,hw'⟩;have h:=sorted_unique_holds (lt:=ltOf It) wS Afv d d' h1 h2;refine⟨he,n,os,?_⟩;rw [Ku,←h];exact hw'
theorem Adw(fv:Value)(w:World):Calls Tryz.prog 265 #[.slice none 0 0,.int .i64 0,.int .i64 0,fv] w fun e w'=>e=.returned (.tuple #[])/\w'=w:=by
 go_enter Tryz.func265,Tryz.ntmps265;go_wp2;refine wp_loop_rounds 1 ?_;rw [rounds_succ];go_wp2
 go_end0
 exact⟨rfl,rfl⟩
theorem Afp(lim:Int)(fv:Value)(w:World):Calls Tryz.prog 240 #[.slice none 0 0,.int .i64 0,.int .i64 0,.int .i64 lim,fv] w fun e w'=>e=.returned (.tuple #[])/\w'=w:=by
 have hi:=Adw fv;go_enter Tryz.func240,Tryz.ntmps240;go_wp2;refine wp_loop_rounds 1 ?_;rw [rounds_succ];(go_wp2_with fail);(with_reducible refine(hi _).mono ?_);rintro e w1 ⟨rfl,rfl⟩;go_wp2
 (try simp only [Exit.inBlock,Exit.then]);refine bodyPost_ret (results_none rfl _ _ _) rfl ?_
 exact⟨rfl,rfl⟩
theorem AgJ(fv:Value)(w:World):Calls Tryz.prog 194 #[.slice none 0 0,fv] w fun e w'=>e=.returned (.tuple #[])/\w'=w:=by
 have h1:=len_nil;have h2:=Afp 0 fv;go_enter Tryz.func194,Tryz.ntmps194;(go_wp2_with fail);(with_reducible refine(h1 _).mono ?_);rintro e w1 ⟨rfl,rfl⟩;(go_wp2_with fail);(with_reducible refine(h2 _).mono ?_);rintro e w1 ⟨rfl,rfl⟩;go_wp2
 go_end0
 exact⟨rfl,rfl⟩
theorem AgK{w0 w:World}(hw:Ak w0)(hx:Aa w0 w){B:Nat}(hB:w0.heap.size<=B)(l:List Pt)(hl:∀s∈l,A0 1 s)(hlen:l.length<1000000){v:Value}(hv:w.ownsRow B 28 2 v l.length (Gt l)) :
  Calls Tryz.prog 194 #[v,.func (.func 125) #[] #[]] w fun e w'=>
   e=.returned (.tuple #[])/\w.grownBy w' v.ownBlock/\w'.ownsRow B 28 2 v l.length (Gt (Gw l)):=by
 by_cases hn:l = []
 ·subst hn
  have hv':v=.slice none 0 0∨∃g cap,v=.slice (some ⟨g,0,none⟩) 0 cap:=by
   rcases hv.2 with⟨h,_⟩|⟨g,cap,cur,h,_⟩
   ·exact .inl h
   ·exact .inr ⟨g,cap,h⟩
  have e:Gw [] = []:=(by unfold Gw;simp);rw [e]
  rcases hv' with rfl|⟨g,cap,rfl⟩
  ·exact(AgJ _ w).mono fun _ _ ⟨he,hw⟩=>⟨he,by subst hw;exact jZ _ _,by subst hw;exact hv⟩
  ·have hgb:g<w.heap.size/\w0.heap.size<=g:=by have:=hv.lt g rfl;omega
   refine(zG g 0 cap #[] w0 w hw hx hgb.2 (fun j hj=>by simp at hj) hgb.1 (by simp)).mono ?_;rintro e w' ⟨he,n,os,rfl⟩;refine⟨he,NA GH 2 w g 0 n _ os,?_⟩;have h2:w.ownsRow B 28 2 (.slice (some ⟨g,0,none⟩) (#[]:Array Plc).size cap) (#[]:Array Plc).size ((#[]:Array Plc).toList.flatMap GH):=hv;have:=Rf SD (by omega) h2 (d':=(Ku []).toArray) (by simp [Ku]) n os
   simpa [Ku,Gt,flat,Aq]using this
 ·obtain⟨d,hd⟩:=Afw hl;have FH:d.size=l.length:=by rw [←hd];simp
  have hv':w.ownsRow B 28 2 v d.size (d.toList.flatMap GH):=by rw [jF,hd,FH];exact hv
  have FP:0<d.size:=(by rw [FH];exact List.length_pos_iff.2 hn);obtain⟨g,cap,rfl,hgb,Qq,hH,hown⟩:=YE SD (by omega) hv' FP;refine(zG g 0 cap d w0 w hw hx (by omega) hH Qq (by omega)).mono ?_;rintro e w' ⟨he,n,os,rfl⟩;refine⟨he,NA GH 2 w g 0 n _ os,?_⟩;have ho:=Rf SD (by omega) hv' (d':=(Ku d.toList).toArray) (by simp [Ku]) n os
  have hm:(Ku d.toList).map (·.1)=Gw l:=by unfold Ku Gw;rw [List.map_mergeSort (r:=fun x y:Plc=>!ltOf It y x) (f:=fun x:Plc=>x.1) (s:=fun x y=>!decide (AS y x<0)) (fun a _ b _=>rfl),hd]
  rw [jF,List.toList_toArray,hm,FH]at ho;rw [FH];exact ho
theorem zK{w0 w:World}(hw:Ak w0)(hx:Aa w0 w)(Bm b:Nat)(E:List (Pt×Value×Nat))(hst:∀i (h:i<E.length),E[i].2.2=i)(hBm:Bm<w.heap.size)(hm:w.cell? ⟨Bm,0,none⟩=some (.map (some b)))(hb:w.heap[b]?=some (.map (Az Ag E).toArray E.length))
  (hL:∀e∈E,A0 1 e.1) (hlen:E.length<=200000) :
  Calls Tryz.prog 123 #[.func (.func 195) #[] #[.pointer (some ⟨Bm,0,none⟩)],.func (.func 125) #[] #[]] w fun e w'=>
   ∃v,e=.returned v/\w'.ownsRow w.heap.size 28 2 v E.length (Gt (Gw (E.map (·.1))))/\Aa w w':=by
 have eg:∀args w,(callFunc 195 args).run Tryz.prog w=.ok (.enter 195 args) w:=enters_of Tryz.func195 (by kernel_rfl) rfl;have c1:=callsIn_wide.1 (wo Fence.wide 5 trivial trivial rfl (by omega) 195 #[.pointer (some ⟨Bm,0,none⟩)] trivial eg _ E.length hlen w (AdA Fence.wide 3 trivial rfl (by omega) Bm b E hst w hBm hm hb));go_enter Tryz.func123,Tryz.ntmps123;(go_wp2_with fail);(with_reducible refine c1.mono ?_);rintro e w1 ⟨v,ss,rfl,hS,hrow,hbl⟩;have BA:Aa w w1:=hbl;have D4:ss.length=E.length:=by rw [hS.length_eq];simp
 have c2:=AgK hw (hx.trans BA) hx.size ss (fun s hs=>by
  have:=hS.mem_iff.1 hs;rw [List.mem_map]at this;obtain⟨e,he,rfl⟩:=this
  exact hL e he) (by omega) hrow
 have D5:=AgR hS;rw [D5,D4]at c2;rw [D4]at hrow;(go_wp2_with fail);(with_reducible refine c2.mono ?_);rintro e w2 ⟨rfl,hg,ho⟩;go_wp2;go_ret;exact⟨v,rfl,ho,BA.grownOwn hg hrow (AjN _)⟩
end
end Go.Proofs.YtnfedbopbcegjaaGreatDoor
namespace Go.Proofs.YtnfedbopbcegjaaGreatDoor
open Go.RowKit Kl
theorem Tryz.infoStr:(Tryz.prog.info? 9).map (fun i=>(i.zero,i.size,i.bytes))=some (some (S []),1,16):=by kernel_rfl
section
variable {ops : Array Oper} {rest : List Oper} {o : Oper} {a : Act} {K : Act → World → Prop} {Q : Exit → Act → World → Prop} {E : Prop}
theorem ey(s x:Operand)(ho:o.op=.call {callee:=.builtin .append,args:=#[s,x],argTypes:=#[33,33]})
  (wN:World) (base:Nat) (v:Value) (n:Nat) (l:List Bs) (hs:a.eval s=v) (hown:wN.ownsRow base 9 1 v n (l.map S)) (hn:n<200000) (d:Bs)
  (g:Nat) (hb:wN.heap[g]?=some (.cells #[S d] 9)) (hx:a.eval x=.slice (some ⟨g,0,none⟩) 1 1) (hbase:base<=wN.heap.size)
  (h:∀v' w',w'.ownsRow base 9 1 v' (n+1) ((l ++ [d]).map S)→(∀w0,Aa w0 wN→w0.heap.size<=base→Aa w0 w')→wN.grownBy w' v.ownBlock→K (a.put o.dst v') w') :
  o.wp Tryz.prog a wN K Q:=by
 obtain⟨i0,hi,hz0,hz1,hz2⟩:=info_parts Tryz.infoStr;refine Ng s x 33 ho 9 i0 _ 1 16 1 Tryz.underlying33 hi hz0 hz1 hz2 rfl (by omega) (by omega) (by omega) wN base v n _ hs hown hn g _ hb rfl ?_ hx hbase ?_
 ·intro u hu;simp only [List.mem_cons,AjY,or_false]at hu;rw [hu];rfl
 ·intro v' w' h1 h2 h3;refine h v' w' ?_ h2 h3;rw [List.map_append];exact h1
theorem zS(hgd:o.guard=none)(s x:Operand)(ho:o.op=.call {callee:=.builtin .append,args:=#[s,x],argTypes:=#[33,33]})
  (wN:World) (base:Nat) (v:Value) (n:Nat) (l:List Bs) (hs:a.eval s=v) (hown:wN.ownsRow base 9 1 v n (l.map S)) (hn:n<200000) (d:Bs)
  (g:Nat) (hb:wN.heap[g]?=some (.cells #[S d] 9)) (hx:a.eval x=.slice (some ⟨g,0,none⟩) 1 1) (hbase:base<=wN.heap.size)
  (h:∀v' w',w'.ownsRow base 9 1 v' (n+1) ((l ++ [d]).map S)→(∀w0,Aa w0 wN→w0.heap.size<=base→Aa w0 w')→wN.grownBy w' v.ownBlock→K (a.put o.dst v') w') :
  if Region.wanted o (yielded ops a.tmps)=true then Oper.wp Tryz.prog o a wN K Q else E:=by
 have hw:Region.wanted o (yielded ops a.tmps)=true:=(by simp [Region.wanted,hgd]);rw [if_pos hw];exact ey s x ho wN base v n l hs hown hn d g hb hx hbase h
end
structure Hn(wr:World)(B n bx AH bM bU:Nat)(U:Option Addr)(cu:Nat)(units:List Bs)(P E F:Value)(nums:List Int)(faces:List Bs):Prop where
 cN:wr.heap[bx]?=some (.cells #[.slice (some ⟨AH,0,none⟩) n n] 51)
 num:wr.ownsRow 0 3 1 (.slice (some ⟨AH,0,none⟩) n n) n (zs nums)
 cM:wr.heap[bM]?=some (.cells #[P,E,F] 44)
 fac:wr.ownsRow B 9 1 F faces.length (faces.map S)
 cU:wr.heap[bU]?=some (.cells #[.slice U n cu] 33)
 uni:wr.ownsRow 0 9 1 (.slice U n cu) n (units.map S)
 uB:∀k,(Value.slice U n cu).ownBlock=some k→k<B
 lenN:nums.length=n
 lenU:units.length=n
 cu1:n<=cu
 cu2:cu<=9223372036854775807
 rng:∀z∈nums,0<=z/\z<=(faces.length:Int)
 cnt:faces.length+nums.countP (fun z=>z == 0)<=n
 txt:∀s∈faces,s∈units
theorem C0{w:World}{i j:Nat}{c1 c2:Array Value}{t1 t2:TypeId}{r1 r2:Nat×Nat}(h1:w.heap[i]?=some (.cells c1 t1 r1))(h2:w.heap[j]?=some (.cells c2 t2 r2))(hne:t1≠t2):i≠j:=by
 rintro rfl;rw [h1]at h2;simp only [AjR,Obj.cells.injEq]at h2;exact hne h2.2.1
theorem Ap{w:World}{B:Nat}{e:TypeId}{s n:Nat}{v:Value}{xs:List Value}(h:w.ownsRow B e s v n xs){j:Nat}{c:Array Value}{t:TypeId}{r:Nat×Nat}(hj:w.heap[j]?=some (.cells c t r))(hne:e≠t):v.ownBlock≠some j:=by
 intro k
 rcases h.2 with⟨h',_⟩|⟨g,cap,cur,h',_,hgb,_⟩
 ·rw [h']at k;cases k
 ·rw [h']at k;simp only [Value.ownBlock,AjR]at k;subst k;rw [hgb]at hj;simp only [AjR,Obj.cells.injEq]at hj;exact hne hj.2.1
theorem Ip{w:World}{B n b:Nat}{e:TypeId}{s:Nat}{xs:List Value}{cap:Nat}(h:w.ownsRow B e s (.slice (some ⟨b,0,none⟩) n cap) n xs):∃cur,w.heap[b]?=some (.cells cur e (0,0)):=by
 rcases h.2 with⟨h',_⟩|⟨g,cap,cur,h',_,hgb,_⟩
 ·cases h'
 ·simp only [Value.slice.injEq,AjR,Addr.mk.injEq,and_true,true_and]at h';obtain⟨rfl,-⟩:=h';exact⟨cur,hgb⟩
theorem B7{w:World}{p:Addr}{v:Value}{q:Nat}(h:q≠p.block):(w.setCell p v).heap[q]?=w.heap[q]?:=Below.heap_setCell _ _ _ _ h
theorem VX{w:World}{b:Nat}{a0 a1 a2:Value}{t:TypeId}(v:Value)(h:w.heap[b]?=some (.cells #[a0,a1,a2] t)):(w.setCell ⟨b,2,none⟩ v).heap[b]?=some (.cells #[a0,a1,v] t):=by
 simp only [World.setCell,Array.getElem?_modify,h];simp
theorem bW(l:List Int)(m:Nat)(z:Int):(zs l).set m (.int .i64 z)=zs (l.set m z):=by simp [zs]
theorem iN:∀(l:List Int) (m:Nat) (z:Int) (h:m<l.length),l[m]=0→z≠0→(l.set m z).countP (fun z=>z == 0)+1=l.countP (fun z=>z == 0)
 | a::l,0,z,_,h0,hz=>by
  simp only [List.getElem_cons_zero]at h0;subst h0;have:(z == 0)=false:=beq_false_of_ne hz;simp [this]
 | a::l,m+1,z,h,h0,hz=>by have:=iN l m z (by simpa using h) (by simpa using h0) hz;simp only [List.set_cons_succ,List.countP_cons];omega
theorem Hn.extn{w w':World}{B n bx AH bM bU:Nat}{U:Option Addr}{cu:Nat}{units:List Bs}{P E F:Value}{nums:List Int}{faces:List Bs}(h:Hn w B n bx AH bM bU U cu units P E F nums faces)(hx:Aa w w'):Hn w' B n bx AH bM bU U cu units P E F nums faces:=
 ⟨(hx.block _ (AjL h.cN)).trans h.cN,Am h.num hx,(hx.block _ (AjL h.cM)).trans h.cM,Am h.fac hx,(hx.block _ (AjL h.cU)).trans h.cU,Am h.uni hx,h.uB,h.lenN,h.lenU,h.cu1,h.cu2,h.rng,h.cnt,h.txt⟩
theorem Hn.step{w:World}{B n bx AH bM bU:Nat}{U:Option Addr}{cu:Nat}{units:List Bs}{P E F:Value}{nums:List Int}{faces:List Bs}(h:Hn w B n bx AH bM bU U cu units P E F nums faces){m:Nat}(hm:m<nums.length)(hz:nums[m]=0){s:Bs}(hs:s∈units){X:Obj}{W7:World}{F':Value}
  (hg:((w.alloc X).drew).grownBy W7 F.ownBlock) (ho:W7.ownsRow B 9 1 F' (faces.length+1) ((faces ++ [s]).map S)) :
  Hn ((W7.setCell ⟨bM,2,none⟩ F').setCell ⟨AH,m,none⟩ (.int .i64 ((faces.length:Int)+1))) B n bx AH bM bU U cu units P E F' (nums.set m ((faces.length:Int)+1)) (faces ++ [s])/\Al (fun k=>k=AH∨k=bM∨F.ownBlock=some k) w ((W7.setCell ⟨bM,2,none⟩ F').setCell ⟨AH,m,none⟩ (.int .i64 ((faces.length:Int)+1)))
  /\(W7.setCell ⟨bM,2,none⟩ F').heap[bx]?=some (.cells #[.slice (some ⟨AH,0,none⟩) n n] 51)/\(W7.setCell ⟨bM,2,none⟩ F').heap[bM]?=some (.cells #[P,E,F'] 44)/\(W7.setCell ⟨bM,2,none⟩ F').ownsRow 0 3 1 (.slice (some ⟨AH,0,none⟩) n n) n (zs nums):=by
 obtain⟨cn,Bo⟩:=Ip h.num;have E4:Aa w ((w.alloc X).drew):=((Aa.refl w).alloc X).drew;have n1:=C0 Bo h.cM (by decide);have n2:=C0 h.cN Bo (by decide);have n3:=C0 h.cN h.cM (by decide);have n4:=C0 h.cU Bo (by decide);have n5:=C0 h.cU h.cM (by decide);have f1:=Ap h.fac Bo (by decide);have f2:=Ap h.fac h.cM (by decide);have f3:=Ap h.fac h.cN (by decide);have f4:=Ap h.fac h.cU (by decide);have g7:∀{j:Nat} {o:Obj},w.heap[j]?=some o→F.ownBlock≠some j→W7.heap[j]?=some o:=fun {j o} hj hn=>(hg.block j (AjW (AjL hj) E4.size) (fun e=>hn e.symm)).trans ((E4.block j (AjL hj)).trans hj);have Ey:=g7 h.cM f2;have Tn:=g7 Bo f1;have JM:Al (fun k=>k=AH∨k=bM∨F.ownBlock=some k) w W7:=((Al.refl _ w).ext E4).grown hg (fun k e=>.inl (.inr (.inr e)));have Hv:=(JM.setCell (p:=⟨bM,2,none⟩) (.inl (.inr (.inl rfl))) F').setCell (p:=⟨AH,m,none⟩) (.inl (.inl rfl)) (.int .i64 ((faces.length:Int)+1))
 have o7:W7.ownsRow 0 3 1 (.slice (some ⟨AH,0,none⟩) n n) n (zs nums):=(Am h.num E4).kept hg (by
  cases hF:F.ownBlock with
  | none=>exact .inr (by simp [Value.ownBlock])
  | some k=>refine .inr (fun e=>f1 ?_);rw [hF];exact e.symm)
 have o8:=Bf (K:=fun k=>k=bM) o7 ((Al.refl (fun k=>k=bM) W7).setCell (p:=⟨bM,2,none⟩) (.inl rfl) F') (fun k hk e=>by simp only [Value.ownBlock,AjR]at hk;omega);have o9:=(o8.stored m (.int .i64 ((faces.length:Int)+1))).1;rw [bW]at o9;have q1:=Ap ho Ey (by decide);have q2:=Ap ho Tn (by decide);refine⟨⟨?_,o9,?_,?_,?_,?_,h.uB,by rw [List.length_set];exact h.lenN,h.lenU,h.cu1,h.cu2,?_,?_,?_⟩,Hv,by rw [B7 (by show bx≠bM;exact n3)];exact g7 h.cN f3,VX F' Ey,o8⟩
 ·rw [B7 (by show bx≠AH;exact n2),B7 (by show bx≠bM;exact n3)];exact g7 h.cN f3
 ·rw [B7 (by show bM≠AH;exact fun e=>n1 e.symm)];exact VX F' Ey
 ·rw [List.length_append,List.length_singleton];refine Bf (K:=fun k=>k=AH∨k=bM) ho (((Al.refl (fun k=>k=AH∨k=bM) W7).setCell (p:=⟨bM,2,none⟩) (.inl (.inr rfl)) F').setCell (p:=⟨AH,m,none⟩) (.inl (.inl rfl)) _) ?_;rintro k hk (e|e)
  ·subst e;exact q2 hk
  ·subst e;exact q1 hk
 ·rw [B7 (by show bU≠AH;exact n4),B7 (by show bU≠bM;exact n5)];exact g7 h.cU f4
 ·have u1:=Am h.uni E4
  have u2:=u1.kept hg (by
   cases hF:(Value.slice U n cu).ownBlock with
   | none=>exact .inl rfl
   | some k=>
    refine .inr (fun e=>?_);have h1:=h.uB k hF;have h2:=(h.fac.lt k e.symm).1
    omega)
  refine Bf (K:=fun k=>k=AH∨k=bM) u2 (((Al.refl (fun k=>k=AH∨k=bM) W7).setCell (p:=⟨bM,2,none⟩) (.inl (.inr rfl)) F').setCell (p:=⟨AH,m,none⟩) (.inl (.inl rfl)) _) ?_;rintro k hk (e|e)
  ·subst e;exact Ap h.uni Bo (by decide) hk
  ·subst e;exact Ap h.uni h.cM (by decide) hk
 ·intro z hz';rw [List.length_append,List.length_singleton]
  rcases List.mem_or_eq_of_mem_set hz' with k|k
  ·have:=h.rng z k;omega
  ·omega
 ·have h1:=iN nums m ((faces.length:Int)+1) hm hz (by omega);have h2:=h.cnt;rw [List.length_append,List.length_singleton];omega
 ·intro x hx
  rcases List.mem_append.1 hx with k|k
  ·exact h.txt x k
  ·simp only [AjZ]at k;rw [k];exact hs
def D7(units:List Bs)(nums:List Int)(faces:List Bs)(f:Int):Int×List Int×List Bs:=
 if f<0 then (-1,nums,faces)
 else if nums.getD f.toNat 0=0 then ((faces.length:Int),nums.set f.toNat ((faces.length:Int)+1),faces ++ [units.getD f.toNat []])
 else (nums.getD f.toNat 0-1,nums,faces)
theorem Aeq{units:List Bs}{nums:List Int}{faces:List Bs}{m:Nat}{s:Bs}(hm:m<nums.length)(hu:m<units.length)(hz:0=nums[m])(hs:s=units[m]):((faces.length:Int),nums.set m ((faces.length:Int)+1),faces ++ [s])=D7 units nums faces (m:Int):=by
 have e1:nums.getD m 0=0:=(by rw [List.getD_eq_getElem?_getD,AjS hm];exact hz.symm);have e2:units.getD m []=s:=(by rw [List.getD_eq_getElem?_getD,AjS hu];exact hs.symm);unfold D7;rw [if_neg (by omega),Int.toNat_natCast,if_pos e1,e2]
theorem Aer{units:List Bs}{nums:List Int}{faces:List Bs}{m:Nat}{z:Int}(hm:m<nums.length)(hz:z=nums[m])(h0:¬z=0):(z-1,nums,faces)=D7 units nums faces (m:Int):=by
 have e1:nums.getD m 0=z:=(by rw [List.getD_eq_getElem?_getD,AjS hm];exact hz.symm);unfold D7;rw [if_neg (by omega),Int.toNat_natCast,if_neg (by rw [e1];exact h0),e1]
def mi(w:World)(B n bx AH bM bU:Nat)(U:Option Addr)(cu:Nat)(units:List Bs)(P E F:Value)(nums:List Int)(faces:List Bs)(f:Int)(e:Ending)(w':World):Prop:=
 ∃z F' Be AG,e=.returned (.int .i64 z)/\Hn w' B n bx AH bM bU U cu units P E F' Be AG/\Al (fun k=>k=AH∨k=bM∨F.ownBlock=some k) w w'/\(z,Be,AG)=D7 units nums faces f
theorem uX{w:World}{B n bx AH bM bU:Nat}{U:Option Addr}{cu:Nat}{units:List Bs}{P E F:Value}{nums:List Int}{faces:List Bs}(h:Hn w B n bx AH bM bU U cu units P E F nums faces)(hn:n<=100000)(hB:B<=w.heap.size)(f:Int)(hf0:-1<=f)(IW:f<(n:Int)) :
  Calls Tryz.prog 135 #[.int .i64 f,.pointer (some ⟨bx,0,none⟩),.pointer (some ⟨bM,0,none⟩),.pointer (some ⟨bU,0,none⟩)] w (mi w B n bx AH bM bU U cu units P E F nums faces f):=by
 by_cases MI:f<0
 ·go_enter Tryz.func135,Tryz.ntmps135;go_wp2;go_ret;exact⟨-1,F,nums,faces,rfl,h,Al.refl _ _,(if_pos MI).symm⟩
 ·obtain⟨m,rfl⟩:∃m:Nat,f=(m:Int):=⟨f.toNat,by omega⟩;have hm:m<n:=(by omega);have hm0:(0:Int)<=(m:Int):=(by omega);have k0:=Ab (o:=0) h.cN rfl;obtain⟨z,hz⟩:∃z,z=nums[m]'(by rw [h.lenN];exact hm):=⟨_,rfl⟩
  have hc:w.cell? ⟨AH,m,none⟩=some (.int .i64 z):=by rw [h.num.cellAt m (by omega),hz];simp [zs,AjS (show m<nums.length by rw [h.lenN];exact hm)]
  have hr:=h.rng z (by rw [hz];exact AjO _);have H6:faces.length<=n:=(by have:=h.cnt;omega);by_cases hz0:z=0
  ·subst hz0;have HZ:=AjK hz;clear hz;have Cd:=h.lenU;obtain⟨U',cu',oI,hrU,-,-⟩:=Ad.of_own' (by omega) h.uni;simp only [Value.slice.injEq,true_and]at oI;obtain⟨rfl,rfl⟩:=oI;obtain⟨bu,ou,rfl,hu⟩:=hrU.ad (by simp;omega);have Za:=hu m (by simp;omega);obtain⟨s,hs⟩:∃s,s=units[m]'(by rw [Cd];exact hm):=⟨_,rfl⟩;rw [List.getElem_map,←hs]at Za;have HS:=AjK hs;have V7:=AjK (Aeq (units:=units) (faces:=faces) (by rw [h.lenN];exact hm) (by rw [Cd];exact hm) HZ.out hs);clear hs;obtain⟨oF,cF,rfl,-,-,-⟩:=Ad.of_own' (by omega) h.fac;have k1:w.cell? ⟨bM,2,none⟩=some (.slice oF faces.length cF):=Ab h.cM rfl;have k2:=Ab (o:=0) h.cU rfl;have Ajj:(m:Int)<(n:Int):=(by omega);clear hu;go_enter Tryz.func135,Tryz.ntmps135
   go_upto_region 4 with fail
   have WS:(Value.slice oF faces.length cF).ownBlock≠some bM:=Ap h.fac h.cM (by decide);have WW:=AjL h.cM;have hfc:=h.fac;have M6:=h.cM;have Yc:faces.length<200000:=by omega
   go_region_law (refine zS rfl _ _ rfl _ B (.slice oF faces.length cF) faces.length faces rfl (Am hfc (by first|exact(Aa.refl w).alloc _|exact((Aa.refl w).alloc _).drew)) Yc s w.heap.size (AjM w _) rfl (by simp;omega) ?_;intro v7 w7 C4 Fj BM;obtain⟨GY,GE,rfl,-,-,-⟩:=Ad.of_own' (by omega) C4;have Ey:=(BM.block bM (by simp;omega) (fun e=>WS e.symm)).trans ((((Aa.refl w).alloc _).block bM WW).trans M6);have e1:w7.cell? ⟨bM,2,none⟩=some (.slice oF faces.length cF):=Ab Ey rfl;have e2:=Ao (o:=2) Ey)
   all_goals (
    obtain⟨N9,B9,x1,x2,x3⟩:=h.step (m:=m) (by rw [h.lenN];exact hm) HZ.out.symm (s:=s) (by rw [HS.out];exact AjO _) BM C4;have y1:=Ab (o:=0) x1 rfl;have y2:(w7.setCell ⟨bM,2,none⟩ (.slice GY (faces.length+1) GE)).cell? ⟨bM,2,none⟩=some (.slice GY (faces.length+1) GE):=Ab x2 rfl
    have y3:(w7.setCell ⟨bM,2,none⟩ (.slice GY (faces.length+1) GE)).cell? ⟨AH,m,none⟩=some (.int .i64 0):=by rw [x3.cellAt m (by omega)];have:=HZ.out;simp [zs,AjS (show m<nums.length by rw [h.lenN];exact hm),←this]
    have y4:=x3.frozenAt m;have v1:=Ab (o:=0) N9.cN rfl
    have v2:(((w7.setCell ⟨bM,2,none⟩ (.slice GY (faces.length+1) GE)).setCell ⟨AH,m,none⟩ (.int .i64 ((faces.length:Int)+1)))).cell? ⟨AH,m,none⟩=some (.int .i64 ((faces.length:Int)+1)):=by rw [N9.num.cellAt m (by omega)];simp [zs,show m<nums.length by rw [h.lenN];exact hm]
    have hwr:IntKind.wrap .i64 (((faces.length:Int)+1)-1)=(faces.length:Int):=(by rw [AjT _ (by omega)];omega);clear Ey e1 e2 BM C4 Fj x1 x2 x3;generalize (w7.setCell ⟨bM,2,none⟩ (.slice GY (faces.length+1) GE))=W8 at *;have HN:=AjK N9;have HB:=AjK B9;clear N9 B9;go_wp2;go_ret
    exact⟨(faces.length:Int),_,_,_,by go_num,HN.out,HB.out,V7.out⟩)
  ·have hzw:IntKind.wrap .i64 (z-1)=z-1:=AjT _ (by omega);have V7:=AjK (Aer (units:=units) (faces:=faces) (by rw [h.lenN];exact hm) hz hz0);clear hz;go_enter Tryz.func135,Tryz.ntmps135;go_wp2;go_ret;exact⟨z-1,F,nums,faces,rfl,h,Al.refl _ _,V7.out⟩
def lenV:Value→Nat
 | .slice _ n _=>n
 | _=>0
theorem AdL{w:World}{B:Nat}{e:TypeId}{s n:Nat}{v:Value}{xs:List Value}(h:w.ownsRow B e s v n xs):lenV v=n:=by
 rcases h.2 with⟨h',rfl⟩|⟨g,cap,cur,h',_⟩
 ·rw [h'];rfl
 ·rw [h'];rfl
theorem ZV{w:World}{B:Nat}{e:TypeId}{s n c:Nat}{A:Option Addr}{xs:List Value}(h:w.ownsRow B e s (.slice A n c) n xs)(hn:0<n):∃g,A=some ⟨g,0,none⟩:=by
 rcases h.2 with⟨h',_⟩|⟨g,cap,cur,h',_⟩
 ·simp only [Value.slice.injEq]at h';omega
 ·simp only [Value.slice.injEq]at h';exact⟨g,h'.1⟩
theorem nT:∀(l:List Hf) (k:Nat) (y:Hf),(((((AO l).set (k*5) (S (R y.a.x))).set (k*5+1) (S (R y.a.y))).set (k*5+2) (S (R y.b.x))).set (k*5+3) (S (R y.b.y))).set (k*5+4) (.int .i64 y.l)=AO (l.set k y)
 | [],_,_=>by simp [AO]
 | p::l,0,_=>rfl
 | p::l,k+1,y=>by
  have e:AO (p::l)=S (R p.a.x)::S (R p.a.y)::S (R p.b.x)::S (R p.b.y) :: .int .i64 p.l::AO l:=rfl;have e1:(k+1)*5=k*5+1+1+1+1+1:=(by omega);rw [e,e1];simp only [List.set_cons_succ,nT l k y]
  rfl
theorem vU{W:World}{B g n c:Nat}{l:List Hf}(h:W.ownsRow B 145 5 (.slice (some ⟨g,0,none⟩) n c) n (AO l))(k:Nat)(y:Hf) :
  (((((W.setCell ⟨g,k*5,none⟩ (S (R y.a.x))).setCell ⟨g,k*5+1,none⟩ (S (R y.a.y))).setCell ⟨g,k*5+2,none⟩ (S (R y.b.x))).setCell ⟨g,k*5+3,none⟩ (S (R y.b.y))).setCell ⟨g,k*5+4,none⟩ (.int .i64 y.l)).ownsRow B 145 5 (.slice (some ⟨g,0,none⟩) n c) n (AO (l.set k y)):=by
 have h5:=((((((((h.stored (k*5) (S (R y.a.x))).1.stored (k*5+1) (S (R y.a.y))).1.stored (k*5+2) (S (R y.b.x))).1).stored (k*5+3) (S (R y.b.y))).1).stored (k*5+4) (.int .i64 y.l))).1
 rwa [nT]at h5
theorem gA{K:Nat→Prop}{w W:World}(h:Al K w W){g:Nat}(hg:K g)(k:Nat)(y:Hf) :
  Al K w (((((W.setCell ⟨g,k*5,none⟩ (S (R y.a.x))).setCell ⟨g,k*5+1,none⟩ (S (R y.a.y))).setCell ⟨g,k*5+2,none⟩ (S (R y.b.x))).setCell ⟨g,k*5+3,none⟩ (S (R y.b.y))).setCell ⟨g,k*5+4,none⟩ (.int .i64 y.l)):=
 ((((h.setCell (p:=⟨g,k*5,none⟩) (.inl hg) _).setCell (p:=⟨g,k*5+1,none⟩) (.inl hg) _).setCell (p:=⟨g,k*5+2,none⟩) (.inl hg) _).setCell (p:=⟨g,k*5+3,none⟩) (.inl hg) _).setCell (p:=⟨g,k*5+4,none⟩) (.inl hg) _
theorem Dn.set{n:Nat}{l:List Hf}(h:Dn n l)(k:Nat){y:Hf}(hy:y∈l):Dn n (l.set k y):=by
 intro z hz
 rcases List.mem_or_eq_of_mem_set hz with e|e
 ·exact h z e
 ·rw [e];exact h y hy
section
variable {ops : Array Oper} {rest : List Oper} {o : Oper} {a : Act} {Q : Exit → Act → World → Prop}
theorem qh(hgd:o.guard=none)(s x:Operand)(ho:o.op=.call {callee:=.builtin .append,args:=#[s,x],argTypes:=#[41,41]})
  (wN:World) (base:Nat) (v:Value) (n:Nat) (l:List Pt) (hs:a.eval s=v) (hown:wN.ownsRow base 28 2 v n (flat (Aq l))) (hn:n<200000) (d:Pt)
  (g:Nat) (hb:wN.heap[g]?=some (.cells #[S (R d.x),S (R d.y)] 28)) (hx:a.eval x=.slice (some ⟨g,0,none⟩) 1 1) (hbase:base<=wN.heap.size)
  (h:∀v' w',w'.ownsRow base 28 2 v' (n+1) (flat (Aq (l ++ [d])))→wN.grownBy w' v.ownBlock→wpList Tryz.prog ops Q rest (a.put o.dst v') w') :
  wpList Tryz.prog ops Q (o::rest) a wN:=
 wpList_plain hgd fun _ hK=>AhJ s x ho wN base v n l hs hown hn d g hb hx hbase fun v' w' h1 _ h3=>hK _ _ (h v' w' h1 h3)
end
structure KD(W3 wr:World)(bM:Nat)(P:Value)(pts:List Pt):Prop where
 cM:wr.heap[bM]?=some (.cells #[P,.slice none 0 0,.slice none 0 0] 44)
 own:wr.ownsRow W3.heap.size 28 2 P pts.length (flat (Aq pts))
 but:Al (fun q=>q=bM) W3 wr
 sheet:∀p∈pts,Cg p
theorem KD.ext{W3 wr w':World}{bM:Nat}{P:Value}{pts:List Pt}(h:KD W3 wr bM P pts)(hx:Aa wr w'):KD W3 w' bM P pts:=
 ⟨(hx.block _ (AjL h.cM)).trans h.cM,Am h.own hx,h.but.ext hx,h.sheet⟩
theorem KD.app{W3 wr W7:World}{bM:Nat}{P P':Value}{pts:List Pt}(h:KD W3 wr bM P pts)(CJ:bM<W3.heap.size){p:Pt}(hp:Cg p){E4:World}(hE:Aa wr E4)(hg:E4.grownBy W7 P.ownBlock)(ho:W7.ownsRow W3.heap.size 28 2 P' (pts.length+1) (flat (Aq (pts ++ [p])))) :
  W7.heap[bM]?=some (.cells #[P,.slice none 0 0,.slice none 0 0] 44)/\KD W3 (W7.setCell ⟨bM,0,none⟩ P') bM P' (pts ++ [p]):=by
 have hne:=Ap h.own h.cM (by decide);have h7:=(hg.block bM (AjW (AjL h.cM) hE.size) (fun e=>hne e.symm)).trans ((hE.block bM (AjL h.cM)).trans h.cM);have hq:=Ap ho h7 (by decide);refine⟨h7,?_,?_,?_,?_⟩
 ·simp only [World.setCell,Array.getElem?_modify,h7];simp
 ·rw [List.length_append,List.length_singleton];exact Bf (K:=fun q=>q=bM) ho ((Al.refl (fun q=>q=bM) W7).setCell (p:=⟨bM,0,none⟩) (.inl rfl) P') (fun k hk e=>by subst e;exact hq hk)
 ·exact((h.but.ext hE).own hg (Am h.own hE) (AjN _)).setCell (p:=⟨bM,0,none⟩) (.inl rfl) P'
 ·intro x hx
  rcases List.mem_append.1 hx with k|k
  ·exact h.sheet x k
  ·simp only [AjZ]at k;rw [k];exact hp
theorem zb(l:List Au)(d:Au):AA (l ++ [d])=AA l ++ [.int .i64 d.f,.int .i64 d.t,.int .i64 d.l,.int .i64 d.r]:=by simp [AA]
section
variable {ops : Array Oper} {rest : List Oper} {o : Oper} {a : Act} {K : Act → World → Prop} {Q : Exit → Act → World → Prop} {E : Prop}
theorem eo(s x:Operand)(ho:o.op=.call {callee:=.builtin .append,args:=#[s,x],argTypes:=#[42,42]})
  (wN:World) (base:Nat) (v:Value) (n:Nat) (l:List Au) (hs:a.eval s=v) (hown:wN.ownsRow base 119 4 v n (AA l)) (hn:n<200000) (d:Au)
  (g:Nat) (hb:wN.heap[g]?=some (.cells #[.int .i64 d.f,.int .i64 d.t,.int .i64 d.l,.int .i64 d.r] 119)) (hx:a.eval x=.slice (some ⟨g,0,none⟩) 1 1) (hbase:base<=wN.heap.size)
  (h:∀v' w',w'.ownsRow base 119 4 v' (n+1) (AA (l ++ [d]))→wN.grownBy w' v.ownBlock→K (a.put o.dst v') w') :
  Oper.wp Tryz.prog o a wN K Q:=by
 obtain⟨i0,hi,hz0,hz1,hz2⟩:=info_parts Tryz.infoEd;refine Ng s x 42 ho 119 i0 _ 4 32 1 Tryz.underlying42 hi hz0 hz1 hz2 rfl (by omega) (by omega) (by omega) wN base v n _ hs hown hn g _ hb rfl ?_ hx hbase ?_
 ·intro u hu;simp only [List.mem_cons,AjY,or_false]at hu
  rcases hu with rfl|rfl|rfl|rfl<;>rfl
 ·intro v' w' h1 _ h3;refine h v' w' ?_ h3;rw [zb];exact h1
end
structure Ef(W5 wr:World)(n bx AH bM bU:Nat)(U:Option Addr)(cu:Nat)(units:List Bs)(P E F:Value)(nums:List Int)(faces:List Bs)(eds:List Au):Prop where
 nam:Hn wr W5.heap.size n bx AH bM bU U cu units P E F nums faces
 own:wr.ownsRow W5.heap.size 119 4 E eds.length (AA eds)
 but:Al (fun q=>q=AH∨q=bM) W5 wr
theorem Ef.extn{W5 wr w':World}{n bx AH bM bU:Nat}{U:Option Addr}{cu:Nat}{units:List Bs}{P E F:Value}{nums:List Int}{faces:List Bs}{eds:List Au}(h:Ef W5 wr n bx AH bM bU U cu units P E F nums faces eds)(hx:Aa wr w'):Ef W5 w' n bx AH bM bU U cu units P E F nums faces eds:=
 ⟨h.nam.extn hx,Am h.own hx,h.but.ext hx⟩
theorem Ef.name{W5 wr w':World}{n bx AH bM bU:Nat}{U:Option Addr}{cu:Nat}{units:List Bs}{P E F F':Value}{nums Be:List Int}{faces AG:List Bs}{eds:List Au}(h:Ef W5 wr n bx AH bM bU U cu units P E F nums faces eds)
  (hn:Hn w' W5.heap.size n bx AH bM bU U cu units P E F' Be AG) (hb:Al (fun k=>k=AH∨k=bM∨F.ownBlock=some k) wr w'):Ef W5 w' n bx AH bM bU U cu units P E F' Be AG eds:=by
 obtain⟨cn,Bo⟩:=Ip h.nam.num;refine⟨hn,Bf h.own hb ?_,?_⟩
 ·rintro k hk (e|e|e)
  ·subst e;exact Ap h.own Bo (by decide) hk
  ·subst e;exact Ap h.own h.nam.cM (by decide) hk
  ·rcases h.nam.fac.2 with⟨h',_⟩|⟨g,cap,cur,h',_,hgb,_⟩
   ·rw [h']at e;cases e
   ·rw [h']at e;simp only [Value.ownBlock,AjR]at e;subst e;exact Ap h.own hgb (by decide) hk
 ·refine⟨hb.os.trans h.but.os,hb.tape.trans h.but.tape,hb.output.trans h.but.output,AjX h.but.size hb.size,fun k hk Un=>?_⟩;refine(hb.block k (AjW hk h.but.size) ?_).trans (h.but.block k hk Un);rintro(e|e|e)
  ·exact Un (.inl e)
  ·exact Un (.inr e)
  ·have:=(h.nam.fac.lt k e).1;omega
theorem Ef.app{W5 wr W7:World}{n bx AH bM bU:Nat}{U:Option Addr}{cu:Nat}{units:List Bs}{P E E' F:Value}{nums:List Int}{faces:List Bs}{eds:List Au}(h:Ef W5 wr n bx AH bM bU U cu units P E F nums faces eds)
  {d:Au} {X4:World} (hE:Aa wr X4) (hg:X4.grownBy W7 E.ownBlock) (ho:W7.ownsRow W5.heap.size 119 4 E' (eds.length+1) (AA (eds ++ [d]))) :
  W7.heap[bM]?=some (.cells #[P,E,F] 44)/\Ef W5 (W7.setCell ⟨bM,1,none⟩ E') n bx AH bM bU U cu units P E' F nums faces (eds ++ [d]):=by
 have h4:=h.extn hE;obtain⟨cn,Bo⟩:=Ip h4.nam.num;have e1:=Ap h4.own h4.nam.cM (by decide);have e2:=Ap h4.own Bo (by decide);have e3:=Ap h4.own h4.nam.cN (by decide);have e4:=Ap h4.own h4.nam.cU (by decide);have g7:∀{j:Nat} {o:Obj},X4.heap[j]?=some o→E.ownBlock≠some j→W7.heap[j]?=some o:=fun {j o} hj hn=>(hg.block j (AjL hj) (fun e=>hn e.symm)).trans hj;have h7:=g7 h4.nam.cM e1;have n1:=C0 Bo h4.nam.cM (by decide);have n2:=C0 h4.nam.cN h4.nam.cM (by decide);have n3:=C0 h4.nam.cU h4.nam.cM (by decide);have bb:=(Al.refl (fun k=>k=bM) W7).setCell (p:=⟨bM,1,none⟩) (.inl rfl) E'
 have kp:∀{e:TypeId} {s m:Nat} {v:Value} {xs:List Value} {B:Nat},X4.ownsRow B e s v m xs→e≠119→e≠44→(W7.setCell ⟨bM,1,none⟩ E').ownsRow B e s v m xs:=by
  intro e s m v xs B hv hne GR
  have QJ:W7.ownsRow B e s v m xs:=hv.kept hg (by
   cases hE:E.ownBlock with
   | none=>cases hv':v.ownBlock with
    | none=>exact .inl rfl
    | some k=>exact .inr (by simp)
   | some k=>
    refine .inr (fun e0=>?_)
    rcases h4.own.2 with⟨h',_⟩|⟨g,cap,cur,h',_,hgb,_⟩
    ·rw [h']at hE;cases hE
    ·rw [h']at hE;simp only [Value.ownBlock,AjR]at hE;subst hE
     exact Ap hv hgb hne e0)
  exact Bf QJ bb (fun k hk e0=>by subst e0;exact Ap QJ h7 GR hk)
 refine⟨h7,⟨?_,kp h4.nam.num (by decide) (by decide),?_,kp h4.nam.fac (by decide) (by decide),?_,kp h4.nam.uni (by decide) (by decide),h.nam.uB,h.nam.lenN,h.nam.lenU,h.nam.cu1,h.nam.cu2,h.nam.rng,h.nam.cnt,h.nam.txt⟩,?_,?_⟩
 ·rw [B7 (by show bx≠bM;exact n2)];exact g7 h4.nam.cN e3
 ·simp only [World.setCell,Array.getElem?_modify,h7];simp
 ·rw [B7 (by show bU≠bM;exact n3)];exact g7 h4.nam.cU e4
 ·rw [List.length_append,List.length_singleton];exact Bf ho bb (fun k hk e0=>by subst e0;exact Ap ho h7 (by decide) hk)
 ·exact(h4.but.own hg h4.own (AjN _)).setCell (p:=⟨bM,1,none⟩) (.inl (.inr rfl)) E'
structure MapAt(w:World)(n:Nat)(units:List Bs)(A B F:Option Addr)(c d g:Nat)(m:MapZ)(faces:List Bs):Prop where
 cap:Cf m c d g
 pts:Ad w A (flat (Aq m.pts))
 eds:Ad w B (AA m.eds)
 fac:Ad w F (faces.map S)
 nf:m.nf=faces.length
 le:faces.length<=n
 sheet:∀p∈m.pts,Cg p
 txt:∀s∈faces,s∈units
structure LY(n:Nat)(A B F:Option Addr):Prop where
 a:∀x,A=some x→n<=x.block
 b:∀x,B=some x→n<=x.block
 f:∀x,F=some x→n<=x.block
theorem LY.mono{n k:Nat}{A B F:Option Addr}(h:LY n A B F)(hk:k<=n):LY k A B F:=
 ⟨fun x e=>AjX hk (h.a x e),fun x e=>AjX hk (h.b x e),fun x e=>AjX hk (h.f x e)⟩
theorem O3{w:World}{B:Nat}{e:TypeId}{s n k c:Nat}{A:Option Addr}{xs:List Value}(h:w.ownsRow B e s (.slice A k c) n xs):∀x,A=some x→B<=x.block:=by
 rintro x rfl;exact(h.lt x.block rfl).1
end Go.Proofs.YtnfedbopbcegjaaGreatDoor
