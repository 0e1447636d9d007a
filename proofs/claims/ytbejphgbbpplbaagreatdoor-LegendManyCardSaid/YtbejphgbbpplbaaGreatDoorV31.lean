/- V31: BC BD BE C4 D1 D3 D6. -/
import Derived.Test.YtbejphgbbpplbaaGreatDoorV26
import Derived.Test.YtbejphgbbpplbaaGreatDoorV30
set_option maxRecDepth 100000
set_option maxHeartbeats 16000000
namespace Go.Proofs.YtbejphgbbpplbaaGreatDoor
open Go.RowKit Kl Go.Sort
def Fc(l:List Pt):List Value:=flat (Ao l)
theorem jk(l:List Pt)(d:Pt):Fc (l ++ [d])=Fc l ++ [S (R d.x),S (R d.y)]:=gY l d
theorem YA(W:World)(a b:Value)(t:TypeId):∀(j:Nat) (u:Value),[a,b][j]?=some u→(W.alloc (.cells #[a,b] t)).cell? ((⟨W.heap.size,0,none⟩:Addr).add j)=some u:=by
 intro j u hu;rw [Addr.add_lit,Nat.zero_add];refine Ab (AmW W (.cells #[a,b] t)) ?_;rw [←Array.getElem?_toList];exact hu
def Yn:Code:=Code.region 2 #[{dst:=some 5,op:=Op.alloc 94,type:=0,pos:= "iter.go:51",after:=#[],guard:=none},{dst:=none,op:=Op.store 94 (Operand.tmp 5) (Operand.tmp 7),type:=0,pos:= "iter.go:51",after:=#[{on:=0,ground:=Ground.data},{on:=0,ground:=Ground.phase}],guard:=none}] false
def Yp:Code:=Code.block 1 (Code.region 3 #[{dst:=some 8,op:=Op.load 33 (Operand.tmp 2),type:=33,pos:= "iter.go:52",after:=#[],guard:=none},{dst:=some 9,op:=Op.load 94 (Operand.tmp 5),type:=94,pos:= "iter.go:52",after:=#[],guard:=none},{dst:=some 10,op:=Op.buildSlice 33 1 #[(0,Operand.tmp 9)],type:=33,pos:= "iter.go:52",after:=#[{on:=1,ground:=Ground.data}],guard:=none},{dst:=some 11,op:=Op.call {callee:=Callee.builtin Builtin.append,args:=#[Operand.tmp 8,Operand.tmp 10],argTypes:=#[33,33]},type:=33,pos:= "iter.go:52",after:=#[{on:=0,ground:=Ground.data},{on:=2,ground:=Ground.data}],guard:=none},{dst:=none,op:=Op.store 33 (Operand.tmp 2) (Operand.tmp 11),type:=0,pos:= "iter.go:52",after:=#[{on:=3,ground:=Ground.data},{on:=3,ground:=Ground.chain},{on:=0,ground:=Ground.phase},{on:=1,ground:=Ground.phase},{on:=2,ground:=Ground.phase},{on:=3,ground:=Ground.phase}],guard:=none}] false)
def I0(fn:FuncId)(sv:Value)(Bs D:Nat)(st:LoopState)(pend:Option Code):Loop:=
 {state:=st,pending:=pend,fn,tmps:=#[.slice none 0 0,sv,.pointer (some ⟨Bs,0,none⟩),undef,.slice none 0 0,undef,sv,undef,undef,undef,undef,undef,undef],params:=#[7],assign:=Yn,body:=Yp,defers:=D}
structure Qr(w0:World)(fn:FuncId)(sv:Value)(Bs l D:Nat)(ss:List Pt)(W:World):Prop where
 box:∃v,W.heap[Bs]?=some (.cells #[v] 33 (0,0))/\W.ownsRow w0.heap.size 94 2 v ss.length (Fc ss)
 L:W.heap[l]?=some (.loop (I0 fn sv Bs D .ready none))
 K:W.heap[D]?=some (.deferred (some []))
 below:Below w0.heap.size w0 W
theorem mI(w0:World)(fn:FuncId)(sv:Value)(Bs l D B:Nat)(hB:w0.heap.size<=B):AbidesFrom B (Qr w0 fn sv Bs l D):=fun s W W' row h hg hrow=>by
 have hrow':∀r,row=some r→∃o:Obj,W.heap[r]?=some o/\o.isWalk=true:=fun r e=>(hrow r e).2;obtain⟨v,hv,hr⟩:=h.box
 exact⟨⟨v,(grownBy_keeps hg hrow' hv rfl).trans hv,ownsRow_abides hr hg hrow'⟩,(grownBy_keeps hg hrow' h.L rfl).trans h.L,(grownBy_keeps hg hrow' h.K rfl).trans h.K,
  h.below.grown hg h.below.size (fun k e=>Ani hB (hrow k e).1)⟩
theorem zh (F : Fence) (m : Nat) (w0 : World) (fn : FuncId) (hfn : F.fn fn) (sv : Value) (Bs l D : Nat) (hBl : Bs ≠ l) (hDl : D ≠ l) (hDB : D ≠ Bs) (h0B : w0.heap.size ≤ Bs) (h0l : w0.heap.size ≤ l)
    (N : Nat) (hN : N ≤ 200000) (ss : List Pt) (x : Pt) (W : World) (h : Qr w0 fn sv Bs l D ss W) (hlen : ss.length < N) :
    YieldAt F m Tryz.prog l #[Ak x] W fun e W' => e = .returned (.bool true) ∧ Qr w0 fn sv Bs l D (ss ++ [x]) W' ∧ KeepsWalks W W' := by
  have hne : 33 ≠ 94 := by decide
  obtain ⟨i0, hi, hz0, hz1, hz2⟩ := info_parts Tryz.infoPt
  obtain ⟨v, hv, hrow⟩ := h.box
  refine ⟨fn, #[.slice none 0 0, sv, .pointer (some ⟨Bs, 0, none⟩), undef, .slice none 0 0, undef, sv, Ak x, undef, undef, undef, undef, undef], Yn, Yp, by simpa [I0] using run_yield (P := Tryz.prog) (args := #[Ak x]) h.L rfl, roundIn_of_wpIn hfn ?_⟩
  have hka : KeepsWalks W (W.alloc (.cells #[S (R x.x), S (R x.y)] 94)) := KeepsWalks.alloc _ _
  have ha := mI w0 fn sv Bs l D W.heap.size h.below.size ss W _ none h (Gj ((Aa.refl W).alloc (.cells #[S (R x.x), S (R x.y)] 94)) none) (fun r e => by cases e)
  have Gw := AmW W (.cells #[S (R x.x), S (R x.y)] 94)
  have Sp : l < W.heap.size := (Array.getElem?_eq_some_iff.1 h.L).1
  unfold Yn
  unfold Ak
  gi_wp2_with (rw [Oper.semAt_eq _ _ _ (fun c h => by cases h)]; go_simp; try go_bits)
  obtain ⟨bv, CJ⟩ := AmT W.heap.size
  rw [← CJ] at Gw Sp ⊢
  unfold S at ha Gw hka
  clear CJ h hv hrow
  generalize ZO : W.alloc (.cells #[.string ⟨(R x.x).toArray⟩, .string ⟨(R x.y).toArray⟩] 94) = Wa at *
  clear ZO
  obtain ⟨v, hv, hrow⟩ := ha.box
  have hl : l < Wa.heap.size := (Array.getElem?_eq_some_iff.1 ha.L).1
  have hbr := run_beginRound (P := Tryz.prog) ha.L rfl
  obtain ⟨W2, hW2⟩ : ∃ W2, Wa.putObj l (.loop { I0 fn sv Bs D .ready none with state := .busy }) = W2 := ⟨_, rfl⟩
  rw [hW2] at hbr
  have hg2 : Wa.grownBy W2 (some l) := by rw [← hW2]; exact grownBy_putObj _ _ _
  have hk2 : KeepsWalks Wa W2 := by rw [← hW2]; exact KeepsWalks.putObj _ ha.L rfl
  have hv2 : W2.heap[Bs]? = some (.cells #[v] 33 (0, 0)) := by rw [← hW2]; exact (World.putObj_heap_other hBl).trans hv
  have Dc : W2.heap[bv]? = some (.cells #[S (R x.x), S (R x.y)] 94) := by rw [← hW2]; exact (World.putObj_heap_other (by omega)).trans Gw
  have hK2 : W2.heap[D]? = some (.deferred (some [])) := by rw [← hW2]; exact (World.putObj_heap_other hDl).trans ha.K
  have hL2 : W2.heap[l]? = some (.loop { I0 fn sv Bs D .ready none with state := .busy }) := by rw [← hW2]; exact World.putObj_heap_same hl
  have hrow2 : W2.ownsRow w0.heap.size 94 2 v ss.length (Fc ss) := hrow.kept hg2 (ownsRow_ne hrow ha.L (fun cur e => by first | cases e | exact hne (Obj.cells.inj e).2.1))
  have hb2 : Below w0.heap.size w0 W2 := ha.below.grown hg2 ha.below.size (fun k e => by cases e; exact h0l)
  obtain ⟨hc2, hf2⟩ := cell_of_box hv2
  have hBlt : Bs < W2.heap.size := (Array.getElem?_eq_some_iff.1 hv2).1
  have hl2 : l < W2.heap.size := (Array.getElem?_eq_some_iff.1 hL2).1
  have hDlt : D < W2.heap.size := (Array.getElem?_eq_some_iff.1 hK2).1
  have ne_of : ∀ {j : Nat} {o : Obj}, W2.heap[j]? = some o → (∀ cur, o ≠ .cells cur 94 (0, 0)) → some j ≠ v.ownBlock := fun hj hno => by
    rcases ownsRow_ne hrow2 hj hno with e | e
    · rw [e]; simp
    · exact fun e' => e e'.symm
  have q0 := Ab (o := 0) Dc rfl
  have q1 := Ab (o := 1) Dc rfl
  have bS : W2.heap.size ≠ l := by omega
  clear hW2 ha hv hrow Gw Dc
  refine ⟨W2, hbr, ?_⟩
  unfold Yp
  gi_wp2_with (first
    | (gi_at_builtin; refine wpListIn_append_own _ rfl _ _ 33 rfl w0.heap.size 94 i0 (.agg #[S [], S []]) 2 32 Tryz.underlying33 hi hz0 hz1 hz2 rfl (by decide) _ _ _ rfl (hrow2.alloc _) ⟨W2.heap.size, 0, none⟩ 1 1 [S (R x.x), S (R x.y)] rfl rfl (YA _ _ _ _) (by simp [Value.oneCell']) (by unfold maxLen; omega) (by omega) (by have := hb2.size; simp; omega) ?_; intro v' w3 hown' hg3 hnil3
       have hv3 : w3.heap[Bs]? = some (.cells #[v] 33 (0, 0)) := (hg3.block Bs (by simp; omega) (ne_of hv2 (fun cur e => by first | cases e | exact hne (Obj.cells.inj e).2.1))).trans ((Below.heap_alloc _ _ Bs hBlt).trans hv2)
       obtain ⟨hc3, hf3⟩ := cell_of_box hv3
       obtain ⟨g', cap', cur', rfl, hbase', hgb', hr1, hr2, hr3, hr4⟩ : ∃ g' cap' cur', v' = .slice (some ⟨g', 0, none⟩) (ss.length + 1) cap' ∧ w0.heap.size ≤ g' ∧ w3.heap[g']? = some (.cells cur' 94 (0, 0)) ∧ ss.length + 1 ≤ cap' ∧ cap' ≤ maxLen ∧ cur'.size = cap' * 2 ∧ cur'.toList.take ((ss.length + 1) * 2) = Fc ss ++ [S (R x.x), S (R x.y)] := by
         rcases hown'.2 with ⟨_, h0⟩ | h'
         · exact absurd h0 (by omega)
         · exact h'
       go_frame)
    | (rw [Oper.semAt_eq _ _ _ (fun c h => by cases h)]; go_simp; try go_bits))
  have hg3' : (W2.alloc (.cells #[S (R x.x), S (R x.y)] 94)).grownBy w3 v.ownBlock := hg3
  have hL3 : w3.heap[l]? = some (.loop { I0 fn sv Bs D .ready none with state := .busy }) := (hg3'.block l (by simp; omega) (ne_of hL2 (fun cur e => by first | cases e | exact hne (Obj.cells.inj e).2.1))).trans ((Below.heap_alloc _ _ l hl2).trans hL2)
  have hK3 : w3.heap[D]? = some (.deferred (some [])) := (hg3'.block D (by simp; omega) (ne_of hK2 (fun cur e => by first | cases e | exact hne (Obj.cells.inj e).2.1))).trans ((Below.heap_alloc _ _ D hDlt).trans hK2)
  obtain ⟨w4, hw4⟩ : ∃ w4, w3.setCell ⟨Bs, 0, none⟩ (.slice (some ⟨g', 0, none⟩) (ss.length + 1) cap') = w4 := ⟨_, rfl⟩
  rw [hw4]
  have hg4 : w3.grownBy w4 (some Bs) := by rw [← hw4]; exact grownBy_setCell0 _ _ _
  have hv4 : w4.heap[Bs]? = some (.cells #[.slice (some ⟨g', 0, none⟩) (ss.length + 1) cap'] 33 (0, 0)) := by rw [← hw4]; exact heap_setCell_box _ hv3
  have hL4 : w4.heap[l]? = some (.loop { I0 fn sv Bs D .ready none with state := .busy }) := (hg4.block l (Array.getElem?_eq_some_iff.1 hL3).1 (fun e => hBl (by cases e; rfl))).trans hL3
  have hK4 : w4.heap[D]? = some (.deferred (some [])) := (hg4.block D (Array.getElem?_eq_some_iff.1 hK3).1 (fun e => hDB (by cases e; rfl))).trans hK3
  have hrow4 := hown'.kept hg4 (ownsRow_ne hown' hv3 (fun cur e => by first | cases e | exact hne (Obj.cells.inj e).2.1))
  have hl4 : l < w4.heap.size := (Array.getElem?_eq_some_iff.1 hL4).1
  have hb3 : Below w0.heap.size w0 w3 := (hb2.alloc hb2.size _).grown hg3' (by have := hb2.size; simp; omega) (fun k e => (hrow2.lt k e).1)
  have hb4 : Below w0.heap.size w0 w4 := hb3.grown hg4 hb3.size (fun k e => by cases e; exact h0B)
  have hk4 : KeepsWalks W w4 := (hka.trans ((hk2.trans (KeepsWalks.alloc _ _)).trans (KeepsWalks.of_grownBy hg3' (ownsRow_not_walk (hrow2.alloc _))))).trans (by rw [← hw4]; exact KeepsWalks.setCell _ _ _)
  clear hw4
  refine ⟨_, _, run_endRound none hL4, rfl, ⟨⟨_, (World.putObj_heap_other hBl).trans hv4, ?_⟩, World.putObj_heap_same hl4, (World.putObj_heap_other hDl).trans hK4, hb4.grown (grownBy_putObj _ _ _) hb4.size (fun k e => by cases e; exact h0l)⟩, hk4.trans (KeepsWalks.putObj _ hL4 rfl)⟩
  have := hrow4.kept (grownBy_putObj w4 l (.loop { { I0 fn sv Bs D .ready none with state := .busy } with state := if (none : Option Code).isNone then .ready else .done, pending := none })) (ownsRow_ne hrow4 hL4 (fun cur e => by first | cases e | exact hne (Obj.cells.inj e).2.1))
  rw [jk]
  simpa using this
theorem zt(F:Fence)(n:Nat)(h11:F.fn 323)(hro:F.round=none)(hn:2<=n)(g:Nat)(lb:Array Value)(hFg:F.fn g)(eg:∀args w,(callFunc g args).run Tryz.prog w=.ok (.enter g args) w)
  (S:List Pt→Prop) (N:Nat) (hN:N<=200000) (w:World) (hseq:SeqGives F (n-1) Tryz.prog g lb Ak S N w) :
  CallsIn F n Tryz.prog 323 #[.slice none 0 0,.func (.func g) #[] lb] w fun e w'=>∃(v:Value) (ss:List Pt),e=.returned v/\S ss/\w'.ownsRow w.heap.size 94 2 v ss.length (Fc ss)/\Below w.heap.size w w':=by
 have h1:1<=n:=(by omega);have hne:33≠94:=(by decide);refine callsIn_of_wp_marks Tryz.func323 rfl h11 ?_ hro;simp only [Tryz.ntmps323,List.size_toArray,List.length_cons,List.length_nil,Nat.reduceAdd,Nat.reduceSub,Array.replicate_succ,Array.replicate_zero,List.push_toArray,List.append_toArray,List.nil_append,List.cons_append];gi_wp2;refine wpIn_rangeFunc ?_;intro fn hfn;rw [hro];obtain⟨W0,hW0⟩:∃W0,w.alloc (.cells #[.slice none 0 0] 33)=W0:=⟨_,rfl⟩;have hs0:W0.heap.size=w.heap.size+1:=(by rw [←hW0];simp);have hv0:W0.heap[w.heap.size]?=some (.cells #[.slice none 0 0] 33 (0,0)):=(by rw [←hW0];exact World.alloc_heap_new w _);have hb0:Below w.heap.size w W0:=(by rw [←hW0];exact(Below.refl _ w).alloc (AmX _) _);rw [hW0];obtain⟨W1,hW1⟩:∃W1,(W0.alloc (.deferred (some []))).alloc (.loop (I0 fn (.func (.func g) #[] lb) w.heap.size W0.heap.size .ready none))=W1:=⟨_,rfl⟩
 have hold:∀k,k<W0.heap.size→W1.heap[k]?=W0.heap[k]?:=fun k hk=>by rw [←hW1];exact(Below.heap_alloc _ _ k (by simp;omega)).trans (Below.heap_alloc _ _ k hk)
 have hb1:Below w.heap.size w W1:=(by rw [←hW1];exact(hb0.alloc hb0.size _).alloc (by have:=hb0.size;simp;omega) _);have hs1:W1.heap.size=W0.heap.size+2:=by rw [←hW1];simp
 have hM:Qr w fn (.func (.func g) #[] lb) w.heap.size (W0.heap.size+1) W0.heap.size [] W1:=
  ⟨⟨_,(hold w.heap.size (by omega)).trans hv0,⟨rfl,.inl ⟨rfl,rfl⟩⟩⟩,
   by rw [←hW1];have:=World.alloc_heap_new (W0.alloc (.deferred (some []))) (.loop (I0 fn (.func (.func g) #[] lb) w.heap.size W0.heap.size .ready none));rwa [Anf]at this,
   by rw [←hW1];exact(Below.heap_alloc _ _ _ (by simp)).trans (World.alloc_heap_new W0 _),hb1⟩
 refine⟨W0.heap.size+1,[{target:=.collected W0.heap.size,args:=#[]}],W1,{target:=.fn (.func g) lb,args:=#[.func (.yield (W0.heap.size+1)) #[] #[]]},W1,g,
  #[.func (.yield (W0.heap.size+1)) #[] #[]]++lb,W1,?_,?_,?_,?_,fun _=>h1,?_⟩
 ·rw [←hW1];exact run_enterLoop_outer _ _ _ _ _
 ·simp [resolve,go_sem]
 ·intro f' hf';simp [Target.leads]at hf';subst hf';exact hFg
 ·simp [invoke,go_sem,eg]
 ·refine(hseq (W0.heap.size+1) (Qr w fn (.func (.func g) #[] lb) w.heap.size (W0.heap.size+1) W0.heap.size) W1 hb1 (mI _ _ _ _ _ _ _ hb1.size)
   (fun pre x W hJ hl=>zh F (n-1-1) w fn hfn _ w.heap.size (W0.heap.size+1) W0.heap.size (by omega) (by omega) (by omega) (AmX _) (by omega) N hN pre x W hJ hl) hM).mono ?_
  rintro e W2 ⟨⟨v0,rfl⟩,ss,hS,h2⟩;obtain⟨v,hv,hrow⟩:=h2.box;have hend:=run_endLoop (P:=Tryz.prog) h2.L (by simp [I0]);obtain⟨W3,hW3⟩:∃W3,W2.putObj (W0.heap.size+1) (.loop {I0 fn (.func (.func g) #[] lb) w.heap.size W0.heap.size .ready none with state:=.exhausted})=W3:=⟨_,rfl⟩;rw [hW3]at hend;have hg3:W2.grownBy W3 (some (W0.heap.size+1)):=(by rw [←hW3];exact grownBy_putObj _ _ _);have hv3:W3.heap[w.heap.size]?=some (.cells #[v] 33 (0,0)):=(by rw [←hW3];exact(World.putObj_heap_other (by omega)).trans hv);have hK3:W3.heap[W0.heap.size]?=some (.deferred (some [])):=(by rw [←hW3];exact(World.putObj_heap_other (by omega)).trans h2.K);have hrow3:=hrow.kept hg3 (ownsRow_ne hrow h2.L (fun cur e=>by first|cases e|exact hne (Obj.cells.inj e).2.1));have hb3:Below w.heap.size w W3:=h2.below.grown hg3 h2.below.size (fun k e=>by cases e;omega);obtain⟨hc3,hf3⟩:=cell_of_box hv3;clear hW3;refine⟨none,W3,hend,?_⟩;gi_wp2;rw [←hs0];refine⟨by simp,.inl ⟨_,_,rfl,run_takeDeferred hK3,?_⟩⟩;exact⟨_,results_tmp rfl _ _ _,v,ss,rfl,hS,hrow3.kept (grownBy_putObj _ _ _) (ownsRow_ne hrow3 hK3 (fun cur e=>by first|cases e|exact hne (Obj.cells.inj e).2.1)),hb3.grown (grownBy_putObj _ _ _) hb3.size (fun k e=>by cases e;omega)⟩
theorem Abl(F:Fence)(n:Nat)(h8:F.fn 262)(h11:F.fn 323)(hro:F.round=none)(hn:3<=n)(g:Nat)(lb:Array Value)(hFg:F.fn g)(eg:∀args w,(callFunc g args).run Tryz.prog w=.ok (.enter g args) w)
  (S:List Pt→Prop) (N:Nat) (hN:N<=200000) (w:World) (hseq:SeqGives F (n-1-1) Tryz.prog g lb Ak S N w) :
  CallsIn F n Tryz.prog 262 #[.func (.func g) #[] lb] w fun e w'=>∃(v:Value) (ss:List Pt),e=.returned v/\S ss/\w'.ownsRow w.heap.size 94 2 v ss.length (Fc ss)/\Below w.heap.size w w':=by
 have h1:1<=n:=(by omega);have e11:∀args w,(callFunc 323 args).run Tryz.prog w=.ok (.enter 323 args) w:=enters_of Tryz.func323 (by kernel_rfl) rfl;refine callsIn_of_wp Tryz.func262 rfl h8 ?_ hro;simp only [Tryz.ntmps262,List.size_toArray,List.length_cons,List.length_nil,Nat.reduceAdd,Nat.reduceSub,Array.replicate_succ,Array.replicate_zero,List.push_toArray,List.append_toArray,List.nil_append,List.cons_append];gi_wp2;refine(zt F (n-1) h11 hro (by omega) g lb hFg eg S N hN _ hseq).mono ?_;rintro e w' ⟨v,ss,rfl,hS,hrow,hb⟩;gi_wp2;go_ret;exact⟨v,ss,rfl,hS,hrow,hb⟩
section
open Go.Shelf
abbrev Plc:={p:Pt // Ar 200 p}
instance instInhPlc:Inhabited Plc:=⟨⟨⟨0,0⟩,mh.1⟩⟩
def Jb(s t:Plc):Int:=AW s.1 t.1
theorem jl(s t:Plc):ltOf Jb s t=true↔s.1.x<t.1.x∨(s.1.x=t.1.x/\s.1.y<t.1.y):=by
 unfold ltOf Jb;rw [decide_eq_true_iff];exact PN _ _
theorem gJ(s t:Plc):ltOf Jb s t=false↔¬(s.1.x<t.1.x∨(s.1.x=t.1.x/\s.1.y<t.1.y)):=by
 rw [←jl];simp
theorem jm:SWO (ltOf Jb) where
 irrefl x:=by rw [gJ];grind
 trans x y z h1 h2:=by rw [jl]at *;grind
 ntrans x y z h1 h2:=by rw [gJ]at *;grind
theorem AhW(x y:Plc)(h1:ltOf Jb x y=false)(h2:ltOf Jb y x=false):x=y:=by
 rw [gJ]at h1 h2;obtain⟨⟨a,b⟩,hx⟩:=x;obtain⟨⟨a',b'⟩,hy⟩:=y;simp only [Subtype.mk.injEq,Pt.mk.injEq]at *
 grind
def Hv(s:Plc):List Value:=[S (R s.1.x),S (R s.1.y)]
theorem U3(s:Plc):(Hv s).length=2:=rfl
theorem Aca(s:Plc):∀v∈Hv s,v.oneCell'=true:=by
 intro v hv;simp only [Hv,List.mem_cons,Anj,or_false]at hv
 rcases hv with rfl|rfl<;>rfl
theorem AhV{w0 w:World}(hw:An w0)(hx:Aa w0 w){blk:Nat}(hb:w0.heap.size<=blk)(off size:Nat):CmpLays Tryz.prog 110 #[] Hv 2 Jb blk off size w:=by
 refine eI fun W hg x y=>?_;have h:=Il x.1 y.1 x.2 y.2 (by omega) (by omega) W (hw.ext (Nt hx hg hb));exact h
def ED(l:List Pt):List Pt:=l.mergeSort (fun x y=>!decide (AW y x<0))
theorem JV(l:List Pt):(ED l).Perm l:=List.mergeSort_perm _ _
theorem m8{l:List Pt} : (ED l).Pairwise (fun x y=>¬AW y x<0):=by
 have tr:∀a b c:Pt,(!decide (AW b a<0))=true→(!decide (AW c b<0))=true→(!decide (AW c a<0))=true:=by
  intro a b c h1 h2;simp only [Bool.not_eq_true',decide_eq_false_iff_not,PN]at *
  grind
 have jI:∀a b:Pt,((!decide (AW b a<0))||(!decide (AW a b<0)))=true:=by
  intro a b;simp only [Bool.or_eq_true,Bool.not_eq_true',decide_eq_false_iff_not,PN]
  grind
 have h:=List.pairwise_mergeSort tr jI l;refine h.imp ?_;intro a b hab
 simpa using hab
theorem Aj6{l m:List Pt}(h:l.Perm m):ED l=ED m:=by
 refine List.Perm.eq_of_pairwise (le:=fun x y=>¬AW y x<0) ?_ m8 m8 (((JV l).trans h).trans (JV m).symm);intro a b _ _ h1 h2;rw [PN]at h1 h2;obtain⟨a1,a2⟩:=a;obtain⟨b1,b2⟩:=b;simp only [Pt.mk.injEq]at *
 grind
theorem qE(m:List Plc):m.flatMap Hv=Fc (m.map (·.1)):=by
 induction m with
 | nil=>rfl
 | cons x m ih=>rw [List.flatMap_cons,ih];rfl
theorem AhX{l:List Pt}(h:∀s∈l,Ar 200 s):∃d:Array Plc,d.toList.map (·.1)=l:=
 ⟨(l.attachWith (Ar 200) h).toArray,by simp⟩
def Lv(l:List Plc):List Plc:=l.mergeSort (fun x y=>!ltOf Jb y x)
theorem my(blk off cap:Nat)(d:Array Plc)(w0 w:World)(hw:An w0)(hx:Aa w0 w)(h0:w0.heap.size<=blk)(hH:HoldsK Hv 2 w blk off d)(hblk:blk<w.heap.size)(hsz:d.size<4611686018427387904) :
  Calls Tryz.prog 178 #[.slice (some ⟨blk,off,none⟩) d.size cap,.func (.func 110) #[] #[]] w fun e w'=>
   e=.returned (.tuple #[])/\∃(n:Nat) (os:Array Obj),w'=sortWorldK Hv 2 w blk off n (Lv d.toList).toArray os:=by
 have eg:∀args w,(callFunc 110 args).run Tryz.prog w=.ok (.enter 110 args) w:=enters_of Tryz.func110 (by kernel_rfl) rfl;refine(AnyQ.slices_SortFunc Tryz.laysSortPt 2 Tryz.isAgg94 Tryz.sizeOf94 Hv U3 Aca Jb jm 110 #[] blk off cap d w eg (AhV hw hx h0 off d.size) hH hblk hsz).mono ?_;rintro e w' ⟨he,d',n,os,h1,h2,hw'⟩;have h:=sorted_unique_holds (lt:=ltOf Jb) jm AhW d d' h1 h2;refine⟨he,n,os,?_⟩;rw [Lv,←h];exact hw'
theorem AfA(fv:Value)(w:World):Calls Tryz.prog 307 #[.slice none 0 0,.int .i64 0,.int .i64 0,fv] w fun e w'=>e=.returned (.tuple #[])/\w'=w:=by
 go_enter Tryz.func307,Tryz.ntmps307;go_wp2;refine wp_loop_rounds 1 ?_;rw [rounds_succ];go_wp2
 go_end0
 exact⟨rfl,rfl⟩
theorem AhR(lim:Int)(fv:Value)(w:World):Calls Tryz.prog 259 #[.slice none 0 0,.int .i64 0,.int .i64 0,.int .i64 lim,fv] w fun e w'=>e=.returned (.tuple #[])/\w'=w:=by
 have hi:=AfA fv;go_enter Tryz.func259,Tryz.ntmps259;go_wp2;refine wp_loop_rounds 1 ?_;rw [rounds_succ];(go_wp2_with fail);(with_reducible refine(hi _).mono ?_);rintro e w1 ⟨rfl,rfl⟩;go_wp2
 (try simp only [Exit.inBlock,Exit.then]);refine bodyPost_ret (results_none rfl _ _ _) rfl ?_
 exact⟨rfl,rfl⟩
theorem Ajy(fv:Value)(w:World):Calls Tryz.prog 178 #[.slice none 0 0,fv] w fun e w'=>e=.returned (.tuple #[])/\w'=w:=by
 have h1:=len_nil;have h2:=AhR 0 fv;go_enter Tryz.func178,Tryz.ntmps178;(go_wp2_with fail);(with_reducible refine(h1 _).mono ?_);rintro e w1 ⟨rfl,rfl⟩;(go_wp2_with fail);(with_reducible refine(h2 _).mono ?_);rintro e w1 ⟨rfl,rfl⟩;go_wp2
 go_end0
 exact⟨rfl,rfl⟩
theorem mz{w0 w:World}(hw:An w0)(hx:Aa w0 w){B:Nat}(hB:w0.heap.size<=B)(l:List Pt)(hl:∀s∈l,Ar 200 s)(hlen:l.length<1000000){v:Value}(hv:w.ownsRow B 94 2 v l.length (Fc l)) :
  Calls Tryz.prog 178 #[v,.func (.func 110) #[] #[]] w fun e w'=>
   e=.returned (.tuple #[])/\w.grownBy w' v.ownBlock/\w'.ownsRow B 94 2 v l.length (Fc (ED l)):=by
 by_cases hn:l = []
 ·subst hn
  have hv':v=.slice none 0 0∨∃g cap,v=.slice (some ⟨g,0,none⟩) 0 cap:=by
   rcases hv.2 with⟨h,_⟩|⟨g,cap,cur,h,_⟩
   ·exact .inl h
   ·exact .inr ⟨g,cap,h⟩
  have e:ED [] = []:=(by unfold ED;simp);rw [e]
  rcases hv' with rfl|⟨g,cap,rfl⟩
  ·exact(Ajy _ w).mono fun _ _ ⟨he,hw⟩=>⟨he,by subst hw;exact rO _ _,by subst hw;exact hv⟩
  ·have hgb:g<w.heap.size/\w0.heap.size<=g:=by have:=hv.lt g rfl;omega
   refine(my g 0 cap #[] w0 w hw hx hgb.2 (fun j hj=>by simp at hj) hgb.1 (by simp)).mono ?_;rintro e w' ⟨he,n,os,rfl⟩;refine⟨he,OR Hv 2 w g 0 n _ os,?_⟩;have h2:w.ownsRow B 94 2 (.slice (some ⟨g,0,none⟩) (#[]:Array Plc).size cap) (#[]:Array Plc).size ((#[]:Array Plc).toList.flatMap Hv):=hv;have:=Ti U3 (by omega) h2 (d':=(Lv []).toArray) (by simp [Lv]) n os
   simpa [Lv,Fc,flat,Ao]using this
 ·obtain⟨d,hd⟩:=AhX hl;have DG:d.size=l.length:=by rw [←hd];simp
  have hv':w.ownsRow B 94 2 v d.size (d.toList.flatMap Hv):=by rw [qE,hd,DG];exact hv
  have BY:0<d.size:=(by rw [DG];exact List.length_pos_iff.2 hn);obtain⟨g,cap,rfl,hgb,Sc,hH,hown⟩:=cI U3 (by omega) hv' BY;refine(my g 0 cap d w0 w hw hx (by omega) hH Sc (by omega)).mono ?_;rintro e w' ⟨he,n,os,rfl⟩;refine⟨he,OR Hv 2 w g 0 n _ os,?_⟩;have ho:=Ti U3 (by omega) hv' (d':=(Lv d.toList).toArray) (by simp [Lv]) n os
  have hm:(Lv d.toList).map (·.1)=ED l:=by unfold Lv ED;rw [List.map_mergeSort (r:=fun x y:Plc=>!ltOf Jb y x) (f:=fun x:Plc=>x.1) (s:=fun x y=>!decide (AW y x<0)) (fun a _ b _=>rfl),hd]
  rw [qE,List.toList_toArray,hm,DG]at ho;rw [DG];exact ho
theorem nc{w0 w:World}(hw:An w0)(hx:Aa w0 w)(Bm b:Nat)(E:List (Pt×Value×Nat))(hst:∀i (h:i<E.length),E[i].2.2=i)(hBm:Bm<w.heap.size)(hm:w.cell? ⟨Bm,0,none⟩=some (.map (some b)))(hb:w.heap[b]?=some (.map (Aw Ak E).toArray E.length))
  (hL:∀e∈E,Ar 200 e.1) (hlen:E.length<=200000) :
  Calls Tryz.prog 185 #[.func (.func 263) #[] #[.pointer (some ⟨Bm,0,none⟩)],.func (.func 110) #[] #[]] w fun e w'=>
   ∃v,e=.returned v/\w'.ownsRow w.heap.size 94 2 v E.length (Fc (ED (E.map (·.1))))/\Aa w w':=by
 have eg:∀args w,(callFunc 263 args).run Tryz.prog w=.ok (.enter 263 args) w:=enters_of Tryz.func263 (by kernel_rfl) rfl;have c1:=callsIn_wide.1 (Abl Fence.wide 5 trivial trivial rfl (by omega) 263 #[.pointer (some ⟨Bm,0,none⟩)] trivial eg _ E.length hlen w (AfK Fence.wide 3 trivial rfl (by omega) Bm b E hst w hBm hm hb));go_enter Tryz.func185,Tryz.ntmps185;(go_wp2_with fail);(with_reducible refine c1.mono ?_);rintro e w1 ⟨v,ss,rfl,hS,hrow,hbl⟩;have ER:Aa w w1:=hbl;have Ec:ss.length=E.length:=by rw [hS.length_eq];simp
 have c2:=mz hw (hx.trans ER) hx.size ss (fun s hs=>by
  have:=hS.mem_iff.1 hs;rw [List.mem_map]at this;obtain⟨e,he,rfl⟩:=this
  exact hL e he) (by omega) hrow
 have CO:=Aj6 hS;rw [CO,Ec]at c2;rw [Ec]at hrow;(go_wp2_with fail);(with_reducible refine c2.mono ?_);rintro e w2 ⟨rfl,hg,ho⟩;go_wp2;go_ret;exact⟨v,rfl,ho,ER.grownOwn hg hrow (AmX _)⟩
end
end Go.Proofs.YtbejphgbbpplbaaGreatDoor
namespace Go.Proofs.YtbejphgbbpplbaaGreatDoor
open Go.RowKit Kl
theorem Ab7{w0 w:World}(hw:An w0)(hx:Aa w0 w){B:Nat}{r b1 b2:Nat}{L:List (Sg×Int)}{E:List (Pt×Value×Nat)}{R0:List (Pt×List Pt)}(h:Bo B w r b1 b2 L E R0)(hN:EH (L.map (·.1)) R0)(hW:OD (L.map (·.1)))(hlen:L.length<=100000)(hrl:∀e∈R0,e.2.length<100000) :
  Calls Tryz.prog 155 #[.pointer (some ⟨r,0,none⟩)] w fun e w'=>∃A cap,e=.returned (.slice A (Hu (L.map (·.1)) R0).length cap)/\L8 w' A cap (Hu (L.map (·.1)) R0)/\Aa w w':=by
 have hmm:=@run_makeMap Tryz.prog;have n1:=Ab (o:=0) h.cell rfl;obtain⟨Ws,Mg⟩:=AmT (L.map (·.1));have tL:Ws.length=L.length:=(by rw [Mg];simp);obtain⟨C,hC⟩:=AmT (Hu Ws R0);rw [←Mg]at hN hW ⊢;rw [←hC];have HC:=AmU hC;have HN:=AmU hN;have HW:=AmU hW;have Kd:=AmU hrl;have Pi:=AmW w (.map #[] 0);have ER:=(Aa.refl w).alloc (.map #[] 0);have Z4:=h.ext ER;have hs1:(w.alloc (.map #[] 0)).heap.size=w.heap.size+1:=(by simp);have kw:=fun mb W=>eG mb W;have hb0:=h.left;have wV:=AmV h.cell;have hsw:∀e∈L,Ei 200 e.1:=fun e he=>hW.sz e.1 (by rw [Mg];exact List.mem_map_of_mem he);have wz:=AmU hsw;have TR:=AmU tL;have LI:=AmU Mg;clear hC hN hW hrl hsw tL Mg;go_enter Tryz.func155,Tryz.ntmps155
 go_upto_region 3 with fail
 generalize w.alloc (.map #[] 0)=W1 at *;obtain⟨bu,uU⟩:=AmT w.heap.size;rw [←uU]at Pi ⊢;have P6:w.heap.size<=bu:=(by omega);have EZ:bu<W1.heap.size:=(by omega);clear uU hs1;have m1:=Ab (o:=0) Z4.cell rfl;(go_wp2_with fail);(with_reducible refine(kw _ _).mono ?_);rintro e w2 ⟨rfl,hw2⟩;have ES:Aa W1 w2:=(by rw [hw2];exact(Aa.refl W1).alloc _);have BO:=AmW W1 (.cells #[.map (some b1)] 131);rw [←hw2]at BO;have IA:=Z4.ext ES;have hx2:=(hx.trans ER).trans ES;have hBm:W1.heap.size<w2.heap.size:=AmV BO;have sk:=jA hw hx2 W1.heap.size b1 L hBm (Ab BO rfl) IA.left wz.out (by omega);clear hw2 m1 n1 kw;(go_wp2_with fail);(with_reducible refine sk.mono ?_);rintro e w3 ⟨sv,rfl,CO,ET⟩;rw [←LI.out]at CO;have I9:Aa w w3:=(ER.trans ES).trans ET;have Gn:=IA.ext ET;have dI:w3.heap[bu]?=some (.map #[] 0):=((ES.trans ET).block bu EZ).trans Pi;have hU0:D6 w3 bu []:=dI;have Ec:(B7 Ws).length=L.length:=(by rw [(Jh Ws).length_eq];exact TR.out);obtain⟨sA,sc,rfl,-,-,-⟩:=Ae.of_own' (by omega) CO;have hx3:Aa w0 w3:=hx.trans I9;have AlE:bu<w3.heap.size:=AmV dI;have Iw:=AmU Ec;have kY:=AmU CO;have Hg:=AmU h;clear sk BO hBm IA hx2 ES ER ET Pi EZ Z4 hb0 Ec CO h hx Gn;have hl0:(0:Int)<=(L.length:Int):=by omega
 go_upto_region 4 with fail
 go_loopw [3,16] (fun out i wr=>∃(k:Nat) (st:List Sg×List (List Sg)),i=.int .i64 (k:Nat)/\k<=L.length/\st=((B7 Ws).take k).foldl (FG Ws.length R0) ([],[])/\GE w3.heap.size wr out st.2/\D6 wr bu st.1/\Au (fun j=>j=bu) w3 wr) (fun _ i _=>L.length-(intOf i).toNat)
 case atStart=>exact⟨0,([],[]),rfl,by omega,by simp,GE.nil _ _,hU0,Au.refl _ _⟩
 case round=>
  obtain⟨k,st,rfl,hk,hst,hO,hU,hB⟩:=hrel;have HST:=AmU hst;clear hst;have CO:=CC kY.out hB (fun j hj e=>iz kY.out dI (fun _ e=>by cases e) j hj e);have BJ:Aa w wr:=hB.toExt I9 (fun j e=>by subst e;exact P6);by_cases hlt:k<L.length
  ·obtain⟨sA',sc',yN,yP,-,-⟩:=Ae.of_own' (by omega) CO;simp only [Value.slice.injEq,true_and]at yN;obtain⟨rfl,rfl⟩:=yN;obtain⟨b,o,rfl,g1,g2,g3,g4⟩:=MO yP (show k<(B7 Ws).length by rw [Iw.out];exact hlt);obtain⟨s0,hs0⟩:∃s,s=(B7 Ws)[k]'(by rw [Iw.out];exact hlt):=⟨_,rfl⟩;rw [←hs0]at g1 g2 g3 g4
   have hstep:((B7 Ws).take (k+1)).foldl (FG Ws.length R0) ([],[])=FG Ws.length R0 st s0:=by rw [Ana (show k<(B7 Ws).length by rw [Iw.out];exact hlt),List.foldl_append,←HST.out,←hs0];rfl
   have cZ:s0∈Ws:=(Jh Ws).mem_iff.1 (by rw [hs0];exact AmY _);obtain⟨Dl,-⟩:=pG HN.out k (by rw [Iw.out];omega);rw [←HST.out]at Dl;have hlU:=JJ Dl.nd Dl.sub;obtain⟨dd,e1,e2,e3,-,-⟩:=iJ HN.out (Ws.length-st.1.length+1) st.1 s0 [] Dl.nd Dl.sub cZ (by omega);have IJ:dd.length<=Ws.length:=JJ (List.nodup_append.1 e2).2.1 e3;have su:=AmU IJ;have XH:=AmU e1;have TQ:=AmU hstep;have LE:=AmU Dl;have wm:=AmU cZ;have Ay:=AmW wr (.cells #[S (R s0.a.x),S (R s0.a.y),S (R s0.b.x),S (R s0.b.y)] 155);have E4:=(Aa.refl wr).alloc (.cells #[S (R s0.a.x),S (R s0.a.y),S (R s0.b.x),S (R s0.b.y)] 155);have VO:wr.heap.size<(wr.alloc (.cells #[S (R s0.a.x),S (R s0.a.y),S (R s0.b.x),S (R s0.b.y)] 155)).heap.size:=(by simp);have k0:(0:Int)<=(k:Int):=(by omega);have k1:(k:Int)<(L.length:Int):=(by omega);clear hs0 hstep Dl e1 e2 e3 IJ cZ CO yP hlU
   go_upto_region 6 with fail
   unfold S at Ay E4 VO;generalize ZN:wr.alloc (.cells #[.string ⟨(R s0.a.x).toArray⟩,.string ⟨(R s0.a.y).toArray⟩,.string ⟨(R s0.b.x).toArray⟩,.string ⟨(R s0.b.y).toArray⟩] 155)=W4 at *;obtain⟨bs,RR⟩:=AmT wr.heap.size;rw [←RR]at Ay VO ⊢;have AeX:bu<wr.heap.size:=AmV hU;have hne:bu≠bs:=(by omega);have Mg:wr.heap.size<=bs:=(by omega);have Am1:=hB.size;clear ZN RR g1 g2 g3 g4;have Hw:Hj W4 W4 bu bs (.slice none 0 0) st.1 s0 []:=⟨(E4.block bu AeX).trans hU,Ay,⟨rfl,.inl ⟨rfl,rfl⟩⟩,Au.refl _ _⟩;have uj:=AmU Hw;clear Hw Ay
   go_upto_region 7 with fail
   go_loopw [7] (fun cv wi=>∃(U:List Sg) (s:Sg) (c:List Sg),Hj W4 wi bu bs cv U s c/\s∈Ws/\U.Nodup/\(∀t∈U,t∈Ws)/\G5 R0 (Ws.length-U.length+1) U s c=(st.1++dd,dd)) (fun _ wi=>L.length-eO wi bu)
   case atStart=>exact⟨st.1,s0,[],uj.out,wm.out,LE.out.nd,LE.out.sub,by rw [XH.out];simp⟩
   case round=>
    obtain⟨U,s,c,hI,M4,US,UT,hrun⟩:=hrel;have rV:=nH E4 hI.but Mg;have BL:=hB.trans rV;have UY:Aa w wr:=BL.toExt I9 (fun j e=>by subst e;exact P6);have sT:=Hg.out.ext UY;have z0:=Ab (o:=0) hI.box rfl;have z1:=Ab (o:=1) hI.box rfl;have z2:=Ab (o:=2) hI.box rfl;have z3:=Ab (o:=3) hI.box rfl;have VD:=hI.used.look s;obtain⟨cA,cc,rfl,-,-,-⟩:=Ae.of_own' (by omega) hI.row;have tK:=JJ US UT;by_cases hu:U.any (AK s)=true
    ·rw [hu]at VD
     have AX:U=st.1++dd/\c=dd:=by unfold G5 at hrun;rw [if_pos hu]at hrun;simp only [Prod.mk.injEq]at hrun;exact hrun
     obtain⟨rfl,rfl⟩:=AX
     have sV:=hO.keep rV (fun j _ e cs ee h=>by
      subst e;have h1:=hU;unfold D6 at h1;rw [h1]at h
      cases h)
     have ZF:=hI.used;unfold As at VD;have HI:=AmU hI;clear hrun hI hO tK US UT sT;by_cases hc0:c.length=0
     ·have DZ:c = []:=List.eq_nil_of_length_eq_zero hc0
      have hcs:FG Ws.length R0 st s0=(st.1++c,st.2):=by unfold FG;rw [XH.out,DZ];rfl
      have Gf:=AmU hcs;have hcz:(c.length:Int)=0:=(by omega);rw [hc0];clear hc0 DZ hcs hcz;go_wp2;go_roundw
      case rel=>exact⟨k+1,(st.1++c,st.2),by go_num,hlt,by rw [TQ.out,Gf.out],sV,ZF,BL⟩
      case measure=>simp [intOf];omega
     ·have hcs:FG Ws.length R0 st s0=(st.1++c,st.2 ++ [c]):=by unfold FG;rw [XH.out];simp only [List.nil_append];rw [if_pos (by omega)]
      have Gf:=AmU hcs;have KA:(0:Int)<(c.length:Int):=(by omega);have hcd:decide ((c.length:Int)>0)=true:=decide_eq_true KA;obtain⟨vs,SB,VU⟩:=sV
      have AeN:st.2.length<200000:=by have h1:=LE.out.flat;have h2:=JJ LE.out.nd LE.out.sub;have h3:st.2.length<=st.2.flatten.length:=Wk LE.out.ne;rw [h1]at h3;have:=TR.out;omega
      have hrow:=i7 HI.out.row (B':=w3.heap.size) (by have:=hB.size;have:=E4.size;omega);have hbase:w3.heap.size<=wr.heap.size:=BL.size;have xj:=AmU VU;clear hc0 hcs VU
      go_wp2_with (at_builtin;go_loud (refine appRow rfl _ _ rfl _ w3.heap.size u3 st.2.length vs rfl (AH SB ((Aa.refl wr).alloc _)) AeN (.slice cA c.length cc) rfl wr.heap.size (AmW wr _) rfl (by simp;omega) ?_);intro v9 w9 hown9 hg9)
      have Mi:=(Aa.refl wr).alloc (.cells #[.slice cA c.length cc] 160);have hO9:=AhC (AH SB Mi) (fun j hj=>by obtain⟨v,q1,q2⟩:=xj.out j hj;exact⟨v,q1,AH q2 Mi⟩) (AH hrow Mi) hg9 hown9;have ZG:D6 (wr.alloc (.cells #[.slice cA c.length cc] 160)) bu (st.1++c):=(Mi.block bu (AmV ZF)).trans ZF;have hU9:=ZG.far hg9 (WL (AH SB Mi) ZG);have LX:=(BL.ext Mi).own hg9 (AH SB Mi) (AmX _);clear Mi ZG hown9 hg9 SB hrow;go_wp2;go_roundw
      case rel=>exact⟨k+1,(st.1++c,st.2 ++ [c]),by go_num,hlt,by rw [TQ.out,Gf.out],hO9,hU9,LX⟩
      case measure=>simp [intOf];omega
    ·have hno:U.any (AK s)=false:=(by simpa using hu);rw [hno]at VD
     have hcl:c.length<200000:=by have h1:=ko R0 (Ws.length-U.length+1) U s c;rw [hrun]at h1;have:=su.out;have:=TR.out;simp only at h1;omega
     have yL:s∉U:=mH.1 hno
     have ZI:(U ++ [s]).Nodup:=by rw [List.nodup_append];refine⟨US,by simp,?_⟩;intro a ha b hb;simp only [Ank]at hb;subst hb;rintro rfl;exact yL ha
     have ZK:∀t∈U ++ [s],t∈Ws:=by
      intro t ht
      rcases List.mem_append.1 ht with ht|ht
      ·exact UT t ht
      ·simp only [Ank]at ht;exact ht▸M4
     have ZH:=JJ ZI ZK;rw [List.length_append,List.length_singleton]at ZH
     have hrun':G5 R0 (Ws.length-(U ++ [s]).length+1) (U ++ [s]) (MG R0 s) (c ++ [s])=(st.1++dd,dd):=by unfold G5 at hrun;rw [if_neg (by rw [hno];simp)]at hrun;rw [List.length_append,List.length_singleton,show Ws.length-(U.length+1)+1=Ws.length-U.length by omega];exact hrun
     obtain⟨Wp,hput,Ma⟩:=hI.put hne hno;obtain⟨e,hf,j,m,hj,hi,hm,Sv,FV,VG⟩:=HN.out.step M4;rw [←FV]at VG;have cn:=fun (W7:World) (J7:Aa w W7)=>AgY (Hg.out.ext J7) s hf hj hi hm Sv (Kd.out e (List.mem_of_find?_eq_some hf));rw [←FV]at cn;obtain⟨t,ht⟩:=AmT (MG R0 s);rw [←ht]at VG hrun' cn;have y0:=Ab (o:=0) Ma.box rfl;have y1:=Ab (o:=1) Ma.box rfl;have y2:=Ab (o:=2) Ma.box rfl;have y3:=Ab (o:=3) Ma.box rfl;have Dn:=hI.used.size;have uz:=AmU (And.intro Dn (And.intro ZH TR.out));have HR:=AmU (And.intro hrun' (And.intro ZI (And.intro ZK VG)));have Bu:W4.heap.size<=Wp.heap.size:=Ma.but.size;have GT:=Ma.row;have uk:=AmU Ma;unfold As at VD hput cn;clear hrun hrun' US ZI UT ZK VG Dn tK ZH hI Ma ht FV Sv hm hi hj hf hno yL hu sT
     go_wp2_with (at_builtin;go_loud (refine zq rfl _ _ rfl _ W4.heap.size (.slice cA c.length cc) c.length c rfl (AH GT ((Aa.refl Wp).alloc _)) hcl s Wp.heap.size (AmW Wp _) rfl (by simp;omega) ?_);intro v7 w7 KR Pp;have DY:=Hj.app uk.out VO Pp KR;have x0:=Ab (o:=0) DY.box rfl;have x1:=Ab (o:=1) DY.box rfl;have x2:=Ab (o:=2) DY.box rfl;have x3:=Ab (o:=3) DY.box rfl)
     have J7:Aa w w7:=(hB.trans (nH E4 DY.but Mg)).toExt I9 (fun j e=>by subst e;exact P6);(with_reducible refine(cn w7 J7).mono ?_);rintro e w8 ⟨rfl,Bq⟩;have FK:=(Bq.block bs (AmV DY.box)).trans DY.box;have y0:=AU (o:=0) FK;have y1:=AU (o:=1) FK;have y2:=AU (o:=2) FK;have y3:=AU (o:=3) FK;have q0:=Ab (o:=0) FK rfl;have q1:=Ab (o:=1) FK rfl;have q2:=Ab (o:=2) FK rfl;have q3:=Ab (o:=3) FK rfl;have OU:=DY.nxt Bq hne VO t;have kN:=AmU OU;clear OU FK x0 x1 x2 x3 J7 Bq DY KR Pp GT cn;go_wp2;go_roundw
     case rel=>exact⟨U ++ [s],t,c ++ [s],kN.out,HR.out.2.2.2,HR.out.2.1,HR.out.2.2.1,HR.out.1⟩
     case measure=>have h1:=kN.out.used.size;have h2:=uz.out;rw [List.length_append,List.length_singleton]at h1;rw [h1,h2.1];omega
  ·have hk2:k=L.length:=by omega
   have AX:st.2=C:=by rw [HC.out];unfold Hu;rw [HST.out,hk2,←Iw.out,List.take_length]
   have hle:(L.length:Int)<=(k:Int):=(by omega);rw [AX]at hO;obtain⟨A,cap,rfl,hcs⟩:=hO.cycs;have Gf:=AmU hcs;clear hcs hO hU CO hB hk2;go_wp2;go_ret;exact⟨A,cap,rfl,Gf.out,BJ⟩
def CS(C:List (List Sg)):List (Sg×Int):=C.zipIdx.flatMap (fun ci=>ci.1.map (fun s=>(s,(ci.2:Int))))
theorem jc(C:List (List Sg))(c:List Sg):CS (C ++ [c])=CS C++c.map (fun s=>(s,(C.length:Int))):=by
 unfold CS;rw [List.zipIdx_append,List.flatMap_append];simp
theorem jb(C:List (List Sg)):(CS C).map (·.1)=C.flatten:=by
 have main:∀n,n<=C.length→(CS (C.take n)).map (·.1)=(C.take n).flatten:=by
  intro n
  induction n with
  | zero=>intro _;simp [CS]
  | succ n ih=>
   intro hn;rw [Ana (by omega),jc,List.map_append,ih (by omega),List.flatten_append,List.map_map]
   congr 1
   simp [Function.comp_def]
 have:=main C.length (AmX _)
 rwa [List.take_length]at this
theorem AhI{C:List (List Sg)}{e:Sg×Int}(h:e∈CS C):∃i,∃hi:i<C.length,e.2=(i:Int)/\e.1∈C[i]:=by
 unfold CS at h;rw [List.mem_flatMap]at h;obtain⟨ci,h1,h2⟩:=h;rw [List.mem_map]at h2;obtain⟨s,hs,rfl⟩:=h2;obtain⟨c,i⟩:=ci;rw [List.mem_zipIdx_iff_getElem?]at h1;simp only at h1 hs;rw [Anl]at h1;obtain⟨hi,rfl⟩:=h1;exact⟨i,hi,rfl,hs⟩
def ON(C:List (List Sg))(s:Sg):Int:=match (CS C).find? (fun e=>AK s e.1)with|some e=>e.2|none=>0
theorem Ab5{C:List (List Sg)}{s:Sg}(h:s∈C.flatten):∃i,∃hi:i<C.length,ON C s=(i:Int)/\s∈C[i]:=by
 unfold ON;rw [←jb,List.mem_map]at h;obtain⟨e,he,rfl⟩:=h
 cases hf:(CS C).find? (fun x=>AK e.1 x.1)with
 | none=>
  rw [List.find?_eq_none]at hf;exact absurd (Iq.2 rfl) (hf e he)
 | some x=>obtain⟨i,hi,h1,h2⟩:=AhI (List.mem_of_find?_eq_some hf);have h3:=List.find?_some hf;rw [Iq]at h3;exact⟨i,hi,h1,h3▸h2⟩
def findNext(f:Nat→Int)(C:List (List Sg)):Option (Sg×Rat)→Int
 | none=>-1
 | some x=>f (ON C x.1).toNat
def Ch(W:List Sg)(C:List (List Sg)):Nat→Nat→Int
 | 0,_=>-1
 | n+1,i=>
  if 0<LL (C.getD i [])then (i:Int)
  else findNext (fun j=>Ch W C n j) C (Df (aOf (C.getD i [])) W)
where aOf:List Sg→Pt
 | []=>⟨0,0⟩
 | s::_=>s.a
def leftOf(W:List Sg)(X:Rat):Nat:=W.countP (fun s=>decide (s.a.x<X))
theorem oY{α:Type}{p q:α→Bool} : ∀{l:List α},(∀x∈l,p x=true→q x=true)→(∃x∈l,q x=true/\p x=false)→l.countP p<l.countP q
 | [],_,h=>by obtain⟨x,hx,_⟩:=h;cases hx
 | a::l,h1,h2=>by
  have hle:l.countP p<=l.countP q:=List.countP_mono_left (fun x hx=>h1 x (List.mem_cons_of_mem _ hx));obtain⟨x,hx,hq,hp⟩:=h2
  rcases List.mem_cons.1 hx with rfl|hx
  ·rw [List.countP_cons,List.countP_cons,hq,hp];simp;omega
  ·have:=oY (fun x hx=>h1 x (List.mem_cons_of_mem _ hx)) ⟨x,hx,hq,hp⟩;have ha:=h1 a List.mem_cons_self;rw [List.countP_cons,List.countP_cons]
   cases DK:p a
   ·cases q a<;>simp<;>omega
   ·rw [ha DK];simp;omega
theorem lV{c:List Sg}(h:0<c.length):Ch.aOf c=c[0].a:=by
 cases c with
 | nil=>simp at h
 | cons s c=>rfl
theorem Ac5{W U:List Sg}{C:List (List Sg)}(hC:T9 W U C)(hall:∀s∈W,s∈U)(hG:Kc W){i:Nat}(hi:i<C.length){x:Sg×Rat}(hb:Df (Ch.aOf C[i]) W=some x) :
  x.1∈W/\∃j,∃hj:j<C.length,ON C x.1=(j:Int)/\leftOf W (Ch.aOf C[j]).x<leftOf W (Ch.aOf C[i]).x:=by
 have h1:=Yx hG (Ch.aOf C[i]) W (fun _ h=>h);rw [hb]at h1;obtain⟨s,Eu⟩:=x;obtain⟨hs,hc,-,-⟩:=h1;obtain⟨j,hj,e,hm⟩:=Ab5 (C:=C) (s:=s) (by rw [hC.flat];exact hall s hs);refine⟨hs,j,hj,e,?_⟩;have hl0:0<C[j].length:=List.length_pos_iff.2 (hC.ne _ (AmY hj));have hle:=hC.least _ (AmY hj) s hm hl0;rw [PO]at hle;rw [lV hl0];refine oY (fun y _ hy=>?_) ⟨s,hs,?_,?_⟩
 ·simp only [decide_eq_true_eq]at hy ⊢;have:=hc.1
  grind
 ·simp only [decide_eq_true_eq];exact hc.1
 ·simp only [decide_eq_false_iff_not];grind
theorem rG(s:Sg):∀(L:List (Sg×Int)) (k:Nat),(L.mapIdx (fun i e=>(e.1,Value.int .i64 e.2,i+k))).find? (fun e=>AK s e.1)=none/\L.find? (fun e=>AK s e.1)=none∨∃x e,(L.mapIdx (fun i e=>(e.1,Value.int .i64 e.2,i+k))).find? (fun e=>AK s e.1)=some x/\L.find? (fun e=>AK s e.1)=some e/\x.2.1=.int .i64 e.2
 | [],_=>.inl ⟨by simp,by simp⟩
 | e::L,k=>by
  rw [List.mapIdx_cons,List.find?_cons,List.find?_cons]
  cases h:AK s e.1
  ·have:=rG s L (k+1)
   simpa only [Nat.add_assoc,Nat.add_comm 1 k]using this
  ·exact .inr ⟨_,e,rfl,rfl,rfl⟩
theorem named{a b:World}(_:Aa a b):∃x,x=b:=⟨b,rfl⟩
def AI(s:Sg)(L:List (Sg×Int)):Int:=match L.find? (fun e=>AK s e.1)with|some e=>e.2|none=>0
theorem dh(s:Sg)(L:List (Sg×Int)):Fb AK (.int .i64 0) s (stamp L)=.int .i64 (AI s L):=by
 have h:=rG s L 0;simp only [Nat.add_zero]at h;unfold Fb AI stamp
 rcases h with⟨h1,h2⟩|⟨x,e,h1,h2,h3⟩
 ·rw [h1,h2]
 ·rw [h1,h2];exact h3
theorem Qi(s:Sg)(L:List (Sg×Int)){b:Nat}{W:World}(hb:W.heap[b]?=some (.map (Aw As (stamp L)).toArray L.length)) :
  (Instr.lookup 131 (.map (some b)) (As s) false).run Tryz.prog W=.ok (.int .i64 (AI s L)) W:=by
 rw [Qj Wh s (stamp L) hb,dh]
structure QE(B:Nat)(w:World)(r b1 b2:Nat)(L:List (Sg×Int))(E:List (Pt×Value×Nat))(R0:List (Pt×List Pt))(bc bn bf ba bm:Nat)(A:Option Addr)(cap:Nat)(C:List (List Sg)):Prop where
 net:Bo B w r b1 b2 L E R0
 cyc:L8 w A cap C
 cc:w.cell? ⟨bc,0,none⟩=some (.slice A C.length cap)
 cn:w.cell? ⟨bn,0,none⟩=some (.pointer (some ⟨r,0,none⟩))
 cf:w.cell? ⟨bf,0,none⟩=some (.func (.func 233) #[] #[.pointer (some ⟨bc,0,none⟩),.pointer (some ⟨bn,0,none⟩),.pointer (some ⟨bf,0,none⟩),.pointer (some ⟨ba,0,none⟩)])
 ca:w.cell? ⟨ba,0,none⟩=some (.map (some bm))
 m:w.heap[bm]?=some (.map (Aw As (stamp (CS C))).toArray (CS C).length)
theorem QE.ext{B:Nat}{w w':World}{r b1 b2:Nat}{L:List (Sg×Int)}{E:List (Pt×Value×Nat)}{R0:List (Pt×List Pt)}{bc bn bf ba bm:Nat}{A:Option Addr}{cap:Nat}{C:List (List Sg)}(h:QE B w r b1 b2 L E R0 bc bn bf ba bm A cap C)(hx:Aa w w'):QE B w' r b1 b2 L E R0 bc bn bf ba bm A cap C:=
 ⟨h.net.ext hx,h.cyc.ext hx,hx.cellS h.cc,hx.cellS h.cn,hx.cellS h.cf,hx.cellS h.ca,(hx.block _ (AmV h.m)).trans h.m⟩
structure Qy(W:List Sg)(U:List Sg)(C:List (List Sg)):Prop where
 ok:T9 W U C
 all:∀s∈W,s∈U
 good:Kc W
 grid:∀s∈W,Ju s
 len:W.length<=100000
theorem ow{α:Type} : ∀{l:List (List α)} {i:Nat} (h:i<l.length),l[i].length<=l.flatten.length
 | a::l,0,_=>by simp
 | a::l,i+1,h=>by have:=ow (l:=l) (i:=i) (by simpa using h);simp only [List.getElem_cons_succ,List.flatten_cons,List.length_append];omega
theorem Qy.row{W U:List Sg}{C:List (List Sg)}(h:Qy W U C){i:Nat}(hi:i<C.length):(∀s∈C[i],Ju s)/\0<C[i].length/\C[i].length<=100000:=by
 refine⟨fun s hs=>h.grid s (h.ok.sub s ?_),List.length_pos_iff.2 (h.ok.ne _ (AmY hi)),?_⟩
 ·rw [←h.ok.flat];exact List.mem_flatten.2 ⟨_,AmY hi,hs⟩
 ·have h1:=ow hi;rw [h.ok.flat]at h1;have h2:=JJ h.ok.nd h.ok.sub;have:=h.len;omega
theorem Ac4{B:Nat}{r b1 b2:Nat}{L:List (Sg×Int)}{E:List (Pt×Value×Nat)}{R0:List (Pt×List Pt)}{bc bn bf ba bm:Nat}{A:Option Addr}{cap:Nat}{C:List (List Sg)}{W U:List Sg}(hW:W=L.map (·.1))(hG:Qy W U C) :
  ∀(n i:Nat) (hi:i<C.length),leftOf W (Ch.aOf C[i]).x<n→∀w,An w→QE B w r b1 b2 L E R0 bc bn bf ba bm A cap C→
  Calls Tryz.prog 233 #[.int .i64 (i:Nat),.pointer (some ⟨bc,0,none⟩),.pointer (some ⟨bn,0,none⟩),.pointer (some ⟨bf,0,none⟩),.pointer (some ⟨ba,0,none⟩)] w (AA (Ch W C n i) w):=by
 intro n
 induction n with
 | zero=>intro i hi hlt;omega
 | succ n ih=>
  intro i hi hlt w hw h;obtain⟨g1,g2,g3⟩:=hG.row hi;obtain⟨bA,oA,A',c',rfl,hcell,AO,hc1,hc2⟩:=h.cyc.row i hi;have mJ:=Aad C[i] A' c' g1 g2 g3 hc1 hc2;have ar:=fun (w1:World) (hw1:An w1) (hE:Aa w w1)=>mJ w1 hw1 (AO.ext hE);clear mJ;have sg:=Qg (LL C[i]);have hd:=fun x=>Ac5 hG.ok hG.all hG.good hi (x:=x);have wE:C.getD i []=C[i]:=by rw [List.getD_eq_getElem?_getD,Anc hi];rfl
  have Sb:Ch W C (n+1) i=if 0<LL C[i] then (i:Int)else findNext (Ch W C n) C (Df (Ch.aOf C[i]) W):=by rw [Ch,wE]
  have hc0:(0:Int)<(c':Int):=(by omega);have hl0:(0:Int)<(C[i].length:Int):=(by omega);have NG:(0:Int)<=(i:Int):=(by omega);have Pv:(i:Int)<(C.length:Int):=(by omega);have DK:=lV g2;have bY:=(g1 _ (AmY g2)).a;rw [←DK]at bY;have bl:=fun (w1:World) (hw1:An w1) (h1:Bo B w1 r b1 b2 L E R0)=>Aat h1 (Ch.aOf C[i]) (k:=200) (fun e he=>(hG.grid e.1 (by rw [hW];exact List.mem_map_of_mem he)).sz (by omega)) (bY.sz (by omega)) (by omega) (by omega) hw1
  have Bu:∀l:List Sg,l.Perm (L.map (·.1))→Df (Ch.aOf C[i]) l=Df (Ch.aOf C[i]) W:=fun l hl=>by rw [←hW]at hl;exact Aau hG.good _ hl (fun t ht=>hl.mem_iff.1 ht)
  have xZ:=MO AO g2;have hsp:=WW (LL C[i])
  have GQ:∀x,Df (Ch.aOf C[i]) W=some x→∃j,∃hj:j<C.length,AI x.1 (CS C)=(j:Int)/\(ON C x.1).toNat=j/\leftOf W (Ch.aOf C[j]).x<n:=by intro x hx;obtain⟨-,j,hj,e,hl⟩:=hd x hx;exact⟨j,hj,e,by rw [e];omega,by omega⟩
  obtain⟨st,hst⟩:=AmT (Df (Ch.aOf C[i]) W);rw [←hst]at Sb Bu GQ;obtain⟨p,hp⟩:=AmT (Ch.aOf C[i]);rw [←hp]at bl Bu;rw [←DK,←hp]at xZ;obtain⟨q,hq⟩:=AmT (LL C[i]);rw [←hq]at ar sg hsp Sb;obtain⟨m,hm⟩:=AmT (C[i].length);rw [←hm]at ar hl0 hcell;obtain⟨z,hz⟩:=AmT (Ch W C (n+1) i);rw [←hz]at Sb ⊢;obtain⟨bB,oB,hAB,k1,k2,-,-⟩:=xZ;subst hAB;obtain⟨sq,FY⟩:=AmT (AD q);rw [←FY]at sg hsp;have Q3:=AmU Sb;have TJ:=AmU GQ;have kB:=AmU Bu;have m1:=h.cc;have m2:=h.cn;clear Sb GQ Bu hp hq hm hz DK bY hd hst FY g1 g2 g3 wE AO hlt;rw [Nat.zero_mul,Nat.add_zero]at k1 k2;go_enter Tryz.func233,Tryz.ntmps233;(go_wp2_with fail);(with_reducible refine(ar w hw (Aa.refl w)).mono ?_);rintro e w1 ⟨rfl,hx1⟩;(go_wp2_with fail);(with_reducible refine(sg _).mono ?_);rintro e w2 ⟨rfl,hx2⟩;have Ca:=hx1.trans hx2;replace m1:=Ca.cellS m1;replace m2:=Ca.cellS m2;replace hcell:=Ca.cellS hcell;replace k1:=Ca.cellS k1;replace k2:=Ca.cellS k2;clear ar sg hx1 hx2;by_cases BY:0<q
  ·have AeO:0<sq:=hsp.2 BY;have hz:z=(i:Int):=(by rw [Q3.out,if_pos BY]);subst hz;go_wp2;go_ret;exact⟨rfl,Ca⟩
  ·have AeO:¬0<sq:=fun h=>BY (hsp.1 h);have HZ:=AmU (show z=findNext (Ch W C n) C st by rw [Q3.out,if_neg BY]);obtain⟨c0,c1,c2,c3,hc⟩:=Y5 st;obtain⟨Zb,aT⟩:=AmT st.isSome;have hw2:=hw.ext Ca;have h2:=h.ext Ca
   have bl':∀w',Aa w2 w'→Calls Tryz.prog 235 #[.pointer (some ⟨r,0,none⟩),.agg #[S (R p.x),S (R p.y)]] w' (CU (.tuple #[.agg #[S c0,S c1,S c2,S c3],.bool Zb]) w'):=fun w' hx=>(bl w' (hw2.ext hx) (h2.net.ext hx)).mono fun e w'' ⟨l,hl,he,hx'⟩=>⟨by rw [he,kB.out l hl];unfold Uq;rw [hc,aT],hx'⟩
   have kK:=AmU aT;clear Q3 hsp BY bl aT
   have SO:∀w',Aa w2 w'→(w'.cell? ⟨bc,0,none⟩=some (.slice (some ⟨bA,oA,none⟩) C.length cap)/\w'.cell? ⟨bn,0,none⟩=some (.pointer (some ⟨r,0,none⟩))/\w'.cell? ⟨bA,oA+i,none⟩=some (.slice (some ⟨bB,oB,none⟩) m c')/\w'.cell? ⟨bB,oB,none⟩=some (S (R p.x))/\w'.cell? ⟨bB,oB+1,none⟩=some (S (R p.y))):=fun w' h=>⟨h.cellS m1,h.cellS m2,h.cellS hcell,h.cellS k1,h.cellS k2⟩
   have X:Aa w2 w2:=Aa.refl w2;have e0:(0:Int)<(m:Int):=hl0;have e00:0<m:=by omega
   go_upto_region 3 with fail
   go_cut [7,8] (fun v7 v8 wx=>∃b,v7=.pointer (some ⟨b,0,none⟩)/\v8=.bool Zb/\wx.heap[b]?=some (.cells #[S c0,S c1,S c2,S c3] 155)/\Aa w2 wx)
   case first=>
    go_region_held3 (fun w'=>w'.cell? ⟨bc,0,none⟩=some (.slice (some ⟨bA,oA,none⟩) C.length cap)/\w'.cell? ⟨bn,0,none⟩=some (.pointer (some ⟨r,0,none⟩))/\w'.cell? ⟨bA,oA+i,none⟩=some (.slice (some ⟨bB,oB,none⟩) m c')/\w'.cell? ⟨bB,oB,none⟩=some (S (R p.x))/\w'.cell? ⟨bB,oB+1,none⟩=some (S (R p.y)))
     (first|with_reducible exact SO _ X|with_reducible exact SO _ X.drew|with_reducible exact SO _ (X.alloc _)|with_reducible exact SO _ (X.alloc _).drew|exact SO _ ((((X.setCell (AmX _) _).setCell (AmX _) _).setCell (AmX _) _).setCell (AmX _) _)|exact SO _ (((((X.alloc _).setCell X.size _).setCell X.size _).setCell X.size _).setCell X.size _))
     (first|((with_reducible refine(bl' _ (by first|exact X|exact X.alloc _|exact X.drew|exact(X.alloc _).drew)).mono ?_);rintro e w5 ⟨rfl,Ad⟩;(first|(have Z:=(Ad.block _ (AmV (AmW _ _))).trans (AmW _ _))|skip);replace X:Aa w2 w5:=(by first|exact X.trans Ad|exact(X.alloc _).trans Ad|exact X.drew.trans Ad|exact(X.alloc _).drew.trans Ad);(first|(have y1:=Ab (o:=0) Z rfl;have y2:=Ab (o:=1) Z rfl;have y3:=Ab (o:=2) Z rfl;have y4:=Ab (o:=3) Z rfl;have z1:=AU (o:=0) Z;have z2:=AU (o:=1) Z;have z3:=AU (o:=2) Z;have z4:=AU (o:=3) Z)|skip)))
    all_goals go_wp2
    all_goals go_meet
    all_goals first
     | exact⟨w5.heap.size,rfl,rfl,by unfold S;exact AmW w5 _,X.alloc _⟩
     | exact⟨w2.heap.size,rfl,rfl,by unfold S;exact OG _ _ _ _ Z,(((X.setCell (p:=⟨w2.heap.size,0,none⟩) (AmX _) _).setCell (p:=⟨w2.heap.size,1,none⟩) (AmX _) _).setCell (p:=⟨w2.heap.size,2,none⟩) (AmX _) _).setCell (p:=⟨w2.heap.size,3,none⟩) (AmX _) _⟩
   case rest=>
    obtain⟨b,rfl,rfl,Ay,M9⟩:=hcut;obtain⟨wx,rfl⟩:=named M9;have UX:=Ca.trans M9;have UP:=h.ext UX;have hwc:=hw.ext UX;clear SO X m1 m2 hcell k1 k2
    cases Zb
    ·have hz:z = -1:=by
      rw [HZ.out]
      cases st with
      | none=>rfl
      | some x=>have:=kK.out;cases this
     subst hz;go_wp2;go_ret;exact⟨rfl,UX⟩
    ·obtain⟨x,rfl⟩:∃x,st=some x:=by
      cases st with
      | none=>have:=kK.out;cases this
      | some x=>exact⟨x,rfl⟩
     obtain⟨j,hj,hl,hjn,hlt⟩:=TJ.out x rfl;have hz:z=Ch W C n j:=(by rw [HZ.out];show Ch W C n (ON C x.1).toNat=_;rw [hjn]);have hq:=fun (q:Af wx)=>Qi x.1 (CS C) (UP.ext q.h).m;rw [hl]at hq;have hcc:#[S c0,S c1,S c2,S c3]=(#[S (R x.1.a.x),S (R x.1.a.y),S (R x.1.b.x),S (R x.1.b.y)]:Array Value):=(by rw [←hc];rfl);rw [hcc]at Ay;have q1:∀q:Af wx,q.w.cell? ⟨bf,0,none⟩=some (.func (.func 233) #[] #[.pointer (some ⟨bc,0,none⟩),.pointer (some ⟨bn,0,none⟩),.pointer (some ⟨bf,0,none⟩),.pointer (some ⟨ba,0,none⟩)]):=Af.cell UP.cf;have q2:∀q:Af wx,q.w.cell? ⟨ba,0,none⟩=some (.map (some bm)):=Af.cell UP.ca;have q3:∀q:Af wx,q.w.cell? ⟨b,0,none⟩=some (S (R x.1.a.x)):=Af.cell (Ab Ay rfl);have q4:∀q:Af wx,q.w.cell? ⟨b,1,none⟩=some (S (R x.1.a.y)):=Af.cell (Ab Ay rfl);have q5:∀q:Af wx,q.w.cell? ⟨b,2,none⟩=some (S (R x.1.b.x)):=Af.cell (Ab Ay rfl);have q6:∀q:Af wx,q.w.cell? ⟨b,3,none⟩=some (S (R x.1.b.y)):=Af.cell (Ab Ay rfl);have cs:=fun (q:Af wx)=>ih j hj hlt q.w (hwc.ext q.h) (UP.ext q.h);rw [←hz]at cs;unfold As at hq;clear hc hz hl hjn hlt TJ kB HZ Ay hcc ih
     go_upto_region 6 with fail
     refine F3 (by kernel_rfl) (by kernel_rfl) ?_
     repeat (go_big_quiet_step (first|(with_reducible refine El (cs _))|(go_simp;with_reducible refine El (cs _))))
     refine wpQuiet_nil ?_;rintro _ ⟨q,rfl⟩;go_wp2;go_ret;exact⟨rfl,UX.trans q.h⟩
def JS(W:List Sg)(C:List (List Sg)):List Int:=(List.range C.length).map (Ch W C (W.length+1))
structure D2 where
 ok:Bool
 op:Bool
 face:List (Int×Int)
 seen:List Bool
def De(r left:Int)(st:D2):D2:=
 match C0 r st.face with
 | some old=>⟨st.ok && decide (old=left),st.op,st.face,st.seen⟩
 | none=>
  if left<0 then ⟨false,true,st.face ++ [(r,left)],st.seen⟩
  else ⟨st.ok && !(st.seen.getD left.toNat false),st.op,st.face ++ [(r,left)],st.seen.set left.toNat true⟩
def Hn(L:List (Sg×Int))(r:Int)(st:D2)(c:List Sg):D2:=c.foldl (fun st s=>De r (AI s L) st) st
def GF(L:List (Sg×Int))(l:List (List Sg×Int))(st:D2):D2:=l.foldl (fun st cr=>Hn L cr.2 st cr.1) st
def Ho(nf:Nat):D2:=⟨true,false,[(-1,-1)],List.replicate nf false⟩
def Ko(L:List (Sg×Int))(nf:Nat)(C:List (List Sg))(rg:List Int):D2:=GF L (C.zip rg) (Ho nf)
theorem yy(r left:Int)(st:D2):(De r left st).seen.length=st.seen.length:=by
 unfold De
 split
 ·rfl
 ·split
  ·rfl
  ·simp
theorem yw(L:List (Sg×Int))(r:Int)(st:D2)(c:List Sg)(s:Sg):Hn L r st (c ++ [s])=De r (AI s L) (Hn L r st c):=by simp [Hn]
theorem yx(L:List (Sg×Int))(l:List (List Sg×Int))(st:D2)(x:List Sg×Int):GF L (l ++ [x]) st=Hn L x.2 (GF L l st) x.1:=by simp [GF]
theorem mC(L:List (Sg×Int))(r:Int)(c:List Sg):∀st:D2,(Hn L r st c).seen.length=st.seen.length:=by
 induction c with
 | nil=>intro st;rfl
 | cons s c ih=>intro st;show (Hn L r (De r (AI s L) st) c).seen.length=_;rw [ih,yy]
theorem mD(L:List (Sg×Int))(l:List (List Sg×Int)):∀st:D2,(GF L l st).seen.length=st.seen.length:=by
 induction l with
 | nil=>intro st;rfl
 | cons x l ih=>intro st;show (GF L l (Hn L x.2 st x.1)).seen.length=_;rw [ih,mC]
def LK(L:List (Sg×Int))(nf:Nat)(C:List (List Sg))(rg:List Int):Bool:=(Ko L nf C rg).ok && !((Ko L nf C rg).seen.contains false)
end Go.Proofs.YtbejphgbbpplbaaGreatDoor
