/- K28: ShBN ShBO. -/
import Derived.Test.YtgnejnampofhoaaGreatDoorK27
set_option maxRecDepth 100000
set_option maxHeartbeats 8000000
namespace Go.Proofs.YtgnejnampofhoaaGreatDoor
open Go.RowKit Kl Go.Shelf
section
attribute [local go_sem] Oper.semAt_some
theorem Afx{P:Program}{id k n:Nat}{Q:Exit→Act→World→Prop}{a:Act}{W:World}{l:List Oper}(hm:P.follows .mixedOrders=true)(hB:Region.lexB .any l.toArray=true)(hd:vV l=true)(hlo:¬LetsOut Q)
  (h:wpQuiet P l.toArray (fun w'=>∃p:Af W,w'=p.w) (fun a'=>∀w',(∃p:Af W,w'=p.w)→Q .normal a' w') l a):(Code.region id l.toArray true).wpIn (Fence.wide.inRound k) n P Q a W:=by
 simp only [Region.lexB,Bool.and_eq_true]at hB;refine wpIn_region_any hm (dw (vW hd) hlo _ _ _ _ (wpAny_of_quiet (C:=fun w'=>∃p:Af W,w'=p.w) (Q:=fun a'=>∀w',(∃p:Af W,w'=p.w)→Q .normal a' w') (fun _ w' hw' h=>h w' hw') _ _ _ _ ⟨⟨W.drew,(Ac.refl W).drew⟩,rfl⟩ ?_));have:=wpAnyQ_lex (C:=fun w'=>∃p:Af W,w'=p.w) (md:=.any) hB.1 l 0 (Array.replicate l.toArray.size false) a (by simp) (by simpa using hB.2) h
 simpa using this
theorem AcH(a b p:Pt)(ha:Az 1 a)(hb:Az 1 b)(hp:Az 1 p)(Ba Bb:Nat)(w:World)(hw:Ao w)
  (c0:w.cell? ⟨Ba,0,none⟩=some (S (R a.x))) (c1:w.cell? ⟨Ba,1,none⟩=some (S (R a.y))) (c2:w.cell? ⟨Bb,0,none⟩=some (S (R b.x))) (c3:w.cell? ⟨Bb,1,none⟩=some (S (R b.y))) :
  Calls Tryz.prog 204 #[Ak p,.pointer (some ⟨Ba,0,none⟩),.pointer (some ⟨Bb,0,none⟩)] w (Cc (R (Ar a b p)) w):=by
 have E:=(Ac.refl w).alloc (.cells #[S (R p.x),S (R p.y)] 27);have Aw:=Ajy w (.cells #[S (R p.x),S (R p.y)] 27);have ar:=iK a b p ha hb hp (by omega) (by omega) _ (hw.ext E);replace c0:=E.cellS c0;replace c1:=E.cellS c1;replace c2:=E.cellS c2;replace c3:=E.cellS c3;have c4:=Aa (o:=0) Aw rfl;have c5:=Aa (o:=1) Aw rfl;unfold Ak S at ar;go_enter Tryz.func204,Tryz.ntmps204;unfold Ak;(go_wp2_with fail);(with_reducible refine ar.mono ?_);rintro e w1 ⟨rfl,hx1⟩;go_wp2;go_ret;exact⟨rfl,E.trans hx1⟩
theorem Ad1(r:Rat):r<0∨r=0∨0<r:=by
 by_cases h:r<0
 ·exact .inl h
 ·by_cases h0:r=0
  ·exact .inr (.inl h0)
  ·exact .inr (.inr ((Rat.le_iff_lt_or_eq.1 (Rat.not_lt.1 h)).resolve_right fun e=>h0 e.symm))
def Gz(f:Pt→Rat)(l:List Pt):List Pt:=l.filter (fun p=>decide (0<=f p))
def Ik(f:Pt→Rat)(l:List Pt):Bool:=l.any (fun p=>decide (0<f p))
theorem Ade(f:Pt→Rat)(l:List Pt)(p:Pt):Gz f (l ++ [p])=Gz f l++(if 0<=f p then [p] else []):=by
 unfold Gz;rw [List.filter_append];congr 1;simp [List.filter_cons]
theorem Agv(f:Pt→Rat)(l:List Pt)(p:Pt):Ik f (l ++ [p])=(Ik f l||decide (0<f p)):=by simp [Ik]
abbrev Nc(f:Pt→Rat):={s:Pt×Pt // Az 1 s.1/\Az 1 s.2/\¬AM (f s.1)*AM (f s.2)<0}
structure Bq(w:World)(fv sv:Value)(ks:List Pt)(sm:Bool)(W:World):Prop where
 out:∃v,W.heap[w.heap.size+1]?=some (.cells #[v] 31 (0,0))/\W.ownsRow w.heap.size 27 2 v ks.length (EK ks)
 som:W.heap[w.heap.size+2]?=some (.cells #[.bool sm] 4 (0,0))
 fn:W.heap[w.heap.size]?=some (.cells #[fv] 269 (0,0))
 box:W.heap[w.heap.size+3]?=some (.cells #[sv] 31 (0,0))
 below:Below w.heap.size w W
theorem Bq.size{w:World}{fv sv:Value}{ks:List Pt}{sm:Bool}{W:World}(h:Bq w fv sv ks sm W):w.heap.size+4<=W.heap.size:=by
 have:=(Array.getElem?_eq_some_iff.1 h.box).1;omega
theorem Bq.ext{w:World}{fv sv:Value}{ks:List Pt}{sm:Bool}{W W':World}(h:Bq w fv sv ks sm W)(hx:Ac W W'):Bq w fv sv ks sm W':=by
 obtain⟨v,hv,ho⟩:=h.out;have hs:=h.size;exact⟨⟨v,(hx.block _ (by omega)).trans hv,A9 ho hx⟩,(hx.block _ (by omega)).trans h.som,(hx.block _ (by omega)).trans h.fn,(hx.block _ (by omega)).trans h.box,h.below.trans (Below.mono hx h.below.size)⟩
theorem Bq.own{w:World}{fv sv:Value}{ks:List Pt}{sm:Bool}{W W':World}{row:Option Nat}{B:Nat}(hB:w.heap.size<=B)(h:Bq w fv sv ks sm W)(hg:W.grownBy W' row)(hr:∀r,row=some r→B<=r/\∃o:Obj,W.heap[r]?=some o/\o.isCells=false):Bq w fv sv ks sm W':=by
 have hr':∀r,row=some r→∃o:Obj,W.heap[r]?=some o/\o.isCells=false:=fun r e=>(hr r e).2;obtain⟨v,hv,ho⟩:=h.out;refine⟨⟨v,Ff hg hv hr',ho.kept hg ?_⟩,Ff hg h.som hr',Ff hg h.fn hr',Ff hg h.box hr',h.below.grown hg h.below.size (fun k e=>Aj9 hB (hr k e).1)⟩
 rcases ho.2 with⟨rfl,_⟩|⟨g,cap,cur,rfl,_,hgb,_⟩
 ·exact .inl rfl
 ·refine .inr fun e=>?_;obtain⟨o,h1,h2⟩:=hr' g e.symm;rw [hgb]at h1
  cases h1
  cases h2
theorem bN{w:World}{B:Nat}{e:TypeId}{s n:Nat}{v:Value}{xs:List Value}(hs:0<s)(h:w.ownsRow B e s v n xs):∃A c,v=.slice A n c:=by
 obtain⟨A,c,h1,-,-,-⟩:=Ae.of_own' hs h;exact⟨A,c,h1⟩
theorem aS:31≠27:=by decide
theorem vR:4≠27:=by decide
theorem AdK:269≠27:=by decide
theorem Bq.put{w:World}{fv sv:Value}{ks:List Pt}{sm:Bool}{W:World}(h:Bq w fv sv ks sm W)(b:Bool):Bq w fv sv ks b (W.setCell ⟨w.heap.size+2,0,none⟩ (.bool b)):=by
 obtain⟨v,hv,ho⟩:=h.out;have K:∀k,k≠w.heap.size+2→(W.setCell ⟨w.heap.size+2,0,none⟩ (.bool b)).heap[k]?=W.heap[k]?:=fun k hk=>Below.heap_setCell W _ _ k hk;refine⟨⟨v,(K _ (by omega)).trans hv,?_⟩,one_setCell h.som,(K _ (by omega)).trans h.fn,(K _ (by omega)).trans h.box,h.below.setCell (by show w.heap.size<=w.heap.size+2;omega) _⟩;refine ownsRow_setCell_other ho ?_ _;intro e
 rcases ownsRow_ne ho h.som (fun cur e=>by first|cases e|exact vR (Obj.cells.inj e).2.1)with e'|e'
 ·rw [e']at e;cases e
 ·exact e' e
theorem uT{w W:World}(b:Bool):Cj w.heap.size (w.heap.size+3) W (W.setCell ⟨w.heap.size+2,0,none⟩ (.bool b)):=
 ⟨(Below.refl _ W).setCell (p:=⟨w.heap.size+2,0,none⟩) (by show w.heap.size<=w.heap.size+2;omega) _,Below.heap_setCell W _ _ _ (by show w.heap.size+3≠w.heap.size+2;omega)⟩
theorem Bq.app{w:World}{fv sv:Value}{ks:List Pt}{sm:Bool}{W w3:World}{v v':Value}{x:Pt}(h:Bq w fv sv ks sm W)(ho:W.ownsRow w.heap.size 27 2 v ks.length (EK ks))
  (hown:w3.ownsRow w.heap.size 27 2 v' (ks.length+1) (EK ks ++ [S (R x.x),S (R x.y)])) (hg:W.grownBy w3 v.ownBlock) :
  Bq w fv sv (ks ++ [x]) sm (w3.setCell ⟨w.heap.size+1,0,none⟩ v')/\KeepsOthers W (w3.setCell ⟨w.heap.size+1,0,none⟩ v')/\Cj w.heap.size (w.heap.size+3) W (w3.setCell ⟨w.heap.size+1,0,none⟩ v')/\(∃u,w3.cell? ⟨w.heap.size+1,0,none⟩=some u)/\w3.frozen? ⟨w.heap.size+1,0,none⟩=false/\w3.cell? ⟨w.heap.size+2,0,none⟩=some (.bool sm)/\w3.frozen? ⟨w.heap.size+2,0,none⟩=false:=by
 obtain⟨v0,hv,-⟩:=h.out;have hs:=h.size
 have ne_of:∀{j:Nat} {o:Obj},W.heap[j]?=some o→(∀cur,o≠.cells cur 27 (0,0))→some j≠v.ownBlock:=fun hj hno=>by
  rcases ownsRow_ne ho hj hno with e|e
  ·rw [e];simp
  ·exact fun e'=>e e'.symm
 have k1:=(hg.block (w.heap.size+1) (by omega) (ne_of hv (fun cur e=>by first|cases e|exact aS (Obj.cells.inj e).2.1))).trans hv;have k2:=(hg.block (w.heap.size+2) (by omega) (ne_of h.som (fun cur e=>by first|cases e|exact vR (Obj.cells.inj e).2.1))).trans h.som;have k0:=(hg.block (w.heap.size) (by omega) (ne_of h.fn (fun cur e=>by first|cases e|exact AdK (Obj.cells.inj e).2.1))).trans h.fn;have k3:=(hg.block (w.heap.size+3) (by omega) (ne_of h.box (fun cur e=>by first|cases e|exact aS (Obj.cells.inj e).2.1))).trans h.box;have K:∀k,k≠w.heap.size+1→(w3.setCell ⟨w.heap.size+1,0,none⟩ v').heap[k]?=w3.heap[k]?:=fun k hk=>Below.heap_setCell w3 _ _ k hk;have hb3:Below w.heap.size W w3:=(Below.refl _ W).grown hg (by omega) (fun k e=>(ho.lt k e).1);have hb4:=hb3.setCell (p:=⟨w.heap.size+1,0,none⟩) (by show w.heap.size<=w.heap.size+1;omega) v';refine⟨⟨⟨v',heap_setCell_box _ k1,?_⟩,(K _ (by omega)).trans k2,(K _ (by omega)).trans k0,(K _ (by omega)).trans k3,h.below.trans hb4⟩,?_,⟨hb4,(K _ (by omega)).trans (k3.trans h.box.symm)⟩,⟨_,(cell_of_box k1).1⟩,(cell_of_box k1).2,(cell_of_box k2).1,(cell_of_box k2).2⟩
 ·rw [List.length_append,xK];refine ownsRow_setCell_other hown ?_ _;intro e
  rcases ownsRow_ne hown k1 (fun cur e=>by first|cases e|exact aS (Obj.cells.inj e).2.1)with e'|e'
  ·rw [e']at e;cases e
  ·exact e' e
 ·refine(KeepsOthers.of_grownBy hg fun j o e hj=>?_).trans (KeepsOthers.setCell _ _ _)
  rcases ho.2 with⟨rfl,_⟩|⟨g,cap,cur,rfl,_,hgb,_⟩
  ·cases e
  ·simp only [Value.ownBlock,Aj3]at e;subst e;rw [hgb]at hj
   cases hj
   rfl
def KF(f:Pt→Rat)(l:List Pt):List Pt:=if Ik f l=true then Gz f l else []
def mi(l:List Pt)(w:World)(e:Ending)(w':World):Prop:=
 ∃A' c',e=.returned (.slice A' l.length c')/\Ae w' A' (flat (Ai l))/\l.length<=c'/\c'<=9223372036854775807/\(l = []→A'=none/\c'=0)/\Ac w w'
theorem AdH(f:Pt→Rat)(pg:List Pt)(h0:0<pg.length)(hz:∀p∈pg,Az 1 p)(hcut:∀k,k<pg.length→¬AM (f (Bz pg k).1)*AM (f (Bz pg k).2)<0):∃g:Nat→Nc f,∀k,k<pg.length→(g k).1=Bz pg k:=by
 have hm:∀k,Az 1 (pg.getD (k%pg.length) ⟨0,0⟩):=fun k=>by have:k%pg.length<pg.length:=Nat.mod_lt _ h0;rw [List.getD_eq_getElem?_getD,Aj4 this];exact hz _ (Aj0 this)
 have h2:∀k,k<pg.length→Az 1 (Bz pg k).1/\Az 1 (Bz pg k).2/\¬AM (f (Bz pg k).1)*AM (f (Bz pg k).2)<0:=fun k hk=>⟨by have:=hm k;rwa [Nat.mod_eq_of_lt hk]at this,hm (k+1),hcut k hk⟩;exact⟨fun k=>if h:k<pg.length then ⟨Bz pg k,h2 k h⟩else ⟨Bz pg 0,h2 0 h0⟩,fun k hk=>by simp [hk]⟩
theorem AdG{f:Pt→Rat}{pg:List Pt}{g:Nat→Nc f}(hg:∀k,k<pg.length→(g k).1=Bz pg k):(upto g pg.length).map (·.1.1)=pg:=by
 apply List.ext_getElem
 ·simp [upto]
 ·intro k h1 h2;simp only [upto,List.getElem_map,List.getElem_range];rw [hg k h2];simp [Bz,List.getD_eq_getElem?_getD,Aj4 h2]
def Em{f:Pt→Rat}(pre:List (Nc f)):List Pt:=pre.map (fun x=>x.1.1)
def NX(f:Pt→Rat)(w:World)(fv sv:Value)(pre:List (Nc f))(W:World):Prop:=Bq w fv sv (Gz f (Em pre)) (Ik f (Em pre)) W
theorem NX.own{f:Pt→Rat}{w:World}{fv sv:Value}{B:Nat}(hB:w.heap.size<=B):OwnFrom B (NX f w fv sv):=fun _ _ _ _ h hg hr=>Bq.own hB h hg hr
def fU(x:Pt×Pt)(Ba Bb:Nat)(W:World):Prop:=W.heap[Ba]?=some (.cells #[S (R x.1.x),S (R x.1.y)] 27 (0,0))/\W.heap[Bb]?=some (.cells #[S (R x.2.x),S (R x.2.y)] 27 (0,0))
theorem uP (a b : Pt) (ha : Az 1 a) (hb : Az 1 b) (pg : List Pt) (hz : ∀ p ∈ pg, Az 1 p) (CQ : 0 < pg.length) (K1 : pg.length ≤ 60) (hcut : ∀ k, k < pg.length → ¬ AM (Ar a b (Bz pg k).1) * AM (Ar a b (Bz pg k).2) < 0)
    (A : Option Addr) (cap : Nat) (Ba Bb : Nat) (w : World) (hw : Ao w) (hr : Ae w A (flat (Ai pg))) (_ : pg.length ≤ cap) (_ : cap ≤ 9223372036854775807)
    (XG : w.heap[Ba]? = some (.cells #[S (R a.x), S (R a.y)] 27 (0, 0))) (XI : w.heap[Bb]? = some (.cells #[S (R b.x), S (R b.y)] 27 (0, 0))) :
    Calls Tryz.prog 203 #[.slice A pg.length cap, .func (.func 204) #[] #[.pointer (some ⟨Ba, 0, none⟩), .pointer (some ⟨Bb, 0, none⟩)]] w (mi (KF (Ar a b) pg) w) := by
  obtain ⟨g, hg⟩ := AdH (Ar a b) pg CQ hz hcut
  obtain ⟨fv, LZ⟩ := Ajv (Value.func (.func 204) #[] #[.pointer (some ⟨Ba, 0, none⟩), .pointer (some ⟨Bb, 0, none⟩)])
  obtain ⟨W0, hW0⟩ := Ajv ((((w.alloc (.cells #[fv] 269)).alloc (.cells #[.slice none 0 0] 31)).alloc (.cells #[.bool false] 4)).alloc (.cells #[.slice A pg.length cap] 31))
  have hs0 : W0.heap.size = w.heap.size + 4 := by rw [hW0]; simp
  have hx0 : Ac w W0 := by rw [hW0]; exact ((((Ac.refl w).alloc _).alloc _).alloc _).alloc _
  have Hu : Bq w fv (.slice A pg.length cap) [] false W0 := by
    have b0 := Ajy w (.cells #[fv] 269)
    have b1 := Ajy (w.alloc (.cells #[fv] 269)) (.cells #[.slice none 0 0] 31)
    have b2 := Ajy ((w.alloc (.cells #[fv] 269)).alloc (.cells #[.slice none 0 0] 31)) (.cells #[.bool false] 4)
    have b3 := Ajy (((w.alloc (.cells #[fv] 269)).alloc (.cells #[.slice none 0 0] 31)).alloc (.cells #[.bool false] 4)) (.cells #[.slice A pg.length cap] 31)
    simp only [Aj6] at b1 b2 b3
    rw [hW0]
    refine ⟨⟨.slice none 0 0, ?_, ⟨rfl, .inl ⟨rfl, rfl⟩⟩⟩, ?_, ?_, b3, hW0 ▸ hx0⟩
    · exact (Below.heap_alloc _ _ _ (by simp only [Aj6]; omega)).trans ((Below.heap_alloc _ _ _ (by simp only [Aj6]; omega)).trans b1)
    · exact (Below.heap_alloc _ _ _ (by simp only [Aj6]; omega)).trans b2
    · exact (Below.heap_alloc _ _ _ (by simp only [Aj6]; omega)).trans ((Below.heap_alloc _ _ _ (by simp only [Aj6]; omega)).trans ((Below.heap_alloc _ _ _ (by simp only [Aj6]; omega)).trans b0))
  rw [LZ] at hW0 Hu
  refine (callsIn_wide (n := 4)).1 ?_
  refine callsIn_of_wp_marks Tryz.func203 rfl trivial ?_ rfl
  simp only [Tryz.ntmps203, List.size_toArray, List.length_cons, List.length_nil, Nat.reduceAdd, Nat.reduceSub, Array.replicate_succ, Array.replicate_zero, List.push_toArray, List.append_toArray, List.nil_append, List.cons_append]
  gi_wp2
  refine ⟨trivial, ?_⟩
  refine (xR Fence.wide 3 trivial rfl A pg.length cap _).mono ?_
  rintro e W3 ⟨rfl, rfl⟩
  gi_wp2
  rw [← hW0]
  rw [← LZ] at Hu
  have C2 := Aa (o := 0) Hu.box rfl
  refine wpIn_rangeFunc_ownH rfl (by omega) (gf := 272) (lb := #[.pointer (some ⟨w.heap.size + 3, 0, none⟩)]) rfl trivial (enters_of Tryz.func272 (by kernel_rfl) rfl)
    (xT (fun x : Nc (Ar a b) => x.1) 3 (by omega) (w.heap.size + 3) w.heap.size A cap pg g hg W0 (by omega) (by omega) (by omega) C2 ⟨w, hr, Ajz _, hx0⟩)
    (fun h k => h.trans k) (Cj.put (by omega) (by omega)) (Below.refl _ _) (fun _ => rfl)
    (NX (Ar a b) w fv (.slice A pg.length cap)) (fun _ _ _ => False)
    (NX.own (by omega)) (fun _ _ _ _ _ hs _ _ => hs) Hu
    (fun x a' W => ∃ Fw Fx, fU x.1 Fw Fx W ∧ a' = { tmps := #[.slice A pg.length cap, .func (.func 204) #[] #[.pointer (some ⟨Ba, 0, none⟩), .pointer (some ⟨Bb, 0, none⟩)], undef, .pointer (some ⟨w.heap.size, 0, none⟩), .slice none 0 0, .pointer (some ⟨w.heap.size + 1, 0, none⟩), .pointer (some ⟨w.heap.size + 2, 0, none⟩), .pointer (some ⟨Fw, 0, none⟩), .pointer (some ⟨Fx, 0, none⟩), undef, undef, undef, undef, .slice A pg.length cap, .func (.func 272) #[] #[.pointer (some ⟨w.heap.size + 3, 0, none⟩)], Ak x.1.1, Ak x.1.2, undef, undef, undef, undef, undef, undef, undef, undef, undef, undef, undef, undef, undef, undef, undef, undef, undef, undef, undef, undef, undef, undef, undef, undef, undef, undef, undef, undef, undef, undef, undef, undef, undef, undef, undef, undef, undef, undef, undef, undef, undef, undef, undef, undef, undef, undef, undef, undef, undef, undef, undef], defers := [] })
    ?hAx ?assign ?body ?done ?stop
  case hAx =>
    rintro x a' s W W' row ⟨Fw, Fx, ⟨h1, h2⟩, rfl⟩ Ns hr'
    exact ⟨Fw, Fx, ⟨Ff Ns h1 (fun r e => (hr' r e).2), Ff Ns h2 (fun r e => (hr' r e).2)⟩, rfl⟩
  case assign =>
    intro l pre x W K hi hK
    have hi : Bq w fv (.slice A pg.length cap) (Gz (Ar a b) (Em pre)) (Ik (Ar a b) (Em pre)) W := hi
    have Mo := hi.size
    have e1 := Ajy W (.cells #[S (R x.1.1.x), S (R x.1.1.y)] 27)
    have e2 := Ajy (W.alloc (.cells #[S (R x.1.1.x), S (R x.1.1.y)] 27)) (.cells #[S (R x.1.2.x), S (R x.1.2.y)] 27)
    have X := ((Ac.refl W).alloc (.cells #[S (R x.1.1.x), S (R x.1.1.y)] 27)).alloc (.cells #[S (R x.1.2.x), S (R x.1.2.y)] 27)
    rw [Aj6] at e2
    unfold Ak
    gi_wp2
    exact hK _ _ (KG X) (Cj.of_ext X (by omega) (by omega)) (hi.ext X) ⟨_, _, ⟨(Below.heap_alloc _ _ _ (by simp only [Aj6]; omega)).trans e1, e2⟩, rfl⟩
  case body =>
    rintro l pre x a' W hl AbP hI ⟨Fw, Fx, ⟨e1, e2⟩, rfl⟩ hlen
    subst LZ
    gi_wp2
    obtain ⟨z1, z2, hno⟩ := x.2
    have hs := Bq.size hI
    have CS : Ao W := hw.ext (Bq.below hI)
    have XH := (Below.block (Bq.below hI) _ (Ajx XG)).trans XG
    have XJ := (Below.block (Bq.below hI) _ (Ajx XI)).trans XI
    obtain ⟨p1, p2, OK, Ry⟩ : ∃ p1 p2, p1 = x.1.1 ∧ p2 = x.1.2 := ⟨_, _, rfl, rfl⟩
    have hpre : Em (pre ++ [x]) = Em pre ++ [p1] := by unfold Em; rw [List.map_append, OK]; rfl
    rw [← OK] at z1
    rw [← Ry] at z2
    rw [← OK, ← Ry] at hno
    have LI : ∀ W', NX (Ar a b) w (.func (.func 204) #[] #[.pointer (some ⟨Ba, 0, none⟩), .pointer (some ⟨Bb, 0, none⟩)]) (.slice A pg.length cap) (pre ++ [x]) W' ↔ Bq w (.func (.func 204) #[] #[.pointer (some ⟨Ba, 0, none⟩), .pointer (some ⟨Bb, 0, none⟩)]) (.slice A pg.length cap) (Gz (Ar a b) (Em pre) ++ (if 0 ≤ Ar a b p1 then [p1] else [])) (Ik (Ar a b) (Em pre) || decide (0 < Ar a b p1)) W' := fun W' => by unfold NX; rw [hpre, Ade, Agv]
    have hI : Bq w (.func (.func 204) #[] #[.pointer (some ⟨Ba, 0, none⟩), .pointer (some ⟨Bb, 0, none⟩)]) (.slice A pg.length cap) (Gz (Ar a b) (Em pre)) (Ik (Ar a b) (Em pre)) W := hI
    rw [← OK, ← Ry]
    rw [← OK] at e1
    rw [← Ry] at e2
    have CB : (Gz (Ar a b) (Em pre)).length ≤ 60 := by
      refine Aj9 (List.length_filter_le _ _) ?_
      unfold Em; rw [List.length_map]; omega
    obtain ⟨ks, I7⟩ := Ajv (Gz (Ar a b) (Em pre))
    obtain ⟨sm, hsm⟩ := Ajv (Ik (Ar a b) (Em pre))
    rw [← I7] at hI CB LI
    rw [← hsm] at hI LI
    have q0 : ∀ q : Af W, q.w.cell? ⟨w.heap.size, 0, none⟩ = some (.func (.func 204) #[] #[.pointer (some ⟨Ba, 0, none⟩), .pointer (some ⟨Bb, 0, none⟩)]) := Af.cell (Aa hI.fn rfl)
    have q1 : ∀ q : Af W, q.w.cell? ⟨Fw, 0, none⟩ = some (S (R p1.x)) := Af.cell (Aa e1 rfl)
    have q2 : ∀ q : Af W, q.w.cell? ⟨Fw, 1, none⟩ = some (S (R p1.y)) := Af.cell (Aa e1 rfl)
    have q3 : ∀ q : Af W, q.w.cell? ⟨Fx, 0, none⟩ = some (S (R p2.x)) := Af.cell (Aa e2 rfl)
    have q4 : ∀ q : Af W, q.w.cell? ⟨Fx, 1, none⟩ = some (S (R p2.y)) := Af.cell (Aa e2 rfl)
    have ct := fun (q : Af W) (p : Pt) (hp : Az 1 p) => AcH a b p ha hb hp Ba Bb q.w (CS.ext q.h) (q.h.cellS (Aa (o := 0) XH rfl)) (q.h.cellS (Aa (o := 1) XH rfl)) (q.h.cellS (Aa (o := 0) XJ rfl)) (q.h.cellS (Aa (o := 1) XJ rfl))
    have k1 := fun (q : Af W) => ct q p1 z1
    have k2 := fun (q : Af W) => ct q p2 z2
    unfold Ak at k1 k2
    have IS := Ajw LI
    clear ct hpre LI OK Ry I7 hsm XH XJ
    refine Afx (by kernel_rfl) (by kernel_rfl) (by kernel_rfl) (by rintro ⟨_, _, h⟩; exact h) ?_
    repeat (go_big_quiet_step (first | with_reducible exact lU (k1 _) | with_reducible exact lU (k2 _)))
    refine wpQuiet_nil ?_
    rintro W7 ⟨q, hq⟩
    have AL : Ac W W7 := hq ▸ q.h
    clear hq q q0 q1 q2 q3 q4 k1 k2
    have Ea := Bq.ext hI AL
    obtain ⟨r1, hr1⟩ := Ajv (Ar a b p1)
    obtain ⟨r2, hr2⟩ := Ajv (Ar a b p2)
    rw [← hr1, ← hr2] at hno
    have LI := IS.out
    rw [← hr1] at LI
    rw [← hr1, ← hr2]
    have cs1 := fun (V : World) => Pq r1 V
    have T0 := fun (V : World) => Pq r2 V
    obtain ⟨i0, hi, hz0, hz1, hz2⟩ := info_parts Tryz.infoPt
    have Om := (AL.block _ (Ajx e1)).trans e1
    have hs2 := Pz r2
    obtain ⟨s2, tH⟩ := Ajv (AM r2)
    rw [← tH] at T0 hno hs2
    have hs7 := Bq.size Ea
    have VT := Ajw LI
    clear IS hr1 hr2 tH LI e1 e2 hI XG XI z1 z2
    rcases Ad1 r1 with Mk | RI | Cl
    · have DN := yZ Mk
      have Rs : ¬ 0 ≤ r1 := Rat.not_le.2 Mk
      have I8 : ¬ 0 < r1 := fun h => Rs (Rat.le_of_lt h)
      rw [DN] at cs1 hno
      have BM : ¬ 0 < s2 := by omega
      gi_wp2
      refine ⟨trivial, ?_⟩
      refine (CallsIn.inRound l (callsIn_wide.2 (cs1 _))).mono ?_
      rintro e W8 ⟨rfl, AX⟩
      gi_wp2
      refine ⟨trivial, ?_⟩
      refine (CallsIn.inRound l (callsIn_wide.2 (cs1 _))).mono ?_
      rintro e Wa ⟨rfl, Gx⟩
      gi_wp2
      refine ⟨trivial, ?_⟩
      refine (CallsIn.inRound l (callsIn_wide.2 (T0 _))).mono ?_
      rintro e Wb ⟨rfl, hxb⟩
      gi_wp2
      have X := (AL.trans AX).trans (Gx.trans hxb)
      refine ⟨KG X, Cj.of_ext X (by omega) (by omega), (VT.out _).2 ?_⟩
      rw [if_neg Rs, decide_eq_false I8, List.append_nil, Bool.or_false]
      exact Bq.ext Ea (AX.trans (Gx.trans hxb))
    · have DN : AM r1 = 0 := by rw [RI]; rfl
      have hle : 0 ≤ r1 := by rw [RI]; decide
      have Ml : ¬ 0 < r1 := by rw [RI]; decide
      have Bu : (R r1 == [48]) = true := by rw [beq_iff_eq]; exact fW.2 RI
      have BN : (R r1 != [48]) = false := by rw [bne, Bu]; rfl
      clear RI
      rw [DN] at cs1 hno
      gi_wp2
      refine ⟨trivial, ?_⟩
      refine (CallsIn.inRound l (callsIn_wide.2 (cs1 _))).mono ?_
      rintro e W8 ⟨rfl, AX⟩
      have Jf := Bq.ext Ea AX
      have tA := Bq.size Jf
      obtain ⟨v, hv, ho⟩ := Jf.out
      obtain ⟨vA, vc, rfl⟩ := bN (by omega) ho
      have f1 := (cell_of_box hv).1
      have Qq := (AX.block _ (Ajx Om)).trans Om
      have f2 := Aa (o := 0) Qq rfl
      have f3 := Aa (o := 1) Qq rfl
      have X8 := AL.trans AX
      clear Om Ea AL AX
      cases sm
      all_goals (
        gi_wp2_with (gi_at_builtin; refine wpListIn_append_own _ rfl _ _ 31 rfl w.heap.size 27 i0 (.agg #[S [], S []]) 2 32 Tryz.underlying31 hi hz0 hz1 hz2 rfl (by decide) _ _ _ rfl (ho.alloc _) ⟨W8.heap.size, 0, none⟩ 1 1 [S (R p1.x), S (R p1.y)] rfl rfl (Xa _ _ _ _) (by simp [Value.oneCell']) (by unfold maxLen; omega) (by omega) (by simp; omega) ?_; intro v' w3 hown' hg3 hnil3
                     obtain ⟨QQ, Y7, Y8, ⟨u3, hc3⟩, hf3, hd3, Abe⟩ := Bq.app (x := p1) (Bq.ext Jf ((Ac.refl W8).alloc (.cells #[S (R p1.x), S (R p1.y)] 27))) (ho.alloc _) hown' hg3
                     obtain ⟨g', cap', ZP⟩ : ∃ g' cap', v' = .slice (some ⟨g', 0, none⟩) (ks.length + 1) cap' := by
                       rcases hown'.2 with ⟨_, h0⟩ | ⟨g', cap', _, h', _⟩
                       · exact absurd h0 (by omega)
                       · exact ⟨g', cap', h'⟩
                     subst ZP
                     clear hown' hg3 hnil3
                     go_frame)
        refine ⟨trivial, ?_⟩
        refine (CallsIn.inRound l (callsIn_wide.2 (cs1 _))).mono ?_
        rintro e Wa ⟨rfl, Gx⟩
        gi_wp2
        refine ⟨trivial, ?_⟩
        refine (CallsIn.inRound l (callsIn_wide.2 (T0 _))).mono ?_
        rintro e Wb ⟨rfl, hxb⟩
        gi_wp2
        have hP := fun b => Bq.put QQ b
        have hsP := Bq.size QQ
        have X := Gx.trans hxb
        refine ⟨((KG (X8.alloc _)).trans ((Y7.trans (KeepsOthers.setCell _ _ _)).from _)).trans (KG X), (((Cj.of_ext (Bs := w.heap.size + 3) (X8.alloc _) (by omega) (by omega)).trans Y8).trans (uT _)).trans (Cj.of_ext X (by rw [World.size_setCell]; omega) (by rw [World.size_setCell]; omega)), (VT.out _).2 ?_⟩
        rw [if_pos hle]
        simp only [decide_eq_false Ml, Bool.or_false]
        exact Bq.ext (hP _) X)
    · have DN := dC Cl
      have hle : 0 ≤ r1 := Rat.le_of_lt Cl
      have BM : ¬ s2 < 0 := by
        intro h
        rw [DN] at hno
        omega
      have Bu : (R r1 == [48]) = false := Hk (fun e => by rw [e] at Cl; exact absurd Cl (by decide))
      have BN : (R r1 != [48]) = true := by rw [bne, Bu]; rfl
      rw [DN] at cs1 hno
      gi_wp2
      refine ⟨trivial, ?_⟩
      refine (CallsIn.inRound l (callsIn_wide.2 (cs1 _))).mono ?_
      rintro e W8 ⟨rfl, AX⟩
      have Jf := Bq.ext Ea AX
      have tA := Bq.size Jf
      obtain ⟨v, hv, ho⟩ := Jf.out
      obtain ⟨vA, vc, rfl⟩ := bN (by omega) ho
      have f1 := (cell_of_box hv).1
      have Qq := (AX.block _ (Ajx Om)).trans Om
      have f2 := Aa (o := 0) Qq rfl
      have f3 := Aa (o := 1) Qq rfl
      have X8 := AL.trans AX
      clear Om Ea AL AX
      cases sm
      all_goals (
        gi_wp2_with (gi_at_builtin; refine wpListIn_append_own _ rfl _ _ 31 rfl w.heap.size 27 i0 (.agg #[S [], S []]) 2 32 Tryz.underlying31 hi hz0 hz1 hz2 rfl (by decide) _ _ _ rfl (ho.alloc _) ⟨W8.heap.size, 0, none⟩ 1 1 [S (R p1.x), S (R p1.y)] rfl rfl (Xa _ _ _ _) (by simp [Value.oneCell']) (by unfold maxLen; omega) (by omega) (by simp; omega) ?_; intro v' w3 hown' hg3 hnil3
                     obtain ⟨QQ, Y7, Y8, ⟨u3, hc3⟩, hf3, hd3, Abe⟩ := Bq.app (x := p1) (Bq.ext Jf ((Ac.refl W8).alloc (.cells #[S (R p1.x), S (R p1.y)] 27))) (ho.alloc _) hown' hg3
                     obtain ⟨g', cap', ZP⟩ : ∃ g' cap', v' = .slice (some ⟨g', 0, none⟩) (ks.length + 1) cap' := by
                       rcases hown'.2 with ⟨_, h0⟩ | ⟨g', cap', _, h', _⟩
                       · exact absurd h0 (by omega)
                       · exact ⟨g', cap', h'⟩
                     subst ZP
                     clear hown' hg3 hnil3
                     go_frame)
        refine ⟨trivial, ?_⟩
        refine (CallsIn.inRound l (callsIn_wide.2 (cs1 _))).mono ?_
        rintro e Wa ⟨rfl, Gx⟩
        gi_wp2
        refine ⟨trivial, ?_⟩
        refine (CallsIn.inRound l (callsIn_wide.2 (T0 _))).mono ?_
        rintro e Wb ⟨rfl, hxb⟩
        gi_wp2
        have hP := fun b => Bq.put QQ b
        have hsP := Bq.size QQ
        have X := Gx.trans hxb
        refine ⟨((KG (X8.alloc _)).trans ((Y7.trans (KeepsOthers.setCell _ _ _)).from _)).trans (KG X), (((Cj.of_ext (Bs := w.heap.size + 3) (X8.alloc _) (by omega) (by omega)).trans Y8).trans (uT _)).trans (Cj.of_ext X (by rw [World.size_setCell]; omega) (by rw [World.size_setCell]; omega)), (VT.out _).2 ?_⟩
        rw [if_pos hle]
        simp only [decide_eq_true Cl, Bool.or_true]
        exact Bq.ext (hP _) X)
  case done =>
    rintro D ys W hD rfl hI hK
    have hI : Bq w fv (.slice A pg.length cap) (Gz (Ar a b) (Em (upto g pg.length))) (Ik (Ar a b) (Em (upto g pg.length))) W := hI
    rw [show Em (upto g pg.length) = pg from AdG hg] at hI
    have tA := Bq.size hI
    obtain ⟨v, hv, ho⟩ := hI.out
    obtain ⟨vA, vc, rfl⟩ := bN (by omega) ho
    have f1 := (cell_of_box hv).1
    have f2 := (cell_of_box hI.som).1
    have Km := Bq.below hI
    obtain ⟨sm, hsm⟩ := Ajv (Ik (Ar a b) pg)
    rw [← hsm] at f2
    have pR : Ac w (W.putObj D (.deferred none)) := Km.trans (belowK_b (w := w) (Ajz _) W D _ _ (by omega) hK rfl rfl)
    have ho2 := ho.kept (grownBy_putObj W D (.deferred none)) (ownsRow_ne ho hK (fun cur e => by cases e))
    obtain ⟨A2, c2, hv2, ID, hc1, hc2⟩ := Ae.of_own' (by omega) ho2
    simp only [Value.slice.injEq, true_and] at hv2
    obtain ⟨rfl, rfl⟩ := hv2
    have hk0 : sm = false → KF (Ar a b) pg = [] := fun h => by unfold KF; rw [← hsm, h]; rfl
    have Dn : sm = true → KF (Ar a b) pg = Gz (Ar a b) pg := fun h => by unfold KF; rw [← hsm, if_pos h]
    have hnil : sm = true → Gz (Ar a b) pg = [] → vA = none ∧ vc = 0 := fun h e => by
      exfalso
      rw [hsm] at h
      unfold Ik at h
      rw [List.any_eq_true] at h
      obtain ⟨p, hp, h⟩ := h
      have : p ∈ Gz (Ar a b) pg := List.mem_filter.2 ⟨hp, decide_eq_true (Rat.le_of_lt (of_decide_eq_true h))⟩
      rw [e] at this
      cases this
    clear hI hsm
    cases sm
    · gi_wp2
      refine ⟨by simp, .inl ⟨_, _, rfl, run_takeDeferred hK, ?_⟩⟩
      refine ⟨_, results_tmp rfl _ _ _, ?_⟩
      exact ⟨none, 0, rfl, ⟨fun h => by simp [flat, Ai] at h⟩, Ajz _, by omega, fun _ => ⟨rfl, rfl⟩, pR⟩
    · gi_wp2
      refine ⟨by simp, .inl ⟨_, _, rfl, run_takeDeferred hK, ?_⟩⟩
      refine ⟨_, results_tmp rfl _ _ _, ?_⟩
      exact ⟨vA, vc, rfl, ID, hc1, hc2, hnil trivial, pR⟩
  case stop =>
    rintro D c pre W _ _ h _
    exact h.elim
end
section
attribute [local go_sem] Oper.semAt_some
theorem ud(p q:List Pt)(hp:ML p)(hq:ML q)(OV:∀x∈p,Az 1 x)(RJ:∀x∈q,Az 1 x)(A B:Option Addr)(c d blk:Nat)(w:World)(hw:Ao w)
  (hA:Ae w A (flat (Ai p))) (hB:Ae w B (flat (Ai q))) (hc:p.length<=c) (hc2:c<=9223372036854775807) (hd:q.length<=d) (Gp:d<=9223372036854775807)
  (c0:w.cell? ⟨blk,0,none⟩=some (.slice A p.length c)) (c1:w.cell? ⟨blk,1,none⟩=some (.slice B q.length d)) :
  Calls Tryz.prog 201 #[.slice (some ⟨blk,0,none⟩) 2 2] w (AK 0 w):=by
 have k1:=fun (W:World) (hx:Ac w W)=>bS p hp OV (by omega) (by omega) A c W (hw.ext hx) (hA.ext hx) hc hc2;have k2:=fun (W:World) (hx:Ac w W)=>bS q hq RJ (by omega) (by omega) B d W (hw.ext hx) (hB.ext hx) hd Gp;clear hp hq OV RJ hA hB;go_enter Tryz.func201,Tryz.ntmps201;go_wp2
 go_loopw [8] (fun i wr=>(i=.int .i64 0∨i=.int .i64 1∨i=.int .i64 2)/\Ac w wr) (fun i _=>2-(intOf i).toNat)
 case atStart=>exact⟨.inl rfl,Ac.refl _⟩
 case round=>
  obtain⟨h,hx⟩:=hrel;have d0:=hx.cellS c0;have d1:=hx.cellS c1
  rcases h with rfl|rfl|rfl
  ·have k:=k1 wr hx;clear k1 k2 c0 c1;(go_wp2_with fail);(with_reducible refine k.mono ?_);rintro e w2 ⟨rfl,hx2⟩;go_wp2;go_roundw
   case rel=>exact⟨.inr (.inl rfl),hx.trans hx2⟩
   case measure=>simp [intOf]
  ·have k:=k2 wr hx;clear k1 k2 c0 c1;(go_wp2_with fail);(with_reducible refine k.mono ?_);rintro e w2 ⟨rfl,hx2⟩;go_wp2;go_roundw
   case rel=>exact⟨.inr (.inr rfl),hx.trans hx2⟩
   case measure=>simp [intOf]
  ·clear k1 k2 c0 c1;go_wp2;go_ret;exact⟨rfl,hx⟩
theorem Ae.keptM{W W':World}{row:Option Nat}{A:Option Addr}{cs:List Value}(h:Ae W A cs)(hg:W.grownBy W' row)(hr:∀r,row=some r→∃o:Obj,W.heap[r]?=some o/\o.isCells=false):Ae W' A cs:=
 ⟨fun h0=>by
  obtain⟨b,o,e,hc⟩:=h.ad h0
  exact⟨b,o,e,fun j hj=>cell_kept (hc j hj) hg hr⟩⟩
def KZ(p:List Pt)(s:Pt×Pt):Prop:=(∀x∈p,0<=Ar s.1 s.2 x)/\∃x∈p,0<Ar s.1 s.2 x
def J9(p:List Pt)(s:Pt×Pt):Prop:=∀x∈p,Ar s.1 s.2 x<=0
abbrev Sd(p:List Pt):={s:Pt×Pt // Az 1 s.1/\Az 1 s.2/\(KZ p s∨J9 p s)}
theorem Agb(p q:List Pt)(h0:0<q.length)(hz:∀x∈q,Az 1 x)(hs:∀k,k<q.length→KZ p (Bz q k)∨J9 p (Bz q k)):∃g:Nat→Sd p,∀k,k<q.length→(g k).1=Bz q k:=by
 have hm:∀k,Az 1 (q.getD (k%q.length) ⟨0,0⟩):=fun k=>by have:k%q.length<q.length:=Nat.mod_lt _ h0;rw [List.getD_eq_getElem?_getD,Aj4 this];exact hz _ (Aj0 this)
 have h2:∀k,k<q.length→Az 1 (Bz q k).1/\Az 1 (Bz q k).2/\(KZ p (Bz q k)∨J9 p (Bz q k)):=fun k hk=>⟨by have:=hm k;rwa [Nat.mod_eq_of_lt hk]at this,hm (k+1),hs k hk⟩;exact⟨fun k=>if h:k<q.length then ⟨Bz q k,h2 k h⟩else ⟨Bz q 0,h2 0 h0⟩,fun k hk=>by simp [hk]⟩
theorem Vx{p:List Pt}{k:Nat}(hk:k<p.length):(Bz p k).1∈p/\(Bz p k).2∈p:=by
 have h2:(k+1)%p.length<p.length:=Nat.mod_lt _ (by omega);unfold Bz;rw [List.getD_eq_getElem?_getD,Aj4 hk,List.getD_eq_getElem?_getD,Aj4 h2];exact⟨Aj0 hk,Aj0 h2⟩
theorem zB{r:Rat}(h:0<=r):0<=AM r:=by
 unfold AM;rw [if_neg (Rat.not_lt.2 h)];split<;>omega
theorem zC{r:Rat}(h:r<=0):AM r<=0:=by
 unfold AM;by_cases h0:r=0
 ·rw [if_pos h0];omega
 ·rw [if_neg h0,if_pos ((Rat.le_iff_lt_or_eq.1 h).resolve_right h0)];omega
theorem AcX{p:List Pt}{s:Pt×Pt}(h:KZ p s):KF (Ar s.1 s.2) p=p:=by
 unfold KF;rw [if_pos]
 ·exact List.filter_eq_self.2 fun x hx=>decide_eq_true (h.1 x hx)
 ·obtain⟨x,hx,h0⟩:=h.2;exact List.any_eq_true.2 ⟨x,hx,decide_eq_true h0⟩
theorem AcW{p:List Pt}{s:Pt×Pt}(h:J9 p s):KF (Ar s.1 s.2) p = []:=by
 unfold KF;rw [if_neg];intro h2;obtain⟨x,hx,h0⟩:=List.any_eq_true.1 h2;exact Rat.not_lt.2 (h x hx) (of_decide_eq_true h0)
theorem AdR{p:List Pt}{s:Pt×Pt}(h:KZ p s):∀k,k<p.length→¬AM (Ar s.1 s.2 (Bz p k).1)*AM (Ar s.1 s.2 (Bz p k).2)<0:=fun k hk=>by
 have h1:=zB (h.1 _ (Vx hk).1);have h2:=zB (h.1 _ (Vx hk).2);exact Int.not_lt.2 (Int.mul_nonneg h1 h2)
theorem AdQ{p:List Pt}{s:Pt×Pt}(h:J9 p s):∀k,k<p.length→¬AM (Ar s.1 s.2 (Bz p k).1)*AM (Ar s.1 s.2 (Bz p k).2)<0:=fun k hk=>by
 have h1:=zC (h _ (Vx hk).1);have h2:=zC (h _ (Vx hk).2);exact Int.not_lt.2 (Int.mul_nonneg_of_nonpos_of_nonpos h1 h2)
theorem rx{w:World}{b o:Nat}{cs:Array Value}{t:TypeId}{fz:Nat×Nat}{v:Value}(h:w.heap[b]?=some (.cells cs t fz))(hc:w.cell? ⟨b,o,none⟩=some v):cs[o]?=some v:=by
 cases e:cs[o]? with
 | some u=>
  have h2:=hc;simp [World.cell?,h,e]at h2;rw [←h2]
 | none=>simp [World.cell?,h,e]at hc
structure Ex(w:World)(bo:Nat)(p:List Pt)(sv:Value)(W:World):Prop where
 c4:∃v,W.heap[w.heap.size]?=some (.cells #[v] 31 (0,0))
 c5:∃v,W.heap[w.heap.size+1]?=some (.cells #[v] 4 (0,0))
 c6:∃v,W.heap[w.heap.size+2]?=some (.cells #[v] 36 (0,0))
 out:∃A c,W.heap[bo]?=some (.cells #[.slice A p.length c] 31 (0,0))/\Ae W A (flat (Ai p))/\p.length<=c/\c<=9223372036854775807
 box:W.heap[bo+1]?=some (.cells #[sv] 31 (0,0))
 below:Below w.heap.size w W
def lx(w:World)(bo:Nat)(p:List Pt)(sv:Value)(pre:List (Sd p))(W:World):Prop:=Ex w bo p sv W/\∀s∈pre,KZ p s.1
theorem Ex.own{w:World}{bo:Nat}{p:List Pt}{sv:Value}{W W':World}{row:Option Nat}{B:Nat}(hB:w.heap.size<=B)(h:Ex w bo p sv W)(hg:W.grownBy W' row)(hr:∀r,row=some r→B<=r/\∃o:Obj,W.heap[r]?=some o/\o.isCells=false):Ex w bo p sv W':=by
 have hr':∀r,row=some r→∃o:Obj,W.heap[r]?=some o/\o.isCells=false:=fun r e=>(hr r e).2;obtain⟨v4,h4⟩:=h.c4;obtain⟨v5,h5⟩:=h.c5;obtain⟨v6,h6⟩:=h.c6;obtain⟨A,c,ho,Bi,h1,h2⟩:=h.out;exact⟨⟨v4,Ff hg h4 hr'⟩,⟨v5,Ff hg h5 hr'⟩,⟨v6,Ff hg h6 hr'⟩,⟨A,c,Ff hg ho hr',Bi.keptM hg hr',h1,h2⟩,Ff hg h.box hr',h.below.grown hg h.below.size (fun k e=>Aj9 hB (hr k e).1)⟩
theorem Ex.ext{w:World}{bo:Nat}{p:List Pt}{sv:Value}{W W':World}(h:Ex w bo p sv W)(hx:Ac W W'):Ex w bo p sv W':=by
 obtain⟨v4,h4⟩:=h.c4;obtain⟨v5,h5⟩:=h.c5;obtain⟨v6,h6⟩:=h.c6;obtain⟨A,c,ho,Bi,h1,h2⟩:=h.out;exact⟨⟨v4,(hx.block _ (Ajx h4)).trans h4⟩,⟨v5,(hx.block _ (Ajx h5)).trans h5⟩,⟨v6,(hx.block _ (Ajx h6)).trans h6⟩,⟨A,c,(hx.block _ (Ajx ho)).trans ho,Bi.ext hx,h1,h2⟩,(hx.block _ (Ajx h.box)).trans h.box,h.below.trans (Below.mono hx h.below.size)⟩
theorem Ex.put{w:World}{bo:Nat}{p:List Pt}{sv:Value}{W:World}(h:Ex w bo p sv W)(Cw:w.heap.size+3<=bo){A:Option Addr}{c:Nat}(Bi:Ae W A (flat (Ai p)))(hne:∀x,A=some x→x.block≠bo)(h1:p.length<=c)(h2:c<=9223372036854775807) :
  Ex w bo p sv (W.setCell ⟨bo,0,none⟩ (.slice A p.length c))/\Cj w.heap.size (bo+1) W (W.setCell ⟨bo,0,none⟩ (.slice A p.length c)):=by
 obtain⟨v4,h4⟩:=h.c4;obtain⟨v5,h5⟩:=h.c5;obtain⟨v6,h6⟩:=h.c6;obtain⟨A0,c0,ho,-,-,-⟩:=h.out;have K:∀k,k≠bo→(W.setCell ⟨bo,0,none⟩ (.slice A p.length c)).heap[k]?=W.heap[k]?:=fun k hk=>Below.heap_setCell W _ _ k hk;have hb:=(Below.refl w.heap.size W).setCell (p:=⟨bo,0,none⟩) (by show w.heap.size<=bo;omega) (.slice A p.length c);refine⟨⟨⟨v4,(K _ (by omega)).trans h4⟩,⟨v5,(K _ (by omega)).trans h5⟩,⟨v6,(K _ (by omega)).trans h6⟩,⟨A,c,heap_setCell_box _ ho,⟨fun h0=>?_⟩,h1,h2⟩,(K _ (by omega)).trans h.box,h.below.trans hb⟩,hb,K _ (by omega)⟩;obtain⟨b,o,e,hc⟩:=Bi.ad h0;exact⟨b,o,e,fun j hj=>(World.cell?_of_block (a:=⟨b,o+j,none⟩) (K b (hne _ e))).trans (hc j hj)⟩
def ly(w:World)(c:Code)(W:World):Prop:=c=.ret/\W.heap[w.heap.size]?=some (.cells #[.slice none 0 0] 31 (0,0))/\W.heap[w.heap.size+1]?=some (.cells #[.bool false] 4 (0,0))/\W.heap[w.heap.size+2]?=some (.cells #[.int .i64 0] 36 (0,0))/\Below w.heap.size w W
def Td(p:List Pt)(w:World)(c:Code)(_:List (Sd p))(W:World):Prop:=ly w c W
theorem Td.own{p:List Pt}{w:World}{c:Code}{B:Nat}(hB:w.heap.size<=B):OwnFrom B (Td p w c):=by
 rintro s W W' row ⟨rfl,h4,h5,h6,hb⟩ hg hr;have hr':∀r,row=some r→∃o:Obj,W.heap[r]?=some o/\o.isCells=false:=fun r e=>(hr r e).2;exact⟨rfl,Ff hg h4 hr',Ff hg h5 hr',Ff hg h6 hr',hb.grown hg hb.size (fun k e=>Aj9 hB (hr k e).1)⟩
def mj(w:World)(e:Ending)(w':World):Prop:=e=.returned (.tuple #[.slice none 0 0,.bool false,.int .i64 0])/\Ac w w'
theorem AcI(p q:List Pt)(hp:ML p)(hq:ML q)(OV:∀x∈p,Az 1 x)(RJ:∀x∈q,Az 1 x)(hs:∀k,k<q.length→KZ p (Bz q k)∨J9 p (Bz q k))(AaP:∃k,k<q.length/\J9 p (Bz q k))
  (A B:Option Addr) (c d:Nat) (w:World) (hw:Ao w) (hA:Ae w A (flat (Ai p))) (hB:Ae w B (flat (Ai q))) (hc:p.length<=c) (hc2:c<=9223372036854775807) (hd:q.length<=d) (Gp:d<=9223372036854775807) :
  Calls Tryz.prog 112 #[.slice A p.length c,.slice B q.length d] w (mj w):=by
 have hp3:=hp.n3;have sL:=hp.n60;have sQ:=hq.n3;have AiD:=hq.n60;obtain⟨g,hg⟩:=Agb p q (by omega) RJ hs;have X0:=((((Ac.refl w).alloc (.cells #[.slice none 0 0] 31)).alloc (.cells #[.bool false] 4)).alloc (.cells #[.int .i64 0] 36)).alloc (.cells #[.slice A p.length c,.slice B q.length d] 31);have b0:=Ajy w (.cells #[.slice none 0 0] 31);have b1:=Ajy (w.alloc (.cells #[.slice none 0 0] 31)) (.cells #[.bool false] 4);have b2:=Ajy ((w.alloc (.cells #[.slice none 0 0] 31)).alloc (.cells #[.bool false] 4)) (.cells #[.int .i64 0] 36);have b3:=Ajy (((w.alloc (.cells #[.slice none 0 0] 31)).alloc (.cells #[.bool false] 4)).alloc (.cells #[.int .i64 0] 36)) (.cells #[.slice A p.length c,.slice B q.length d] 31);simp only [Aj6]at b1 b2 b3;have ck:=ud p q hp hq OV RJ A B c d (w.heap.size+1+1+1) _ (hw.ext X0) (hA.ext X0) (hB.ext X0) hc hc2 hd Gp (Aa (o:=0) b3 rfl) (Aa (o:=1) b3 rfl);have B0:=(Below.heap_alloc ((w.alloc (.cells #[.slice none 0 0] 31)).alloc (.cells #[.bool false] 4)) (.cells #[.int .i64 0] 36) w.heap.size (by simp only [Aj6];omega)).trans ((Below.heap_alloc _ _ _ (by simp only [Aj6];omega)).trans b0);have B1:=(Below.heap_alloc ((w.alloc (.cells #[.slice none 0 0] 31)).alloc (.cells #[.bool false] 4)) (.cells #[.int .i64 0] 36) (w.heap.size+1) (by simp only [Aj6];omega)).trans b1;obtain⟨V,hV⟩:=Ajv (((w.alloc (.cells #[.slice none 0 0] 31)).alloc (.cells #[.bool false] 4)).alloc (.cells #[.int .i64 0] 36));have tC:V.heap.size=w.heap.size+3:=(by rw [hV];simp only [Aj6]);rw [←hV]at X0 ck B0 B1 b2;have EV:=(Ac.refl V).alloc (.cells #[.slice A p.length c,.slice B q.length d] 31);refine(callsIn_wide (n:=4)).1 ?_;refine callsIn_of_wp_marks Tryz.func112 rfl trivial ?_ rfl;simp only [Tryz.ntmps112,List.size_toArray,List.length_cons,List.length_nil,Nat.reduceAdd,Nat.reduceSub,Array.replicate_succ,Array.replicate_zero,List.push_toArray,List.append_toArray,List.nil_append,List.cons_append];gi_wp2;refine⟨trivial,?_⟩;rw [←hV];refine(callsIn_wide.2 ck).mono ?_;rintro e w1 ⟨rfl,hx1⟩;have Tl:=X0.trans hx1;have hs1:=(EV.trans hx1).size;have d0:=((EV.trans hx1).block _ (by omega)).trans B0;have d1:=((EV.trans hx1).block _ (by omega)).trans B1;have d2:=((EV.trans hx1).block _ (by omega)).trans b2;have kj:=Ajw tC;have AbX:w.heap.size+3<=w1.heap.size:=(by omega);clear hV tC b0 b1 b2 b3 ck B0 B1 EV hx1 hs1 X0;gi_wp2;refine⟨trivial,?_⟩;refine(xR Fence.wide 3 trivial rfl B q.length d _).mono ?_;rintro e W3 ⟨rfl,rfl⟩;gi_wp2;obtain⟨bo,Cw⟩:=Ajv w1.heap.size;have E2:=((Ac.refl w1).alloc (.cells #[.slice A p.length c] 31)).alloc (.cells #[.slice B q.length d] 31);have g1:=Ajy w1 (.cells #[.slice A p.length c] 31);have g2:=Ajy (w1.alloc (.cells #[.slice A p.length c] 31)) (.cells #[.slice B q.length d] 31);have hs2:((w1.alloc (.cells #[.slice A p.length c] 31)).alloc (.cells #[.slice B q.length d] 31)).heap.size=w1.heap.size+2:=(by simp only [Aj6]);replace g1:=(Below.heap_alloc (w1.alloc (.cells #[.slice A p.length c] 31)) (.cells #[.slice B q.length d] 31) _ (by simp only [Aj6];omega)).trans g1
 rw [Aj6]at g2;rw [←Cw]at g1 g2 ⊢;have hlt:=fun (k:Nat) (o:Obj) (h:w1.heap[k]?=some o)=>(E2.block k (Ajx h)).trans h
 have Hu:Ex w bo p (.slice B q.length d) ((w1.alloc (.cells #[.slice A p.length c] 31)).alloc (.cells #[.slice B q.length d] 31)):=
  ⟨⟨_,hlt _ _ d0⟩,⟨_,hlt _ _ d1⟩,⟨_,hlt _ _ d2⟩,⟨A,c,g1,hA.ext (Tl.trans E2),hc,hc2⟩,g2,Tl.trans E2⟩
 have hxA:=Tl.trans E2;generalize (w1.alloc (.cells #[.slice A p.length c] 31)).alloc (.cells #[.slice B q.length d] 31)=W0 at *;have hs0:bo+2<=W0.heap.size:=(by omega);have AaT:w.heap.size+3<=bo:=(by omega);clear hs2 g1 d0 d1 d2 hlt E2 Tl AbX Cw kj;have C2:=Aa (o:=0) g2 rfl
 refine wpIn_rangeFunc_ownH rfl (by omega) (gf:=272) (lb:=#[.pointer (some ⟨bo+1,0,none⟩)]) rfl trivial (enters_of Tryz.func272 (by kernel_rfl) rfl)
  (xT (fun x:Sd p=>x.1) 3 (by omega) (bo+1) w.heap.size B d q g hg W0 (by omega) (by omega) (by omega) C2 ⟨w,hB,Ajz _,hxA⟩)
  (fun h k=>h.trans k) (Cj.put (by omega) (by omega)) (Below.refl _ _) (fun _=>rfl)
  (lx w bo p (.slice B q.length d)) (Td p w)
  (fun s W W' row h Ns hr'=>⟨Ex.own (by omega) h.1 Ns hr',h.2⟩) (fun _=>Td.own (by omega)) ⟨Hu,fun s hs=>by cases hs⟩
  (fun x a' W=>∃Fw Fx,fU x.1 Fw Fx W/\a' = {tmps:=#[.slice A p.length c,.slice B q.length d,undef,undef,.pointer (some ⟨w.heap.size,0,none⟩),.pointer (some ⟨w.heap.size+1,0,none⟩),.pointer (some ⟨w.heap.size+2,0,none⟩),.int .i64 0,.pointer (some ⟨bo,0,none⟩),.pointer (some ⟨Fw,0,none⟩),.pointer (some ⟨Fx,0,none⟩),.slice A p.length c,.slice B q.length d,.slice (some ⟨w.heap.size+3,0,none⟩) 2 2,.int .i64 0,.int .i64 0,.bool false,undef,.slice A p.length c,.slice B q.length d,.func (.func 272) #[] #[.pointer (some ⟨bo+1,0,none⟩)],Ak x.1.1,Ak x.1.2,undef,undef,undef,undef,undef,undef,undef,undef,undef,undef,undef,undef,undef,undef],defers:=[]})
  ?hAx ?assign ?body ?done ?stop
 case hAx=>rintro x a' s W W' row ⟨Fw,Fx,⟨h1,h2⟩,rfl⟩ Ns hr';exact⟨Fw,Fx,⟨Ff Ns h1 (fun r e=>(hr' r e).2),Ff Ns h2 (fun r e=>(hr' r e).2)⟩,rfl⟩
 case assign=>intro l pre x W K hi hK;have Mo:bo+1<W.heap.size:=Ajx hi.1.box;have e1:=Ajy W (.cells #[S (R x.1.1.x),S (R x.1.1.y)] 27);have e2:=Ajy (W.alloc (.cells #[S (R x.1.1.x),S (R x.1.1.y)] 27)) (.cells #[S (R x.1.2.x),S (R x.1.2.y)] 27);have X:=((Ac.refl W).alloc (.cells #[S (R x.1.1.x),S (R x.1.1.y)] 27)).alloc (.cells #[S (R x.1.2.x),S (R x.1.2.y)] 27);rw [Aj6]at e2;unfold Ak;gi_wp2;exact hK _ _ (KG X) (Cj.of_ext X (by omega) (by omega)) ⟨Ex.ext hi.1 X,hi.2⟩ ⟨_,_,⟨(Below.heap_alloc _ _ _ (by simp only [Aj6];omega)).trans e1,e2⟩,rfl⟩
 case body=>
  rintro l pre x a' W hl AbP ⟨hI,Za⟩ ⟨Fw,Fx,⟨e1,e2⟩,rfl⟩ hlen;obtain⟨z1,z2,hgb⟩:=x.2;obtain⟨A1,c1,ho,Bi,h1,h2⟩:=hI.out;have CS:Ao W:=hw.ext hI.below;have f0:=(cell_of_box ho).1;have f1:=(cell_of_box ho).2;have Mo:bo+1<W.heap.size:=Ajx hI.box
  rcases hgb with hgd|pP
  ·have kp:=uP x.1.1 x.1.2 z1 z2 p OV (by omega) sL (AdR hgd) A1 c1 Fw Fx W CS Bi h1 h2 e1 e2;rw [AcX hgd]at kp;clear e1 e2 ho;gi_wp2;refine⟨trivial,?_⟩;refine(CallsIn.inRound l (callsIn_wide.2 kp)).mono ?_;rintro e W2 ⟨A2,c2,rfl,ID,h3,h4,-,hx2⟩;obtain⟨b2,o2,rfl,hcs⟩:=ID.ad (by rw [flat_length];simp [Ai];omega);have LG:=Ex.ext hI hx2;have g0:=hx2.cellS f0;have gf:W2.frozen? ⟨bo,0,none⟩=false:=(hx2.frozen (p:=⟨bo,0,none⟩) (by show bo<W.heap.size;omega)).trans f1
   have hne:∀y,some (⟨b2,o2,none⟩:Addr)=some y→y.block≠bo:=by
    intro y hy hh
    cases hy;have hh:b2=bo:=hh;subst hh;obtain⟨A0,c0,ho0,-⟩:=LG.out;obtain⟨b3,o3,e3,mP,mQ⟩:=BW ID (show 0<p.length by omega);simp only [Aj3,Addr.mk.injEq,and_true]at e3;obtain⟨rfl,rfl⟩:=e3;have hb3:=rx ho0 mP
    rcases Nat.eq_zero_or_pos (o2+0*2)with h0|h0
    ·rw [h0]at hb3;simp at hb3
    ·rw [Array.getElem?_eq_none (by simp;omega)]at hb3
     cases hb3
   obtain⟨hP,hKp⟩:=LG.put AaT ID hne h3 h4;clear hcs kp;have hq:=fun W=>Lib.run_eql_slice_nil (P:=Tryz.prog) W 31 27 (some (⟨b2,o2,none⟩:Addr)) p.length c2 0 0 Tryz.underlying31;gi_wp2;refine⟨(KG hx2).trans ((KeepsOthers.setCell _ _ _).from _),(Cj.of_ext (Bs:=bo+1) hx2 (by have:=hI.below.size;omega) Mo).trans hKp,hP,?_⟩;intro s hs'
   rcases List.mem_append.1 hs' with h|h
   ·exact Za s h
   ·rw [List.mem_singleton.1 h];exact hgd
  ·have kp:=uP x.1.1 x.1.2 z1 z2 p OV (by omega) sL (AdQ pP) A1 c1 Fw Fx W CS Bi h1 h2 e1 e2;rw [AcW pP]at kp;clear e1 e2 ho;gi_wp2;refine⟨trivial,?_⟩;refine(CallsIn.inRound l (callsIn_wide.2 kp)).mono ?_;rintro e W2 ⟨A2,c2,rfl,ID,h3,h4,hnl,hx2⟩;obtain⟨rfl,rfl⟩:=hnl rfl;obtain⟨v4,k4⟩:=(Ex.ext hI hx2).c4;obtain⟨v5,k5⟩:=(Ex.ext hI hx2).c5;obtain⟨v6,k6⟩:=(Ex.ext hI hx2).c6;have g0:=hx2.cellS f0;have gf:W2.frozen? ⟨bo,0,none⟩=false:=(hx2.frozen (p:=⟨bo,0,none⟩) (by show bo<W.heap.size;omega)).trans f1;obtain⟨m4,n4⟩:=cell_of_box k4;obtain⟨m5,n5⟩:=cell_of_box k5;obtain⟨m6,n6⟩:=cell_of_box k6;have hb2:=hI.below.trans (Below.mono hx2 hI.below.size);have U2:bo≠w.heap.size:=(by omega);have Zs:bo≠w.heap.size+1:=(by omega);have Ia:bo≠w.heap.size+2:=(by omega);clear kp hI;have hq:=fun W=>Lib.run_eql_slice_nil (P:=Tryz.prog) W 31 27 none 0 0 0 0 Tryz.underlying31;gi_wp2;have S0:∀(V:World) (q:Nat) (u:Value) (k:Nat),k≠q→(V.setCell ⟨q,0,none⟩ u).heap[k]?=V.heap[k]?:=fun V q u k hk=>Below.heap_setCell V _ _ k hk;refine⟨(KG hx2).trans (((((KeepsOthers.setCell _ _ _).trans (KeepsOthers.setCell _ _ _)).trans (KeepsOthers.setCell _ _ _)).trans (KeepsOthers.setCell _ _ _)).from _),rfl,?_,?_,?_,?_⟩
   ·rw [S0 _ _ _ _ (by omega),S0 _ _ _ _ (by omega)];exact heap_setCell_box _ ((S0 _ _ _ _ (by omega)).trans k4)
   ·rw [S0 _ _ _ _ (by omega)];exact heap_setCell_box _ ((S0 _ _ _ _ (by omega)).trans ((S0 _ _ _ _ (by omega)).trans k5))
   ·exact heap_setCell_box _ ((S0 _ _ _ _ (by omega)).trans ((S0 _ _ _ _ (by omega)).trans ((S0 _ _ _ _ (by omega)).trans k6)))
   ·exact(((hb2.setCell (p:=⟨bo,0,none⟩) (by show w.heap.size<=bo;omega) _).setCell (p:=⟨w.heap.size,0,none⟩) (Ajz _) _).setCell (p:=⟨w.heap.size+1,0,none⟩) (by show w.heap.size<=w.heap.size+1;omega) _).setCell (p:=⟨w.heap.size+2,0,none⟩) (by show w.heap.size<=w.heap.size+2;omega) _
 case done=>
  rintro D ys W hD rfl ⟨hI,Za⟩ hK
  exfalso
  obtain⟨k,hk,hb⟩:=AaP;have h1:=Za (g k) (List.mem_map_of_mem (List.mem_range.2 hk));rw [hg k hk]at h1;obtain⟨x,hx,h2⟩:=h1.2;exact Rat.not_lt.2 (hb x hx) h2
 case stop=>rintro D cc pre W hD _ ⟨rfl,h4,h5,h6,Km⟩ hK;have m4:=(cell_of_box h4).1;have m5:=(cell_of_box h5).1;have m6:=(cell_of_box h6).1;gi_wp2;refine⟨by simp,.inl ⟨_,_,rfl,run_takeDeferred hK,?_⟩⟩;have K:∀k:Nat,k≠D→(W.putObj D (.deferred none)).heap[k]?=W.heap[k]?:=fun k hk=>World.putObj_heap_other hk;have u4:=(cell_of_box ((K _ (by omega)).trans h4)).1;have u5:=(cell_of_box ((K _ (by omega)).trans h5)).1;have u6:=(cell_of_box ((K _ (by omega)).trans h6)).1;refine⟨.tuple #[.slice none 0 0,.bool false,.int .i64 0],?_,rfl,Km.trans (belowK_b (w:=w) (Ajz _) W D _ _ (by omega) hK rfl rfl)⟩;simp [results,Tryz.f112,go_sem,u4,u5,u6]
end
end Go.Proofs.YtgnejnampofhoaaGreatDoor
