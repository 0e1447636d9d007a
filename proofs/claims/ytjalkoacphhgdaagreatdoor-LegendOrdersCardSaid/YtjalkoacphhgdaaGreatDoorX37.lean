/- X37: BN BO T2. -/
import Derived.Test.YtjalkoacphhgdaaGreatDoorX36
set_option maxRecDepth 100000
set_option maxHeartbeats 8000000
namespace Go.Proofs.YtjalkoacphhgdaaGreatDoor
open Go.RowKit Kl Go.Shelf
section
attribute [local go_sem] Oper.semAt_some
theorem Amk{P:Program}{id k n:Nat}{Q:Exit→Act→World→Prop}{a:Act}{W:World}{l:List Oper}(hm:P.follows .mixedOrders=true)(hB:Region.lexB .any l.toArray=true)(hd:o6 l=true)(hlo:¬LetsOut Q)
  (h:wpQuiet P l.toArray (fun w'=>∃p:Af W,w'=p.w) (fun a'=>∀w',(∃p:Af W,w'=p.w)→Q .normal a' w') l a):(Code.region id l.toArray true).wpIn (Fence.wide.inRound k) n P Q a W:=by
 simp only [Region.lexB,Bool.and_eq_true]at hB;refine wpIn_region_any hm (Aaj (kD hd) hlo _ _ _ _ (wpAny_of_quiet (C:=fun w'=>∃p:Af W,w'=p.w) (Q:=fun a'=>∀w',(∃p:Af W,w'=p.w)→Q .normal a' w') (fun _ w' hw' h=>h w' hw') _ _ _ _ ⟨⟨W.drew,(Aa.refl W).drew⟩,rfl⟩ ?_));have:=wpAnyQ_lex (C:=fun w'=>∃p:Af W,w'=p.w) (md:=.any) hB.1 l 0 (Array.replicate l.toArray.size false) a (by simp) (by simpa using hB.2) h
 simpa using this
theorem AiD(a b p:Pt)(ha:Ar 200 a)(hb:Ar 200 b)(hp:Ar 200 p)(Ba Bb:Nat)(w:World)(hw:Am w)
  (c0:w.cell? ⟨Ba,0,none⟩=some (S (R a.x))) (c1:w.cell? ⟨Ba,1,none⟩=some (S (R a.y))) (c2:w.cell? ⟨Bb,0,none⟩=some (S (R b.x))) (c3:w.cell? ⟨Bb,1,none⟩=some (S (R b.y))) :
  Calls Tryz.prog 184 #[Ak p,.pointer (some ⟨Ba,0,none⟩),.pointer (some ⟨Bb,0,none⟩)] w (Bg (R (Al a b p)) w):=by
 have E:=(Aa.refl w).alloc (.cells #[S (R p.x),S (R p.y)] 92);have AY:=AqJ w (.cells #[S (R p.x),S (R p.y)] 92);have ar:=qY a b p ha hb hp (by omega) (by omega) _ (hw.ext E);replace c0:=E.cellS c0;replace c1:=E.cellS c1;replace c2:=E.cellS c2;replace c3:=E.cellS c3;have c4:=Ab (o:=0) AY rfl;have c5:=Ab (o:=1) AY rfl;unfold Ak S at ar;go_enter Tryz.func184,Tryz.ntmps184;unfold Ak;(go_wp2_with fail);(with_reducible refine ar.mono ?_);rintro e w1 ⟨rfl,hx1⟩;go_wp2;go_ret;exact⟨rfl,E.trans hx1⟩
theorem Aj3(r:Rat):r<0∨r=0∨0<r:=by
 by_cases h:r<0
 ·exact .inl h
 ·by_cases h0:r=0
  ·exact .inr (.inl h0)
  ·exact .inr (.inr ((Rat.le_iff_lt_or_eq.1 (Rat.not_lt.1 h)).resolve_right fun e=>h0 e.symm))
def GI(f:Pt→Rat)(l:List Pt):List Pt:=l.filter (fun p=>decide (0<=f p))
def IK(f:Pt→Rat)(l:List Pt):Bool:=l.any (fun p=>decide (0<f p))
theorem AiP(f:Pt→Rat)(l:List Pt)(p:Pt):GI f (l ++ [p])=GI f l++(if 0<=f p then [p] else []):=by
 unfold GI;rw [List.filter_append];congr 1;simp [List.filter_cons]
theorem AmU(f:Pt→Rat)(l:List Pt)(p:Pt):IK f (l ++ [p])=(IK f l||decide (0<f p)):=by simp [IK]
abbrev Nc(f:Pt→Rat):={s:Pt×Pt // Ar 200 s.1/\Ar 200 s.2/\¬AH (f s.1)*AH (f s.2)<0}
structure Bq(w:World)(fv sv:Value)(ks:List Pt)(sm:Bool)(W:World):Prop where
 out:∃v,W.heap[w.heap.size+1]?=some (.cells #[v] 33 (0,0))/\W.ownsRow w.heap.size 92 2 v ks.length (Fw ks)
 som:W.heap[w.heap.size+2]?=some (.cells #[.bool sm] 4 (0,0))
 fn:W.heap[w.heap.size]?=some (.cells #[fv] 239 (0,0))
 box:W.heap[w.heap.size+3]?=some (.cells #[sv] 33 (0,0))
 below:Below w.heap.size w W
theorem Bq.size{w:World}{fv sv:Value}{ks:List Pt}{sm:Bool}{W:World}(h:Bq w fv sv ks sm W):w.heap.size+4<=W.heap.size:=by
 have:=(Array.getElem?_eq_some_iff.1 h.box).1;omega
theorem Bq.ext{w:World}{fv sv:Value}{ks:List Pt}{sm:Bool}{W W':World}(h:Bq w fv sv ks sm W)(hx:Aa W W'):Bq w fv sv ks sm W':=by
 obtain⟨v,hv,ho⟩:=h.out;have hs:=h.size;exact⟨⟨v,(hx.block _ (by omega)).trans hv,AC ho hx⟩,(hx.block _ (by omega)).trans h.som,(hx.block _ (by omega)).trans h.fn,(hx.block _ (by omega)).trans h.box,h.below.trans (Below.mono hx h.below.size)⟩
theorem Bq.own{w:World}{fv sv:Value}{ks:List Pt}{sm:Bool}{W W':World}{row:Option Nat}{B:Nat}(hB:w.heap.size<=B)(h:Bq w fv sv ks sm W)(hg:W.grownBy W' row)(hr:∀r,row=some r→B<=r/\∃o:Obj,W.heap[r]?=some o/\o.isCells=false):Bq w fv sv ks sm W':=by
 have hr':∀r,row=some r→∃o:Obj,W.heap[r]?=some o/\o.isCells=false:=fun r e=>(hr r e).2;obtain⟨v,hv,ho⟩:=h.out;refine⟨⟨v,D9 hg hv hr',ho.kept hg ?_⟩,D9 hg h.som hr',D9 hg h.fn hr',D9 hg h.box hr',h.below.grown hg h.below.size (fun k e=>AqU hB (hr k e).1)⟩
 rcases ho.2 with⟨rfl,_⟩|⟨g,cap,cur,rfl,_,hgb,_⟩
 ·exact .inl rfl
 ·refine .inr fun e=>?_;obtain⟨o,h1,h2⟩:=hr' g e.symm;rw [hgb]at h1
  cases h1
  cases h2
theorem kY{w:World}{B:Nat}{e:TypeId}{s n:Nat}{v:Value}{xs:List Value}(hs:0<s)(h:w.ownsRow B e s v n xs):∃A c,v=.slice A n c:=by
 obtain⟨A,c,h1,-,-,-⟩:=Ad.of_own' hs h;exact⟨A,c,h1⟩
theorem jX:33≠92:=by decide
theorem oq:4≠92:=by decide
theorem Akj:239≠92:=by decide
theorem Bq.put{w:World}{fv sv:Value}{ks:List Pt}{sm:Bool}{W:World}(h:Bq w fv sv ks sm W)(b:Bool):Bq w fv sv ks b (W.setCell ⟨w.heap.size+2,0,none⟩ (.bool b)):=by
 obtain⟨v,hv,ho⟩:=h.out;have K:∀k,k≠w.heap.size+2→(W.setCell ⟨w.heap.size+2,0,none⟩ (.bool b)).heap[k]?=W.heap[k]?:=fun k hk=>Below.heap_setCell W _ _ k hk;refine⟨⟨v,(K _ (by omega)).trans hv,?_⟩,one_setCell h.som,(K _ (by omega)).trans h.fn,(K _ (by omega)).trans h.box,h.below.setCell (by show w.heap.size<=w.heap.size+2;omega) _⟩;refine ownsRow_setCell_other ho ?_ _;intro e
 rcases ownsRow_ne ho h.som (fun cur e=>by first|cases e|exact oq (Obj.cells.inj e).2.1)with e'|e'
 ·rw [e']at e;cases e
 ·exact e' e
theorem mi{w W:World}(b:Bool):BE w.heap.size (w.heap.size+3) W (W.setCell ⟨w.heap.size+2,0,none⟩ (.bool b)):=
 ⟨(Below.refl _ W).setCell (p:=⟨w.heap.size+2,0,none⟩) (by show w.heap.size<=w.heap.size+2;omega) _,Below.heap_setCell W _ _ _ (by show w.heap.size+3≠w.heap.size+2;omega)⟩
theorem Bq.app{w:World}{fv sv:Value}{ks:List Pt}{sm:Bool}{W w3:World}{v v':Value}{x:Pt}(h:Bq w fv sv ks sm W)(ho:W.ownsRow w.heap.size 92 2 v ks.length (Fw ks))
  (hown:w3.ownsRow w.heap.size 92 2 v' (ks.length+1) (Fw ks ++ [S (R x.x),S (R x.y)])) (hg:W.grownBy w3 v.ownBlock) :
  Bq w fv sv (ks ++ [x]) sm (w3.setCell ⟨w.heap.size+1,0,none⟩ v')/\KeepsOthers W (w3.setCell ⟨w.heap.size+1,0,none⟩ v')/\BE w.heap.size (w.heap.size+3) W (w3.setCell ⟨w.heap.size+1,0,none⟩ v')/\(∃u,w3.cell? ⟨w.heap.size+1,0,none⟩=some u)/\w3.frozen? ⟨w.heap.size+1,0,none⟩=false/\w3.cell? ⟨w.heap.size+2,0,none⟩=some (.bool sm)/\w3.frozen? ⟨w.heap.size+2,0,none⟩=false:=by
 obtain⟨v0,hv,-⟩:=h.out;have hs:=h.size
 have ne_of:∀{j:Nat} {o:Obj},W.heap[j]?=some o→(∀cur,o≠.cells cur 92 (0,0))→some j≠v.ownBlock:=fun hj hno=>by
  rcases ownsRow_ne ho hj hno with e|e
  ·rw [e];simp
  ·exact fun e'=>e e'.symm
 have k1:=(hg.block (w.heap.size+1) (by omega) (ne_of hv (fun cur e=>by first|cases e|exact jX (Obj.cells.inj e).2.1))).trans hv;have k2:=(hg.block (w.heap.size+2) (by omega) (ne_of h.som (fun cur e=>by first|cases e|exact oq (Obj.cells.inj e).2.1))).trans h.som;have k0:=(hg.block (w.heap.size) (by omega) (ne_of h.fn (fun cur e=>by first|cases e|exact Akj (Obj.cells.inj e).2.1))).trans h.fn;have k3:=(hg.block (w.heap.size+3) (by omega) (ne_of h.box (fun cur e=>by first|cases e|exact jX (Obj.cells.inj e).2.1))).trans h.box;have K:∀k,k≠w.heap.size+1→(w3.setCell ⟨w.heap.size+1,0,none⟩ v').heap[k]?=w3.heap[k]?:=fun k hk=>Below.heap_setCell w3 _ _ k hk;have hb3:Below w.heap.size W w3:=(Below.refl _ W).grown hg (by omega) (fun k e=>(ho.lt k e).1);have hb4:=hb3.setCell (p:=⟨w.heap.size+1,0,none⟩) (by show w.heap.size<=w.heap.size+1;omega) v';refine⟨⟨⟨v',heap_setCell_box _ k1,?_⟩,(K _ (by omega)).trans k2,(K _ (by omega)).trans k0,(K _ (by omega)).trans k3,h.below.trans hb4⟩,?_,⟨hb4,(K _ (by omega)).trans (k3.trans h.box.symm)⟩,⟨_,(cell_of_box k1).1⟩,(cell_of_box k1).2,(cell_of_box k2).1,(cell_of_box k2).2⟩
 ·rw [List.length_append,td];refine ownsRow_setCell_other hown ?_ _;intro e
  rcases ownsRow_ne hown k1 (fun cur e=>by first|cases e|exact jX (Obj.cells.inj e).2.1)with e'|e'
  ·rw [e']at e;cases e
  ·exact e' e
 ·refine(KeepsOthers.of_grownBy hg fun j o e hj=>?_).trans (KeepsOthers.setCell _ _ _)
  rcases ho.2 with⟨rfl,_⟩|⟨g,cap,cur,rfl,_,hgb,_⟩
  ·cases e
  ·simp only [Value.ownBlock,AqO]at e;subst e;rw [hgb]at hj
   cases hj
   rfl
def LI(f:Pt→Rat)(l:List Pt):List Pt:=if IK f l=true then GI f l else []
def AbL(l:List Pt)(w:World)(e:Ending)(w':World):Prop:=
 ∃A' c',e=.returned (.slice A' l.length c')/\Ad w' A' (flat (Ao l))/\l.length<=c'/\c'<=9223372036854775807/\(l = []→A'=none/\c'=0)/\Aa w w'
theorem Akg(f:Pt→Rat)(pg:List Pt)(h0:0<pg.length)(hz:∀p∈pg,Ar 200 p)(hcut:∀k,k<pg.length→¬AH (f (B6 pg k).1)*AH (f (B6 pg k).2)<0):∃g:Nat→Nc f,∀k,k<pg.length→(g k).1=B6 pg k:=by
 have hm:∀k,Ar 200 (pg.getD (k%pg.length) ⟨0,0⟩):=fun k=>by have:k%pg.length<pg.length:=Nat.mod_lt _ h0;rw [List.getD_eq_getElem?_getD,AqP this];exact hz _ (AqL this)
 have h2:∀k,k<pg.length→Ar 200 (B6 pg k).1/\Ar 200 (B6 pg k).2/\¬AH (f (B6 pg k).1)*AH (f (B6 pg k).2)<0:=fun k hk=>⟨by have:=hm k;rwa [Nat.mod_eq_of_lt hk]at this,hm (k+1),hcut k hk⟩;exact⟨fun k=>if h:k<pg.length then ⟨B6 pg k,h2 k h⟩else ⟨B6 pg 0,h2 0 h0⟩,fun k hk=>by simp [hk]⟩
theorem Akf{f:Pt→Rat}{pg:List Pt}{g:Nat→Nc f}(hg:∀k,k<pg.length→(g k).1=B6 pg k):(upto g pg.length).map (·.1.1)=pg:=by
 apply List.ext_getElem
 ·simp [upto]
 ·intro k h1 h2;simp only [upto,List.getElem_map,List.getElem_range];rw [hg k h2];simp [B6,List.getD_eq_getElem?_getD,AqP h2]
def ED{f:Pt→Rat}(pre:List (Nc f)):List Pt:=pre.map (fun x=>x.1.1)
def Pk(f:Pt→Rat)(w:World)(fv sv:Value)(pre:List (Nc f))(W:World):Prop:=Bq w fv sv (GI f (ED pre)) (IK f (ED pre)) W
theorem Pk.own{f:Pt→Rat}{w:World}{fv sv:Value}{B:Nat}(hB:w.heap.size<=B):OwnFrom B (Pk f w fv sv):=fun _ _ _ _ h hg hr=>Bq.own hB h hg hr
def pM(x:Pt×Pt)(Ba Bb:Nat)(W:World):Prop:=W.heap[Ba]?=some (.cells #[S (R x.1.x),S (R x.1.y)] 92 (0,0))/\W.heap[Bb]?=some (.cells #[S (R x.2.x),S (R x.2.y)] 92 (0,0))
theorem l9 (a b : Pt) (ha : Ar 200 a) (hb : Ar 200 b) (pg : List Pt) (hz : ∀ p ∈ pg, Ar 200 p) (B8 : 0 < pg.length) (DG : pg.length ≤ 60) (hcut : ∀ k, k < pg.length → ¬ AH (Al a b (B6 pg k).1) * AH (Al a b (B6 pg k).2) < 0)
    (A : Option Addr) (cap : Nat) (Ba Bb : Nat) (w : World) (hw : Am w) (hr : Ad w A (flat (Ao pg))) (_ : pg.length ≤ cap) (_ : cap ≤ 9223372036854775807)
    (bF : w.heap[Ba]? = some (.cells #[S (R a.x), S (R a.y)] 92 (0, 0))) (bH : w.heap[Bb]? = some (.cells #[S (R b.x), S (R b.y)] 92 (0, 0))) :
    Calls Tryz.prog 183 #[.slice A pg.length cap, .func (.func 184) #[] #[.pointer (some ⟨Ba, 0, none⟩), .pointer (some ⟨Bb, 0, none⟩)]] w (AbL (LI (Al a b) pg) w) := by
  obtain ⟨g, hg⟩ := Akg (Al a b) pg B8 hz hcut
  obtain ⟨fv, Na⟩ := AqG (Value.func (.func 184) #[] #[.pointer (some ⟨Ba, 0, none⟩), .pointer (some ⟨Bb, 0, none⟩)])
  obtain ⟨W0, hW0⟩ := AqG ((((w.alloc (.cells #[fv] 239)).alloc (.cells #[.slice none 0 0] 33)).alloc (.cells #[.bool false] 4)).alloc (.cells #[.slice A pg.length cap] 33))
  have hs0 : W0.heap.size = w.heap.size + 4 := by rw [hW0]; simp
  have hx0 : Aa w W0 := by rw [hW0]; exact ((((Aa.refl w).alloc _).alloc _).alloc _).alloc _
  have Iw : Bq w fv (.slice A pg.length cap) [] false W0 := by
    have b0 := AqJ w (.cells #[fv] 239)
    have b1 := AqJ (w.alloc (.cells #[fv] 239)) (.cells #[.slice none 0 0] 33)
    have b2 := AqJ ((w.alloc (.cells #[fv] 239)).alloc (.cells #[.slice none 0 0] 33)) (.cells #[.bool false] 4)
    have b3 := AqJ (((w.alloc (.cells #[fv] 239)).alloc (.cells #[.slice none 0 0] 33)).alloc (.cells #[.bool false] 4)) (.cells #[.slice A pg.length cap] 33)
    simp only [AqR] at b1 b2 b3
    rw [hW0]
    refine ⟨⟨.slice none 0 0, ?_, ⟨rfl, .inl ⟨rfl, rfl⟩⟩⟩, ?_, ?_, b3, hW0 ▸ hx0⟩
    · exact (Below.heap_alloc _ _ _ (by simp only [AqR]; omega)).trans ((Below.heap_alloc _ _ _ (by simp only [AqR]; omega)).trans b1)
    · exact (Below.heap_alloc _ _ _ (by simp only [AqR]; omega)).trans b2
    · exact (Below.heap_alloc _ _ _ (by simp only [AqR]; omega)).trans ((Below.heap_alloc _ _ _ (by simp only [AqR]; omega)).trans ((Below.heap_alloc _ _ _ (by simp only [AqR]; omega)).trans b0))
  rw [Na] at hW0 Iw
  refine (callsIn_wide (n := 4)).1 ?_
  refine callsIn_of_wp_marks Tryz.func183 rfl trivial ?_ rfl
  simp only [Tryz.ntmps183, List.size_toArray, List.length_cons, List.length_nil, Nat.reduceAdd, Nat.reduceSub, Array.replicate_succ, Array.replicate_zero, List.push_toArray, List.append_toArray, List.nil_append, List.cons_append]
  gi_wp2
  refine ⟨trivial, ?_⟩
  refine (uj Fence.wide 3 trivial rfl A pg.length cap _).mono ?_
  rintro e W3 ⟨rfl, rfl⟩
  gi_wp2
  rw [← hW0]
  rw [← Na] at Iw
  have BU := Ab (o := 0) Iw.box rfl
  refine wpIn_rangeFunc_ownH rfl (by omega) (gf := 256) (lb := #[.pointer (some ⟨w.heap.size + 3, 0, none⟩)]) rfl trivial (enters_of Tryz.func256 (by kernel_rfl) rfl)
    (uk (fun x : Nc (Al a b) => x.1) 3 (by omega) (w.heap.size + 3) w.heap.size A cap pg g hg W0 (by omega) (by omega) (by omega) BU ⟨w, hr, AqK _, hx0⟩)
    (fun h k => h.trans k) (BE.put (by omega) (by omega)) (Below.refl _ _) (fun _ => rfl)
    (Pk (Al a b) w fv (.slice A pg.length cap)) (fun _ _ _ => False)
    (Pk.own (by omega)) (fun _ _ _ _ _ hs _ _ => hs) Iw
    (fun x a' W => ∃ FU FV, pM x.1 FU FV W ∧ a' = { tmps := #[.slice A pg.length cap, .func (.func 184) #[] #[.pointer (some ⟨Ba, 0, none⟩), .pointer (some ⟨Bb, 0, none⟩)], undef, .pointer (some ⟨w.heap.size, 0, none⟩), .slice none 0 0, .pointer (some ⟨w.heap.size + 1, 0, none⟩), .pointer (some ⟨w.heap.size + 2, 0, none⟩), .pointer (some ⟨FU, 0, none⟩), .pointer (some ⟨FV, 0, none⟩), undef, undef, undef, undef, .slice A pg.length cap, .func (.func 256) #[] #[.pointer (some ⟨w.heap.size + 3, 0, none⟩)], Ak x.1.1, Ak x.1.2, undef, undef, undef, undef, undef, undef, undef, undef, undef, undef, undef, undef, undef, undef, undef, undef, undef, undef, undef, undef, undef, undef, undef, undef, undef, undef, undef, undef, undef, undef, undef, undef, undef, undef, undef, undef, undef, undef, undef, undef, undef, undef, undef, undef, undef, undef, undef, undef, undef, undef, undef], defers := [] })
    ?hAx ?assign ?body ?done ?stop
  case hAx =>
    rintro x a' s W W' row ⟨FU, FV, ⟨h1, h2⟩, rfl⟩ Dl hr'
    exact ⟨FU, FV, ⟨D9 Dl h1 (fun r e => (hr' r e).2), D9 Dl h2 (fun r e => (hr' r e).2)⟩, rfl⟩
  case assign =>
    intro l pre x W K hi hK
    have hi : Bq w fv (.slice A pg.length cap) (GI (Al a b) (ED pre)) (IK (Al a b) (ED pre)) W := hi
    have Nm := hi.size
    have e1 := AqJ W (.cells #[S (R x.1.1.x), S (R x.1.1.y)] 92)
    have e2 := AqJ (W.alloc (.cells #[S (R x.1.1.x), S (R x.1.1.y)] 92)) (.cells #[S (R x.1.2.x), S (R x.1.2.y)] 92)
    have X := ((Aa.refl W).alloc (.cells #[S (R x.1.1.x), S (R x.1.1.y)] 92)).alloc (.cells #[S (R x.1.2.x), S (R x.1.2.y)] 92)
    rw [AqR] at e2
    unfold Ak
    gi_wp2
    exact hK _ _ (H6 X) (BE.of_ext X (by omega) (by omega)) (hi.ext X) ⟨_, _, ⟨(Below.heap_alloc _ _ _ (by simp only [AqR]; omega)).trans e1, e2⟩, rfl⟩
  case body =>
    rintro l pre x a' W hl AhJ hI ⟨FU, FV, ⟨e1, e2⟩, rfl⟩ hlen
    subst Na
    gi_wp2
    obtain ⟨z1, z2, hno⟩ := x.2
    have hs := Bq.size hI
    have CP : Am W := hw.ext (Bq.below hI)
    have bG := (Below.block (Bq.below hI) _ (AqI bF)).trans bF
    have bI := (Below.block (Bq.below hI) _ (AqI bH)).trans bH
    obtain ⟨p1, p2, Qo, Tr⟩ : ∃ p1 p2, p1 = x.1.1 ∧ p2 = x.1.2 := ⟨_, _, rfl, rfl⟩
    have hpre : ED (pre ++ [x]) = ED pre ++ [p1] := by unfold ED; rw [List.map_append, Qo]; rfl
    rw [← Qo] at z1
    rw [← Tr] at z2
    rw [← Qo, ← Tr] at hno
    have MJ : ∀ W', Pk (Al a b) w (.func (.func 184) #[] #[.pointer (some ⟨Ba, 0, none⟩), .pointer (some ⟨Bb, 0, none⟩)]) (.slice A pg.length cap) (pre ++ [x]) W' ↔ Bq w (.func (.func 184) #[] #[.pointer (some ⟨Ba, 0, none⟩), .pointer (some ⟨Bb, 0, none⟩)]) (.slice A pg.length cap) (GI (Al a b) (ED pre) ++ (if 0 ≤ Al a b p1 then [p1] else [])) (IK (Al a b) (ED pre) || decide (0 < Al a b p1)) W' := fun W' => by unfold Pk; rw [hpre, AiP, AmU]
    have hI : Bq w (.func (.func 184) #[] #[.pointer (some ⟨Ba, 0, none⟩), .pointer (some ⟨Bb, 0, none⟩)]) (.slice A pg.length cap) (GI (Al a b) (ED pre)) (IK (Al a b) (ED pre)) W := hI
    rw [← Qo, ← Tr]
    rw [← Qo] at e1
    rw [← Tr] at e2
    have Cr : (GI (Al a b) (ED pre)).length ≤ 60 := by
      refine AqU (List.length_filter_le _ _) ?_
      unfold ED; rw [List.length_map]; omega
    obtain ⟨ks, EH⟩ := AqG (GI (Al a b) (ED pre))
    obtain ⟨sm, hsm⟩ := AqG (IK (Al a b) (ED pre))
    rw [← EH] at hI Cr MJ
    rw [← hsm] at hI MJ
    have q0 : ∀ q : Af W, q.w.cell? ⟨w.heap.size, 0, none⟩ = some (.func (.func 184) #[] #[.pointer (some ⟨Ba, 0, none⟩), .pointer (some ⟨Bb, 0, none⟩)]) := Af.cell (Ab hI.fn rfl)
    have q1 : ∀ q : Af W, q.w.cell? ⟨FU, 0, none⟩ = some (S (R p1.x)) := Af.cell (Ab e1 rfl)
    have q2 : ∀ q : Af W, q.w.cell? ⟨FU, 1, none⟩ = some (S (R p1.y)) := Af.cell (Ab e1 rfl)
    have q3 : ∀ q : Af W, q.w.cell? ⟨FV, 0, none⟩ = some (S (R p2.x)) := Af.cell (Ab e2 rfl)
    have q4 : ∀ q : Af W, q.w.cell? ⟨FV, 1, none⟩ = some (S (R p2.y)) := Af.cell (Ab e2 rfl)
    have ct := fun (q : Af W) (p : Pt) (hp : Ar 200 p) => AiD a b p ha hb hp Ba Bb q.w (CP.ext q.h) (q.h.cellS (Ab (o := 0) bG rfl)) (q.h.cellS (Ab (o := 1) bG rfl)) (q.h.cellS (Ab (o := 0) bI rfl)) (q.h.cellS (Ab (o := 1) bI rfl))
    have k1 := fun (q : Af W) => ct q p1 z1
    have k2 := fun (q : Af W) => ct q p2 z2
    unfold Ak at k1 k2
    have JE := AqH MJ
    clear ct hpre MJ Qo Tr EH hsm bG bI
    refine Amk (by kernel_rfl) (by kernel_rfl) (by kernel_rfl) (by rintro ⟨_, _, h⟩; exact h) ?_
    repeat (go_big_quiet_step (first | with_reducible exact uV (k1 _) | with_reducible exact uV (k2 _)))
    refine wpQuiet_nil ?_
    rintro W7 ⟨q, hq⟩
    have Aw : Aa W W7 := hq ▸ q.h
    clear hq q q0 q1 q2 q3 q4 k1 k2
    have Ej := Bq.ext hI Aw
    obtain ⟨r1, hr1⟩ := AqG (Al a b p1)
    obtain ⟨r2, hr2⟩ := AqG (Al a b p2)
    rw [← hr1, ← hr2] at hno
    have MJ := JE.out
    rw [← hr1] at MJ
    rw [← hr1, ← hr2]
    have cs1 := fun (V : World) => QN r1 V
    have Vn := fun (V : World) => QN r2 V
    obtain ⟨i0, hi, hz0, hz1, hz2⟩ := info_parts Tryz.infoPt
    have PD := (Aw.block _ (AqI e1)).trans e1
    have hs2 := QR r2
    obtain ⟨s2, jd⟩ := AqG (AH r2)
    rw [← jd] at Vn hno hs2
    have hs7 := Bq.size Ej
    have YL := AqH MJ
    clear JE hr1 hr2 jd MJ e1 e2 hI bF bH z1 z2
    rcases Aj3 r1 with L1 | Km | BW
    · have GE := xm L1
      have Ti : ¬ 0 ≤ r1 := Rat.not_le.2 L1
      have G8 : ¬ 0 < r1 := fun h => Ti (Rat.le_of_lt h)
      rw [GE] at cs1 hno
      have Da : ¬ 0 < s2 := by omega
      gi_wp2
      refine ⟨trivial, ?_⟩
      refine (CallsIn.inRound l (callsIn_wide.2 (cs1 _))).mono ?_
      rintro e W8 ⟨rfl, Bd⟩
      gi_wp2
      refine ⟨trivial, ?_⟩
      refine (CallsIn.inRound l (callsIn_wide.2 (cs1 _))).mono ?_
      rintro e Wa ⟨rfl, AD⟩
      gi_wp2
      refine ⟨trivial, ?_⟩
      refine (CallsIn.inRound l (callsIn_wide.2 (Vn _))).mono ?_
      rintro e Wb ⟨rfl, hxb⟩
      gi_wp2
      have X := (Aw.trans Bd).trans (AD.trans hxb)
      refine ⟨H6 X, BE.of_ext X (by omega) (by omega), (YL.out _).2 ?_⟩
      rw [if_neg Ti, decide_eq_false G8, List.append_nil, Bool.or_false]
      exact Bq.ext Ej (Bd.trans (AD.trans hxb))
    · have GE : AH r1 = 0 := by rw [Km]; rfl
      have hle : 0 ≤ r1 := by rw [Km]; decide
      have Tp : ¬ 0 < r1 := by rw [Km]; decide
      have AX : (R r1 == [48]) = true := by rw [beq_iff_eq]; exact pQ.2 Km
      have By : (R r1 != [48]) = false := by rw [bne, AX]; rfl
      clear Km
      rw [GE] at cs1 hno
      gi_wp2
      refine ⟨trivial, ?_⟩
      refine (CallsIn.inRound l (callsIn_wide.2 (cs1 _))).mono ?_
      rintro e W8 ⟨rfl, Bd⟩
      have Ka := Bq.ext Ej Bd
      have iw := Bq.size Ka
      obtain ⟨v, hv, ho⟩ := Ka.out
      obtain ⟨vA, vc, rfl⟩ := kY (by omega) ho
      have f1 := (cell_of_box hv).1
      have Sf := (Bd.block _ (AqI PD)).trans PD
      have f2 := Ab (o := 0) Sf rfl
      have f3 := Ab (o := 1) Sf rfl
      have X8 := Aw.trans Bd
      clear PD Ej Aw Bd
      cases sm
      all_goals (
        gi_wp2_with (gi_at_builtin; refine wpListIn_append_own _ rfl _ _ 33 rfl w.heap.size 92 i0 (.agg #[S [], S []]) 2 32 Tryz.underlying33 hi hz0 hz1 hz2 rfl (by decide) _ _ _ rfl (ho.alloc _) ⟨W8.heap.size, 0, none⟩ 1 1 [S (R p1.x), S (R p1.y)] rfl rfl (ZP _ _ _ _) (by simp [Value.oneCell']) (by unfold maxLen; omega) (by omega) (by simp; omega) ?_; intro v' w3 hown' hg3 hnil3
                     obtain ⟨SG, dL, dM, ⟨u3, hc3⟩, hf3, hd3, AgR⟩ := Bq.app (x := p1) (Bq.ext Ka ((Aa.refl W8).alloc (.cells #[S (R p1.x), S (R p1.y)] 92))) (ho.alloc _) hown' hg3
                     obtain ⟨g', cap', iL⟩ : ∃ g' cap', v' = .slice (some ⟨g', 0, none⟩) (ks.length + 1) cap' := by
                       rcases hown'.2 with ⟨_, h0⟩ | ⟨g', cap', _, h', _⟩
                       · exact absurd h0 (by omega)
                       · exact ⟨g', cap', h'⟩
                     subst iL
                     clear hown' hg3 hnil3
                     go_frame)
        refine ⟨trivial, ?_⟩
        refine (CallsIn.inRound l (callsIn_wide.2 (cs1 _))).mono ?_
        rintro e Wa ⟨rfl, AD⟩
        gi_wp2
        refine ⟨trivial, ?_⟩
        refine (CallsIn.inRound l (callsIn_wide.2 (Vn _))).mono ?_
        rintro e Wb ⟨rfl, hxb⟩
        gi_wp2
        have hP := fun b => Bq.put SG b
        have hsP := Bq.size SG
        have X := AD.trans hxb
        refine ⟨((H6 (X8.alloc _)).trans ((dL.trans (KeepsOthers.setCell _ _ _)).from _)).trans (H6 X), (((BE.of_ext (Bs := w.heap.size + 3) (X8.alloc _) (by omega) (by omega)).trans dM).trans (mi _)).trans (BE.of_ext X (by rw [World.size_setCell]; omega) (by rw [World.size_setCell]; omega)), (YL.out _).2 ?_⟩
        rw [if_pos hle]
        simp only [decide_eq_false Tp, Bool.or_false]
        exact Bq.ext (hP _) X)
    · have GE := mI BW
      have hle : 0 ≤ r1 := Rat.le_of_lt BW
      have Da : ¬ s2 < 0 := by
        intro h
        rw [GE] at hno
        omega
      have AX : (R r1 == [48]) = false := DR (fun e => by rw [e] at BW; exact absurd BW (by decide))
      have By : (R r1 != [48]) = true := by rw [bne, AX]; rfl
      rw [GE] at cs1 hno
      gi_wp2
      refine ⟨trivial, ?_⟩
      refine (CallsIn.inRound l (callsIn_wide.2 (cs1 _))).mono ?_
      rintro e W8 ⟨rfl, Bd⟩
      have Ka := Bq.ext Ej Bd
      have iw := Bq.size Ka
      obtain ⟨v, hv, ho⟩ := Ka.out
      obtain ⟨vA, vc, rfl⟩ := kY (by omega) ho
      have f1 := (cell_of_box hv).1
      have Sf := (Bd.block _ (AqI PD)).trans PD
      have f2 := Ab (o := 0) Sf rfl
      have f3 := Ab (o := 1) Sf rfl
      have X8 := Aw.trans Bd
      clear PD Ej Aw Bd
      cases sm
      all_goals (
        gi_wp2_with (gi_at_builtin; refine wpListIn_append_own _ rfl _ _ 33 rfl w.heap.size 92 i0 (.agg #[S [], S []]) 2 32 Tryz.underlying33 hi hz0 hz1 hz2 rfl (by decide) _ _ _ rfl (ho.alloc _) ⟨W8.heap.size, 0, none⟩ 1 1 [S (R p1.x), S (R p1.y)] rfl rfl (ZP _ _ _ _) (by simp [Value.oneCell']) (by unfold maxLen; omega) (by omega) (by simp; omega) ?_; intro v' w3 hown' hg3 hnil3
                     obtain ⟨SG, dL, dM, ⟨u3, hc3⟩, hf3, hd3, AgR⟩ := Bq.app (x := p1) (Bq.ext Ka ((Aa.refl W8).alloc (.cells #[S (R p1.x), S (R p1.y)] 92))) (ho.alloc _) hown' hg3
                     obtain ⟨g', cap', iL⟩ : ∃ g' cap', v' = .slice (some ⟨g', 0, none⟩) (ks.length + 1) cap' := by
                       rcases hown'.2 with ⟨_, h0⟩ | ⟨g', cap', _, h', _⟩
                       · exact absurd h0 (by omega)
                       · exact ⟨g', cap', h'⟩
                     subst iL
                     clear hown' hg3 hnil3
                     go_frame)
        refine ⟨trivial, ?_⟩
        refine (CallsIn.inRound l (callsIn_wide.2 (cs1 _))).mono ?_
        rintro e Wa ⟨rfl, AD⟩
        gi_wp2
        refine ⟨trivial, ?_⟩
        refine (CallsIn.inRound l (callsIn_wide.2 (Vn _))).mono ?_
        rintro e Wb ⟨rfl, hxb⟩
        gi_wp2
        have hP := fun b => Bq.put SG b
        have hsP := Bq.size SG
        have X := AD.trans hxb
        refine ⟨((H6 (X8.alloc _)).trans ((dL.trans (KeepsOthers.setCell _ _ _)).from _)).trans (H6 X), (((BE.of_ext (Bs := w.heap.size + 3) (X8.alloc _) (by omega) (by omega)).trans dM).trans (mi _)).trans (BE.of_ext X (by rw [World.size_setCell]; omega) (by rw [World.size_setCell]; omega)), (YL.out _).2 ?_⟩
        rw [if_pos hle]
        simp only [decide_eq_true BW, Bool.or_true]
        exact Bq.ext (hP _) X)
  case done =>
    rintro D ys W hD rfl hI hK
    have hI : Bq w fv (.slice A pg.length cap) (GI (Al a b) (ED (upto g pg.length))) (IK (Al a b) (ED (upto g pg.length))) W := hI
    rw [show ED (upto g pg.length) = pg from Akf hg] at hI
    have iw := Bq.size hI
    obtain ⟨v, hv, ho⟩ := hI.out
    obtain ⟨vA, vc, rfl⟩ := kY (by omega) ho
    have f1 := (cell_of_box hv).1
    have f2 := (cell_of_box hI.som).1
    have Cg := Bq.below hI
    obtain ⟨sm, hsm⟩ := AqG (IK (Al a b) pg)
    rw [← hsm] at f2
    have yP : Aa w (W.putObj D (.deferred none)) := Cg.trans (belowK_b (w := w) (AqK _) W D _ _ (by omega) hK rfl rfl)
    have ho2 := ho.kept (grownBy_putObj W D (.deferred none)) (ownsRow_ne ho hK (fun cur e => by cases e))
    obtain ⟨A2, c2, hv2, Jq, hc1, hc2⟩ := Ad.of_own' (by omega) ho2
    simp only [Value.slice.injEq, true_and] at hv2
    obtain ⟨rfl, rfl⟩ := hv2
    have hk0 : sm = false → LI (Al a b) pg = [] := fun h => by unfold LI; rw [← hsm, h]; rfl
    have BH : sm = true → LI (Al a b) pg = GI (Al a b) pg := fun h => by unfold LI; rw [← hsm, if_pos h]
    have hnil : sm = true → GI (Al a b) pg = [] → vA = none ∧ vc = 0 := fun h e => by
      exfalso
      rw [hsm] at h
      unfold IK at h
      rw [List.any_eq_true] at h
      obtain ⟨p, hp, h⟩ := h
      have : p ∈ GI (Al a b) pg := List.mem_filter.2 ⟨hp, decide_eq_true (Rat.le_of_lt (of_decide_eq_true h))⟩
      rw [e] at this
      cases this
    clear hI hsm
    cases sm
    · gi_wp2
      refine ⟨by simp, .inl ⟨_, _, rfl, run_takeDeferred hK, ?_⟩⟩
      refine ⟨_, results_tmp rfl _ _ _, ?_⟩
      exact ⟨none, 0, rfl, ⟨fun h => by simp [flat, Ao] at h⟩, AqK _, by omega, fun _ => ⟨rfl, rfl⟩, yP⟩
    · gi_wp2
      refine ⟨by simp, .inl ⟨_, _, rfl, run_takeDeferred hK, ?_⟩⟩
      refine ⟨_, results_tmp rfl _ _ _, ?_⟩
      exact ⟨vA, vc, rfl, Jq, hc1, hc2, hnil trivial, yP⟩
  case stop =>
    rintro D c pre W _ _ h _
    exact h.elim
end
section
attribute [local go_sem] Oper.semAt_some
theorem Adu(p q:List Pt)(hp:NP p)(hq:NP q)(Nw:∀x∈p,Ar 200 x)(TF:∀x∈q,Ar 200 x)(A B:Option Addr)(c d blk:Nat)(w:World)(hw:Am w)
  (hA:Ad w A (flat (Ao p))) (hB:Ad w B (flat (Ao q))) (hc:p.length<=c) (hc2:c<=9223372036854775807) (hd:q.length<=d) (BV:d<=9223372036854775807)
  (c0:w.cell? ⟨blk,0,none⟩=some (.slice A p.length c)) (c1:w.cell? ⟨blk,1,none⟩=some (.slice B q.length d)) :
  Calls Tryz.prog 181 #[.slice (some ⟨blk,0,none⟩) 2 2] w (Ax 0 w):=by
 have k1:=fun (W:World) (hx:Aa w W)=>lE p hp Nw (by omega) (by omega) A c W (hw.ext hx) (hA.ext hx) hc hc2;have k2:=fun (W:World) (hx:Aa w W)=>lE q hq TF (by omega) (by omega) B d W (hw.ext hx) (hB.ext hx) hd BV;clear hp hq Nw TF hA hB;go_enter Tryz.func181,Tryz.ntmps181;go_wp2
 go_loopw [8] (fun i wr=>(i=.int .i64 0∨i=.int .i64 1∨i=.int .i64 2)/\Aa w wr) (fun i _=>2-(intOf i).toNat)
 case atStart=>exact⟨.inl rfl,Aa.refl _⟩
 case round=>
  obtain⟨h,hx⟩:=hrel;have d0:=hx.cellS c0;have d1:=hx.cellS c1
  rcases h with rfl|rfl|rfl
  ·have k:=k1 wr hx;clear k1 k2 c0 c1;(go_wp2_with fail);(with_reducible refine k.mono ?_);rintro e w2 ⟨rfl,hx2⟩;go_wp2;go_roundw
   case rel=>exact⟨.inr (.inl rfl),hx.trans hx2⟩
   case measure=>simp [intOf]
  ·have k:=k2 wr hx;clear k1 k2 c0 c1;(go_wp2_with fail);(with_reducible refine k.mono ?_);rintro e w2 ⟨rfl,hx2⟩;go_wp2;go_roundw
   case rel=>exact⟨.inr (.inr rfl),hx.trans hx2⟩
   case measure=>simp [intOf]
  ·clear k1 k2 c0 c1;go_wp2;go_ret;exact⟨rfl,hx⟩
theorem Ad.keptM{W W':World}{row:Option Nat}{A:Option Addr}{cs:List Value}(h:Ad W A cs)(hg:W.grownBy W' row)(hr:∀r,row=some r→∃o:Obj,W.heap[r]?=some o/\o.isCells=false):Ad W' A cs:=
 ⟨fun h0=>by
  obtain⟨b,o,e,hc⟩:=h.ad h0
  exact⟨b,o,e,fun j hj=>cell_kept (hc j hj) hg hr⟩⟩
def LY(p:List Pt)(s:Pt×Pt):Prop:=(∀x∈p,0<=Al s.1 s.2 x)/\∃x∈p,0<Al s.1 s.2 x
def Kx(p:List Pt)(s:Pt×Pt):Prop:=∀x∈p,Al s.1 s.2 x<=0
abbrev Sd(p:List Pt):={s:Pt×Pt // Ar 200 s.1/\Ar 200 s.2/\(LY p s∨Kx p s)}
theorem AmG(p q:List Pt)(h0:0<q.length)(hz:∀x∈q,Ar 200 x)(hs:∀k,k<q.length→LY p (B6 q k)∨Kx p (B6 q k)):∃g:Nat→Sd p,∀k,k<q.length→(g k).1=B6 q k:=by
 have hm:∀k,Ar 200 (q.getD (k%q.length) ⟨0,0⟩):=fun k=>by have:k%q.length<q.length:=Nat.mod_lt _ h0;rw [List.getD_eq_getElem?_getD,AqP this];exact hz _ (AqL this)
 have h2:∀k,k<q.length→Ar 200 (B6 q k).1/\Ar 200 (B6 q k).2/\(LY p (B6 q k)∨Kx p (B6 q k)):=fun k hk=>⟨by have:=hm k;rwa [Nat.mod_eq_of_lt hk]at this,hm (k+1),hs k hk⟩;exact⟨fun k=>if h:k<q.length then ⟨B6 q k,h2 k h⟩else ⟨B6 q 0,h2 0 h0⟩,fun k hk=>by simp [hk]⟩
theorem Ys{p:List Pt}{k:Nat}(hk:k<p.length):(B6 p k).1∈p/\(B6 p k).2∈p:=by
 have h2:(k+1)%p.length<p.length:=Nat.mod_lt _ (by omega);unfold B6;rw [List.getD_eq_getElem?_getD,AqP hk,List.getD_eq_getElem?_getD,AqP h2];exact⟨AqL hk,AqL h2⟩
theorem xo{r:Rat}(h:0<=r):0<=AH r:=by
 unfold AH;rw [if_neg (Rat.not_lt.2 h)];split<;>omega
theorem xp{r:Rat}(h:r<=0):AH r<=0:=by
 unfold AH;by_cases h0:r=0
 ·rw [if_pos h0];omega
 ·rw [if_neg h0,if_pos ((Rat.le_iff_lt_or_eq.1 h).resolve_right h0)];omega
theorem AiJ{p:List Pt}{s:Pt×Pt}(h:LY p s):LI (Al s.1 s.2) p=p:=by
 unfold LI;rw [if_pos]
 ·exact List.filter_eq_self.2 fun x hx=>decide_eq_true (h.1 x hx)
 ·obtain⟨x,hx,h0⟩:=h.2;exact List.any_eq_true.2 ⟨x,hx,decide_eq_true h0⟩
theorem AiI{p:List Pt}{s:Pt×Pt}(h:Kx p s):LI (Al s.1 s.2) p = []:=by
 unfold LI;rw [if_neg];intro h2;obtain⟨x,hx,h0⟩:=List.any_eq_true.1 h2;exact Rat.not_lt.2 (h x hx) (of_decide_eq_true h0)
theorem Akp{p:List Pt}{s:Pt×Pt}(h:LY p s):∀k,k<p.length→¬AH (Al s.1 s.2 (B6 p k).1)*AH (Al s.1 s.2 (B6 p k).2)<0:=fun k hk=>by
 have h1:=xo (h.1 _ (Ys hk).1);have h2:=xo (h.1 _ (Ys hk).2);exact Int.not_lt.2 (Int.mul_nonneg h1 h2)
theorem Ako{p:List Pt}{s:Pt×Pt}(h:Kx p s):∀k,k<p.length→¬AH (Al s.1 s.2 (B6 p k).1)*AH (Al s.1 s.2 (B6 p k).2)<0:=fun k hk=>by
 have h1:=xp (h _ (Ys hk).1);have h2:=xp (h _ (Ys hk).2);exact Int.not_lt.2 (Int.mul_nonneg_of_nonpos_of_nonpos h1 h2)
theorem AcS{w:World}{b o:Nat}{cs:Array Value}{t:TypeId}{fz:Nat×Nat}{v:Value}(h:w.heap[b]?=some (.cells cs t fz))(hc:w.cell? ⟨b,o,none⟩=some v):cs[o]?=some v:=by
 cases e:cs[o]? with
 | some u=>
  have h2:=hc;simp [World.cell?,h,e]at h2;rw [←h2]
 | none=>simp [World.cell?,h,e]at hc
structure EU(w:World)(bo:Nat)(p:List Pt)(sv:Value)(W:World):Prop where
 c4:∃v,W.heap[w.heap.size]?=some (.cells #[v] 33 (0,0))
 c5:∃v,W.heap[w.heap.size+1]?=some (.cells #[v] 4 (0,0))
 c6:∃v,W.heap[w.heap.size+2]?=some (.cells #[v] 27 (0,0))
 out:∃A c,W.heap[bo]?=some (.cells #[.slice A p.length c] 33 (0,0))/\Ad W A (flat (Ao p))/\p.length<=c/\c<=9223372036854775807
 box:W.heap[bo+1]?=some (.cells #[sv] 33 (0,0))
 below:Below w.heap.size w W
def InJ(w:World)(bo:Nat)(p:List Pt)(sv:Value)(pre:List (Sd p))(W:World):Prop:=EU w bo p sv W/\∀s∈pre,LY p s.1
theorem EU.own{w:World}{bo:Nat}{p:List Pt}{sv:Value}{W W':World}{row:Option Nat}{B:Nat}(hB:w.heap.size<=B)(h:EU w bo p sv W)(hg:W.grownBy W' row)(hr:∀r,row=some r→B<=r/\∃o:Obj,W.heap[r]?=some o/\o.isCells=false):EU w bo p sv W':=by
 have hr':∀r,row=some r→∃o:Obj,W.heap[r]?=some o/\o.isCells=false:=fun r e=>(hr r e).2;obtain⟨v4,h4⟩:=h.c4;obtain⟨v5,h5⟩:=h.c5;obtain⟨v6,h6⟩:=h.c6;obtain⟨A,c,ho,AN,h1,h2⟩:=h.out;exact⟨⟨v4,D9 hg h4 hr'⟩,⟨v5,D9 hg h5 hr'⟩,⟨v6,D9 hg h6 hr'⟩,⟨A,c,D9 hg ho hr',AN.keptM hg hr',h1,h2⟩,D9 hg h.box hr',h.below.grown hg h.below.size (fun k e=>AqU hB (hr k e).1)⟩
theorem EU.ext{w:World}{bo:Nat}{p:List Pt}{sv:Value}{W W':World}(h:EU w bo p sv W)(hx:Aa W W'):EU w bo p sv W':=by
 obtain⟨v4,h4⟩:=h.c4;obtain⟨v5,h5⟩:=h.c5;obtain⟨v6,h6⟩:=h.c6;obtain⟨A,c,ho,AN,h1,h2⟩:=h.out;exact⟨⟨v4,(hx.block _ (AqI h4)).trans h4⟩,⟨v5,(hx.block _ (AqI h5)).trans h5⟩,⟨v6,(hx.block _ (AqI h6)).trans h6⟩,⟨A,c,(hx.block _ (AqI ho)).trans ho,AN.ext hx,h1,h2⟩,(hx.block _ (AqI h.box)).trans h.box,h.below.trans (Below.mono hx h.below.size)⟩
theorem EU.put{w:World}{bo:Nat}{p:List Pt}{sv:Value}{W:World}(h:EU w bo p sv W)(Lk:w.heap.size+3<=bo){A:Option Addr}{c:Nat}(AN:Ad W A (flat (Ao p)))(hne:∀x,A=some x→x.block≠bo)(h1:p.length<=c)(h2:c<=9223372036854775807) :
  EU w bo p sv (W.setCell ⟨bo,0,none⟩ (.slice A p.length c))/\BE w.heap.size (bo+1) W (W.setCell ⟨bo,0,none⟩ (.slice A p.length c)):=by
 obtain⟨v4,h4⟩:=h.c4;obtain⟨v5,h5⟩:=h.c5;obtain⟨v6,h6⟩:=h.c6;obtain⟨A0,c0,ho,-,-,-⟩:=h.out;have K:∀k,k≠bo→(W.setCell ⟨bo,0,none⟩ (.slice A p.length c)).heap[k]?=W.heap[k]?:=fun k hk=>Below.heap_setCell W _ _ k hk;have hb:=(Below.refl w.heap.size W).setCell (p:=⟨bo,0,none⟩) (by show w.heap.size<=bo;omega) (.slice A p.length c);refine⟨⟨⟨v4,(K _ (by omega)).trans h4⟩,⟨v5,(K _ (by omega)).trans h5⟩,⟨v6,(K _ (by omega)).trans h6⟩,⟨A,c,heap_setCell_box _ ho,⟨fun h0=>?_⟩,h1,h2⟩,(K _ (by omega)).trans h.box,h.below.trans hb⟩,hb,K _ (by omega)⟩;obtain⟨b,o,e,hc⟩:=AN.ad h0;exact⟨b,o,e,fun j hj=>(World.cell?_of_block (a:=⟨b,o+j,none⟩) (K b (hne _ e))).trans (hc j hj)⟩
def InX(w:World)(c:Code)(W:World):Prop:=c=.ret/\W.heap[w.heap.size]?=some (.cells #[.slice none 0 0] 33 (0,0))/\W.heap[w.heap.size+1]?=some (.cells #[.bool false] 4 (0,0))/\W.heap[w.heap.size+2]?=some (.cells #[.int .i64 0] 27 (0,0))/\Below w.heap.size w W
def UL(p:List Pt)(w:World)(c:Code)(_:List (Sd p))(W:World):Prop:=InX w c W
theorem UL.own{p:List Pt}{w:World}{c:Code}{B:Nat}(hB:w.heap.size<=B):OwnFrom B (UL p w c):=by
 rintro s W W' row ⟨rfl,h4,h5,h6,hb⟩ hg hr;have hr':∀r,row=some r→∃o:Obj,W.heap[r]?=some o/\o.isCells=false:=fun r e=>(hr r e).2;exact⟨rfl,D9 hg h4 hr',D9 hg h5 hr',D9 hg h6 hr',hb.grown hg hb.size (fun k e=>AqU hB (hr k e).1)⟩
def AbN(w:World)(e:Ending)(w':World):Prop:=e=.returned (.tuple #[.slice none 0 0,.bool false,.int .i64 0])/\Aa w w'
theorem AiE(p q:List Pt)(hp:NP p)(hq:NP q)(Nw:∀x∈p,Ar 200 x)(TF:∀x∈q,Ar 200 x)(hs:∀k,k<q.length→LY p (B6 q k)∨Kx p (B6 q k))(Ag2:∃k,k<q.length/\Kx p (B6 q k))
  (A B:Option Addr) (c d:Nat) (w:World) (hw:Am w) (hA:Ad w A (flat (Ao p))) (hB:Ad w B (flat (Ao q))) (hc:p.length<=c) (hc2:c<=9223372036854775807) (hd:q.length<=d) (BV:d<=9223372036854775807) :
  Calls Tryz.prog 102 #[.slice A p.length c,.slice B q.length d] w (AbN w):=by
 have gC:=hp.n3;have fj:=hp.n60;have Tt:=hq.n3;have Aqd:=hq.n60;obtain⟨g,hg⟩:=AmG p q (by omega) TF hs;have X0:=((((Aa.refl w).alloc (.cells #[.slice none 0 0] 33)).alloc (.cells #[.bool false] 4)).alloc (.cells #[.int .i64 0] 27)).alloc (.cells #[.slice A p.length c,.slice B q.length d] 33);have b0:=AqJ w (.cells #[.slice none 0 0] 33);have b1:=AqJ (w.alloc (.cells #[.slice none 0 0] 33)) (.cells #[.bool false] 4);have b2:=AqJ ((w.alloc (.cells #[.slice none 0 0] 33)).alloc (.cells #[.bool false] 4)) (.cells #[.int .i64 0] 27);have b3:=AqJ (((w.alloc (.cells #[.slice none 0 0] 33)).alloc (.cells #[.bool false] 4)).alloc (.cells #[.int .i64 0] 27)) (.cells #[.slice A p.length c,.slice B q.length d] 33);simp only [AqR]at b1 b2 b3;have ck:=Adu p q hp hq Nw TF A B c d (w.heap.size+1+1+1) _ (hw.ext X0) (hA.ext X0) (hB.ext X0) hc hc2 hd BV (Ab (o:=0) b3 rfl) (Ab (o:=1) b3 rfl);have B0:=(Below.heap_alloc ((w.alloc (.cells #[.slice none 0 0] 33)).alloc (.cells #[.bool false] 4)) (.cells #[.int .i64 0] 27) w.heap.size (by simp only [AqR];omega)).trans ((Below.heap_alloc _ _ _ (by simp only [AqR];omega)).trans b0);have B1:=(Below.heap_alloc ((w.alloc (.cells #[.slice none 0 0] 33)).alloc (.cells #[.bool false] 4)) (.cells #[.int .i64 0] 27) (w.heap.size+1) (by simp only [AqR];omega)).trans b1;obtain⟨V,hV⟩:=AqG (((w.alloc (.cells #[.slice none 0 0] 33)).alloc (.cells #[.bool false] 4)).alloc (.cells #[.int .i64 0] 27));have iz:V.heap.size=w.heap.size+3:=(by rw [hV];simp only [AqR]);rw [←hV]at X0 ck B0 B1 b2;have EV:=(Aa.refl V).alloc (.cells #[.slice A p.length c,.slice B q.length d] 33);refine(callsIn_wide (n:=4)).1 ?_;refine callsIn_of_wp_marks Tryz.func102 rfl trivial ?_ rfl;simp only [Tryz.ntmps102,List.size_toArray,List.length_cons,List.length_nil,Nat.reduceAdd,Nat.reduceSub,Array.replicate_succ,Array.replicate_zero,List.push_toArray,List.append_toArray,List.nil_append,List.cons_append];gi_wp2;refine⟨trivial,?_⟩;rw [←hV];refine(callsIn_wide.2 ck).mono ?_;rintro e w1 ⟨rfl,hx1⟩;have US:=X0.trans hx1;have hs1:=(EV.trans hx1).size;have d0:=((EV.trans hx1).block _ (by omega)).trans B0;have d1:=((EV.trans hx1).block _ (by omega)).trans B1;have d2:=((EV.trans hx1).block _ (by omega)).trans b2;have HSV:=AqH iz;have AhV:w.heap.size+3<=w1.heap.size:=(by omega);clear hV iz b0 b1 b2 b3 ck B0 B1 EV hx1 hs1 X0;gi_wp2;refine⟨trivial,?_⟩;refine(uj Fence.wide 3 trivial rfl B q.length d _).mono ?_;rintro e W3 ⟨rfl,rfl⟩;gi_wp2;obtain⟨bo,Lk⟩:=AqG w1.heap.size;have E2:=((Aa.refl w1).alloc (.cells #[.slice A p.length c] 33)).alloc (.cells #[.slice B q.length d] 33);have g1:=AqJ w1 (.cells #[.slice A p.length c] 33);have g2:=AqJ (w1.alloc (.cells #[.slice A p.length c] 33)) (.cells #[.slice B q.length d] 33);have hs2:((w1.alloc (.cells #[.slice A p.length c] 33)).alloc (.cells #[.slice B q.length d] 33)).heap.size=w1.heap.size+2:=(by simp only [AqR]);replace g1:=(Below.heap_alloc (w1.alloc (.cells #[.slice A p.length c] 33)) (.cells #[.slice B q.length d] 33) _ (by simp only [AqR];omega)).trans g1
 rw [AqR]at g2;rw [←Lk]at g1 g2 ⊢;have hlt:=fun (k:Nat) (o:Obj) (h:w1.heap[k]?=some o)=>(E2.block k (AqI h)).trans h
 have Iw:EU w bo p (.slice B q.length d) ((w1.alloc (.cells #[.slice A p.length c] 33)).alloc (.cells #[.slice B q.length d] 33)):=
  ⟨⟨_,hlt _ _ d0⟩,⟨_,hlt _ _ d1⟩,⟨_,hlt _ _ d2⟩,⟨A,c,g1,hA.ext (US.trans E2),hc,hc2⟩,g2,US.trans E2⟩
 have Xk:=US.trans E2;generalize (w1.alloc (.cells #[.slice A p.length c] 33)).alloc (.cells #[.slice B q.length d] 33)=W0 at *;have hs0:bo+2<=W0.heap.size:=(by omega);have Ag6:w.heap.size+3<=bo:=(by omega);clear hs2 g1 d0 d1 d2 hlt E2 US AhV Lk HSV;have BU:=Ab (o:=0) g2 rfl
 refine wpIn_rangeFunc_ownH rfl (by omega) (gf:=256) (lb:=#[.pointer (some ⟨bo+1,0,none⟩)]) rfl trivial (enters_of Tryz.func256 (by kernel_rfl) rfl)
  (uk (fun x:Sd p=>x.1) 3 (by omega) (bo+1) w.heap.size B d q g hg W0 (by omega) (by omega) (by omega) BU ⟨w,hB,AqK _,Xk⟩)
  (fun h k=>h.trans k) (BE.put (by omega) (by omega)) (Below.refl _ _) (fun _=>rfl)
  (InJ w bo p (.slice B q.length d)) (UL p w)
  (fun s W W' row h Dl hr'=>⟨EU.own (by omega) h.1 Dl hr',h.2⟩) (fun _=>UL.own (by omega)) ⟨Iw,fun s hs=>by cases hs⟩
  (fun x a' W=>∃FU FV,pM x.1 FU FV W/\a' = {tmps:=#[.slice A p.length c,.slice B q.length d,undef,undef,.pointer (some ⟨w.heap.size,0,none⟩),.pointer (some ⟨w.heap.size+1,0,none⟩),.pointer (some ⟨w.heap.size+2,0,none⟩),.int .i64 0,.pointer (some ⟨bo,0,none⟩),.pointer (some ⟨FU,0,none⟩),.pointer (some ⟨FV,0,none⟩),.slice A p.length c,.slice B q.length d,.slice (some ⟨w.heap.size+3,0,none⟩) 2 2,.int .i64 0,.int .i64 0,.bool false,undef,.slice A p.length c,.slice B q.length d,.func (.func 256) #[] #[.pointer (some ⟨bo+1,0,none⟩)],Ak x.1.1,Ak x.1.2,undef,undef,undef,undef,undef,undef,undef,undef,undef,undef,undef,undef,undef,undef],defers:=[]})
  ?hAx ?assign ?body ?done ?stop
 case hAx=>rintro x a' s W W' row ⟨FU,FV,⟨h1,h2⟩,rfl⟩ Dl hr';exact⟨FU,FV,⟨D9 Dl h1 (fun r e=>(hr' r e).2),D9 Dl h2 (fun r e=>(hr' r e).2)⟩,rfl⟩
 case assign=>intro l pre x W K hi hK;have Nm:bo+1<W.heap.size:=AqI hi.1.box;have e1:=AqJ W (.cells #[S (R x.1.1.x),S (R x.1.1.y)] 92);have e2:=AqJ (W.alloc (.cells #[S (R x.1.1.x),S (R x.1.1.y)] 92)) (.cells #[S (R x.1.2.x),S (R x.1.2.y)] 92);have X:=((Aa.refl W).alloc (.cells #[S (R x.1.1.x),S (R x.1.1.y)] 92)).alloc (.cells #[S (R x.1.2.x),S (R x.1.2.y)] 92);rw [AqR]at e2;unfold Ak;gi_wp2;exact hK _ _ (H6 X) (BE.of_ext X (by omega) (by omega)) ⟨EU.ext hi.1 X,hi.2⟩ ⟨_,_,⟨(Below.heap_alloc _ _ _ (by simp only [AqR];omega)).trans e1,e2⟩,rfl⟩
 case body=>
  rintro l pre x a' W hl AhJ ⟨hI,Hx⟩ ⟨FU,FV,⟨e1,e2⟩,rfl⟩ hlen;obtain⟨z1,z2,hgb⟩:=x.2;obtain⟨A1,c1,ho,AN,h1,h2⟩:=hI.out;have CP:Am W:=hw.ext hI.below;have f0:=(cell_of_box ho).1;have f1:=(cell_of_box ho).2;have Nm:bo+1<W.heap.size:=AqI hI.box
  rcases hgb with hgd|yN
  ·have kp:=l9 x.1.1 x.1.2 z1 z2 p Nw (by omega) fj (Akp hgd) A1 c1 FU FV W CP AN h1 h2 e1 e2;rw [AiJ hgd]at kp;clear e1 e2 ho;gi_wp2;refine⟨trivial,?_⟩;refine(CallsIn.inRound l (callsIn_wide.2 kp)).mono ?_;rintro e W2 ⟨A2,c2,rfl,Jq,h3,h4,-,hx2⟩;obtain⟨b2,o2,rfl,hcs⟩:=Jq.ad (by rw [flat_length];simp [Ao];omega);have MH:=EU.ext hI hx2;have g0:=hx2.cellS f0;have gf:W2.frozen? ⟨bo,0,none⟩=false:=(hx2.frozen (p:=⟨bo,0,none⟩) (by show bo<W.heap.size;omega)).trans f1
   have hne:∀y,some (⟨b2,o2,none⟩:Addr)=some y→y.block≠bo:=by
    intro y hy hh
    cases hy;have hh:b2=bo:=hh;subst hh;obtain⟨A0,c0,ho0,-⟩:=MH.out;obtain⟨b3,o3,e3,V8,V9⟩:=C2 Jq (show 0<p.length by omega);simp only [AqO,Addr.mk.injEq,and_true]at e3;obtain⟨rfl,rfl⟩:=e3;have hb3:=AcS ho0 V8
    rcases Nat.eq_zero_or_pos (o2+0*2)with h0|h0
    ·rw [h0]at hb3;simp at hb3
    ·rw [Array.getElem?_eq_none (by simp;omega)]at hb3
     cases hb3
   obtain⟨hP,hKp⟩:=MH.put Ag6 Jq hne h3 h4;clear hcs kp;have hq:=fun W=>Lib.run_eql_slice_nil (P:=Tryz.prog) W 33 92 (some (⟨b2,o2,none⟩:Addr)) p.length c2 0 0 Tryz.underlying33;gi_wp2;refine⟨(H6 hx2).trans ((KeepsOthers.setCell _ _ _).from _),(BE.of_ext (Bs:=bo+1) hx2 (by have:=hI.below.size;omega) Nm).trans hKp,hP,?_⟩;intro s hs'
   rcases List.mem_append.1 hs' with h|h
   ·exact Hx s h
   ·rw [List.mem_singleton.1 h];exact hgd
  ·have kp:=l9 x.1.1 x.1.2 z1 z2 p Nw (by omega) fj (Ako yN) A1 c1 FU FV W CP AN h1 h2 e1 e2;rw [AiI yN]at kp;clear e1 e2 ho;gi_wp2;refine⟨trivial,?_⟩;refine(CallsIn.inRound l (callsIn_wide.2 kp)).mono ?_;rintro e W2 ⟨A2,c2,rfl,Jq,h3,h4,hnl,hx2⟩;obtain⟨rfl,rfl⟩:=hnl rfl;obtain⟨v4,k4⟩:=(EU.ext hI hx2).c4;obtain⟨v5,k5⟩:=(EU.ext hI hx2).c5;obtain⟨v6,k6⟩:=(EU.ext hI hx2).c6;have g0:=hx2.cellS f0;have gf:W2.frozen? ⟨bo,0,none⟩=false:=(hx2.frozen (p:=⟨bo,0,none⟩) (by show bo<W.heap.size;omega)).trans f1;obtain⟨m4,n4⟩:=cell_of_box k4;obtain⟨m5,n5⟩:=cell_of_box k5;obtain⟨m6,n6⟩:=cell_of_box k6;have hb2:=hI.below.trans (Below.mono hx2 hI.below.size);have WR:bo≠w.heap.size:=(by omega);have fP:bo≠w.heap.size+1:=(by omega);have Fp:bo≠w.heap.size+2:=(by omega);clear kp hI;have hq:=fun W=>Lib.run_eql_slice_nil (P:=Tryz.prog) W 33 92 none 0 0 0 0 Tryz.underlying33;gi_wp2;have S0:∀(V:World) (q:Nat) (u:Value) (k:Nat),k≠q→(V.setCell ⟨q,0,none⟩ u).heap[k]?=V.heap[k]?:=fun V q u k hk=>Below.heap_setCell V _ _ k hk;refine⟨(H6 hx2).trans (((((KeepsOthers.setCell _ _ _).trans (KeepsOthers.setCell _ _ _)).trans (KeepsOthers.setCell _ _ _)).trans (KeepsOthers.setCell _ _ _)).from _),rfl,?_,?_,?_,?_⟩
   ·rw [S0 _ _ _ _ (by omega),S0 _ _ _ _ (by omega)];exact heap_setCell_box _ ((S0 _ _ _ _ (by omega)).trans k4)
   ·rw [S0 _ _ _ _ (by omega)];exact heap_setCell_box _ ((S0 _ _ _ _ (by omega)).trans ((S0 _ _ _ _ (by omega)).trans k5))
   ·exact heap_setCell_box _ ((S0 _ _ _ _ (by omega)).trans ((S0 _ _ _ _ (by omega)).trans ((S0 _ _ _ _ (by omega)).trans k6)))
   ·exact(((hb2.setCell (p:=⟨bo,0,none⟩) (by show w.heap.size<=bo;omega) _).setCell (p:=⟨w.heap.size,0,none⟩) (AqK _) _).setCell (p:=⟨w.heap.size+1,0,none⟩) (by show w.heap.size<=w.heap.size+1;omega) _).setCell (p:=⟨w.heap.size+2,0,none⟩) (by show w.heap.size<=w.heap.size+2;omega) _
 case done=>
  rintro D ys W hD rfl ⟨hI,Hx⟩ hK
  exfalso
  obtain⟨k,hk,hb⟩:=Ag2;have h1:=Hx (g k) (List.mem_map_of_mem (List.mem_range.2 hk));rw [hg k hk]at h1;obtain⟨x,hx,h2⟩:=h1.2;exact Rat.not_lt.2 (hb x hx) h2
 case stop=>rintro D cc pre W hD _ ⟨rfl,h4,h5,h6,Cg⟩ hK;have m4:=(cell_of_box h4).1;have m5:=(cell_of_box h5).1;have m6:=(cell_of_box h6).1;gi_wp2;refine⟨by simp,.inl ⟨_,_,rfl,run_takeDeferred hK,?_⟩⟩;have K:∀k:Nat,k≠D→(W.putObj D (.deferred none)).heap[k]?=W.heap[k]?:=fun k hk=>World.putObj_heap_other hk;have u4:=(cell_of_box ((K _ (by omega)).trans h4)).1;have u5:=(cell_of_box ((K _ (by omega)).trans h5)).1;have u6:=(cell_of_box ((K _ (by omega)).trans h6)).1;refine⟨.tuple #[.slice none 0 0,.bool false,.int .i64 0],?_,rfl,Cg.trans (belowK_b (w:=w) (AqK _) W D _ _ (by omega) hK rfl rfl)⟩;simp [results,Tryz.f102,go_sem,u4,u5,u6]
end
end Go.Proofs.YtjalkoacphhgdaaGreatDoor
namespace Go.Proofs.YtjalkoacphhgdaaGreatDoor
open Go.RowKit Kl
structure Pz where
 b:Nat
 pts:List Pt
 u:Bs
def lK(e:Pz):List Value:=[.slice (some ⟨e.b,0,none⟩) e.pts.length e.pts.length,S e.u,.slice none 0 0]
def D3(l:List Pz):List Value:=l.flatMap lK
theorem uz(l:List Pz):(D3 l).length=l.length*3:=by
 induction l with
 | nil=>rfl
 | cons h l ih=>simp [D3,lK]at ih ⊢;omega
theorem uw:∀(l:List Pz) (j:Nat) (h:j<l.length),(D3 l)[j*3]?=some (.slice (some ⟨l[j].b,0,none⟩) l[j].pts.length l[j].pts.length)/\(D3 l)[j*3+1]?=some (S l[j].u)/\(D3 l)[j*3+2]?=some (.slice none 0 0)
 | e::l,0,_=>⟨rfl,rfl,rfl⟩
 | e::l,j+1,h=>by
  have ih:=uw l j (by simpa using h);have e0:D3 (e::l)=.slice (some ⟨e.b,0,none⟩) e.pts.length e.pts.length::S e.u :: .slice none 0 0::D3 l:=rfl;rw [e0];have e1:(j+1)*3=j*3+1+1+1:=(by omega);rw [e1]
  simpa using ih
theorem Al5(x:Pz)(n:Nat)(hn:x.pts.length=n):(D3 [x]).toArray=#[.slice (some ⟨x.b,0,none⟩) n n,.string ⟨x.u.toArray⟩,.slice none 0 0]:=by subst hn;rfl
structure JO(w:World)(e:Pz):Prop where
 blk:w.heap[e.b]?=some (.cells (flat (Ao e.pts)).toArray 92)
 sh:∀p∈e.pts,EY p
 le:e.pts.length<=4
theorem JO.ext{w w':World}{e:Pz}(h:JO w e)(hx:Aa w w'):JO w' e:=⟨(hx.block _ (AqI h.blk)).trans h.blk,h.sh,h.le⟩
theorem Ad.blk{w:World}{b:Nat}{cs:List Value}{t:TypeId}(h:w.heap[b]?=some (.cells cs.toArray t)):Ad w (some ⟨b,0,none⟩) cs:=
 ⟨fun _=>⟨b,0,rfl,fun j hj=>by rw [Nat.zero_add];exact Ab h (by simp [hj])⟩⟩
def Jz(l:List Pz):List (List Pt×Bs):=l.map fun e=>(e.pts,e.u)
theorem uv(l:List Pz):(Jz l).length=l.length:=by simp [Jz]
theorem Alc{w:World}{A:Option Addr}{c:Nat}{l:List Pz}(hr:Ad w A (D3 l))(Aj:∀e∈l,JO w e)(h1:l.length<=c)(h2:c<=9223372036854775807):KI w A c (Jz l):=by
 refine⟨by simpa [Jz]using h1,h2,fun j hj=>?_⟩;have hj':j<l.length:=(by simpa [Jz]using hj);have hl:=uz l;obtain⟨b,o,e,hcs⟩:=hr.ad (by omega);obtain⟨f1,f2,f3⟩:=uw l j hj';have g1:=hcs (j*3) (by omega);have g2:=hcs (j*3+1) (by omega);have g3:=hcs (j*3+2) (by omega);rw [AqP (by omega),AqO]at f1 f2 f3;rw [f1]at g1;rw [f2,←Nat.add_assoc]at g2;rw [f3,←Nat.add_assoc]at g3;have hk:=Aj l[j] (AqL hj');have he:(Jz l)[j]=(l[j].pts,l[j].u):=(by simp [Jz]);rw [he];have:=hk.le;exact⟨b,o,some ⟨l[j].b,0,none⟩,l[j].pts.length,e,g1,g2,g3,Ad.blk hk.blk,AqK _,by omega⟩
theorem Al4{wN w':World}{base n:Nat}{v:Value}{l d:List Pz}(hown:wN.ownsRow base 95 3 v n (D3 l))(hg:wN.grownBy w' v.ownBlock)(Aj:∀e∈l,JO wN e)(hd:∀e∈d,JO wN e) :
  ∀e∈l++d,JO w' e:=by
 intro e he
 have h:JO wN e:=by
  rcases List.mem_append.1 he with k|k
  ·exact Aj e k
  ·exact hd e k
 exact⟨(hg.block _ (AqI h.blk) (fun k=>Bu hown h.blk (by decide) k.symm)).trans h.blk,h.sh,h.le⟩
section
variable {ops : Array Oper} {rest : List Oper} {o : Oper} {a : Act} {K : Act → World → Prop} {Q : Exit → Act → World → Prop}
theorem Aoz(s x:Operand)(ho:o.op=.call {callee:=.builtin .append,args:=#[s,x],argTypes:=#[90,90]})
  (wN:World) (base:Nat) (v:Value) (n:Nat) (l d:List Pz) (hs:a.eval s=v) (hown:wN.ownsRow base 95 3 v n (D3 l)) (hn:n<200000) (hd:d.length<=10)
  (g m:Nat) (hm:d.length=m) (hb:wN.heap[g]?=some (.cells (D3 d).toArray 95)) (hx:a.eval x=.slice (some ⟨g,0,none⟩) m m) (hbase:base<=wN.heap.size)
  (h:∀v' w',w'.ownsRow base 95 3 v' (n+m) (D3 (l++d))→(∀w0,Aa w0 wN→w0.heap.size<=base→Aa w0 w')→wN.grownBy w' v.ownBlock→K (a.put o.dst v') w') :
  o.wp Tryz.prog a wN K Q:=by
 subst hm;obtain⟨i0,hi,hz0,hz1,hz2⟩:=info_parts Tryz.infoPc;refine nC s x 90 ho 95 i0 _ 3 64 d.length Tryz.underlying90 hi hz0 hz1 hz2 rfl (by omega) (by omega) hd wN base v n _ hs hown hn g _ hb (by simp [uz]) ?_ hx hbase ?_
 ·intro u hu;simp only [D3,lK,List.mem_flatMap,List.mem_cons,AqV,or_false]at hu;obtain⟨y,_,hu⟩:=hu
  rcases hu with rfl|rfl|rfl<;>rfl
 ·intro v' w' h1 h2 h3;refine h v' w' ?_ h2 h3;have:D3 (l++d)=D3 l++(D3 d).toArray.toList:=(by simp [D3]);rw [this];exact h1
theorem Acn(hgd:o.guard=none)(s x:Operand)(ho:o.op=.call {callee:=.builtin .append,args:=#[s,x],argTypes:=#[90,90]})
  (wN:World) (base:Nat) (v:Value) (n:Nat) (l d:List Pz) (hs:a.eval s=v) (hown:wN.ownsRow base 95 3 v n (D3 l)) (hn:n<200000) (hd:d.length<=10)
  (g m:Nat) (hm:d.length=m) (hb:wN.heap[g]?=some (.cells (D3 d).toArray 95)) (hx:a.eval x=.slice (some ⟨g,0,none⟩) m m) (hbase:base<=wN.heap.size)
  (h:∀v' w',w'.ownsRow base 95 3 v' (n+m) (D3 (l++d))→(∀w0,Aa w0 wN→w0.heap.size<=base→Aa w0 w')→wN.grownBy w' v.ownBlock→wpList Tryz.prog ops Q rest (a.put o.dst v') w') :
  wpList Tryz.prog ops Q (o::rest) a wN:=
 wpList_plain hgd fun _ hK=>Aoz s x ho wN base v n l d hs hown hn hd g m hm hb hx hbase fun v' w' h1 h2 h3=>hK _ _ (h v' w' h1 h2 h3)
end
end Go.Proofs.YtjalkoacphhgdaaGreatDoor
