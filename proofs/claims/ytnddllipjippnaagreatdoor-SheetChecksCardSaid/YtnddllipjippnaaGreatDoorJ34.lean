/- J34: BN BO D9. -/
import Derived.Test.YtnddllipjippnaaGreatDoorJ33
set_option maxRecDepth 100000
set_option maxHeartbeats 8000000
namespace Go.Proofs.YtnddllipjippnaaGreatDoor
open Go.RowKit Kl Go.Shelf
section
attribute [local go_sem] Oper.semAt_some
theorem AjQ{P:Program}{id k n:Nat}{Q:Exit→Act→World→Prop}{a:Act}{W:World}{l:List Oper}(hm:P.follows .mixedOrders=true)(hB:Region.lexB .any l.toArray=true)(hd:mj l=true)(hlo:¬LetsOut Q)
  (h:wpQuiet P l.toArray (fun w'=>∃p:Ad W,w'=p.w) (fun a'=>∀w',(∃p:Ad W,w'=p.w)→Q .normal a' w') l a):(Code.region id l.toArray true).wpIn (Fence.wide.inRound k) n P Q a W:=by
 simp only [Region.lexB,Bool.and_eq_true]at hB;refine wpIn_region_any hm (xi (jT hd) hlo _ _ _ _ (wpAny_of_quiet (C:=fun w'=>∃p:Ad W,w'=p.w) (Q:=fun a'=>∀w',(∃p:Ad W,w'=p.w)→Q .normal a' w') (fun _ w' hw' h=>h w' hw') _ _ _ _ ⟨⟨W.drew,(Ab.refl W).drew⟩,rfl⟩ ?_));have:=wpAnyQ_lex (C:=fun w'=>∃p:Ad W,w'=p.w) (md:=.any) hB.1 l 0 (Array.replicate l.toArray.size false) a (by simp) (by simpa using hB.2) h
 simpa using this
theorem Ahd(a b p:Pt)(ha:Az 200 a)(hb:Az 200 b)(hp:Az 200 p)(Ba Bb:Nat)(w:World)(hw:Am w)
  (c0:w.cell? ⟨Ba,0,none⟩=some (S (R a.x))) (c1:w.cell? ⟨Ba,1,none⟩=some (S (R a.y))) (c2:w.cell? ⟨Bb,0,none⟩=some (S (R b.x))) (c3:w.cell? ⟨Bb,1,none⟩=some (S (R b.y))) :
  Calls Tryz.prog 132 #[Ak p,.pointer (some ⟨Ba,0,none⟩),.pointer (some ⟨Bb,0,none⟩)] w (By (R (Ar a b p)) w):=by
 have E:=(Ab.refl w).alloc (.cells #[S (R p.x),S (R p.y)] 24);have Au:=Ao6 w (.cells #[S (R p.x),S (R p.y)] 24);have ar:=pO a b p ha hb hp (by omega) (by omega) _ (hw.ext E);replace c0:=E.cellS c0;replace c1:=E.cellS c1;replace c2:=E.cellS c2;replace c3:=E.cellS c3;have c4:=Aa (o:=0) Au rfl;have c5:=Aa (o:=1) Au rfl;unfold Ak S at ar;go_enter Tryz.func132,Tryz.ntmps132;unfold Ak;(go_wp2_with fail);(with_reducible refine ar.mono ?_);rintro e w1 ⟨rfl,hx1⟩;go_wp2;go_ret;exact⟨rfl,E.trans hx1⟩
theorem AhO(r:Rat):r<0∨r=0∨0<r:=by
 by_cases h:r<0
 ·exact .inl h
 ·by_cases h0:r=0
  ·exact .inr (.inl h0)
  ·exact .inr (.inr ((Rat.le_iff_lt_or_eq.1 (Rat.not_lt.1 h)).resolve_right fun e=>h0 e.symm))
def Hd(f:Pt→Rat)(l:List Pt):List Pt:=l.filter (fun p=>decide (0<=f p))
def IQ(f:Pt→Rat)(l:List Pt):Bool:=l.any (fun p=>decide (0<f p))
theorem Ah0(f:Pt→Rat)(l:List Pt)(p:Pt):Hd f (l ++ [p])=Hd f l++(if 0<=f p then [p] else []):=by
 unfold Hd;rw [List.filter_append];congr 1;simp [List.filter_cons]
theorem AkR(f:Pt→Rat)(l:List Pt)(p:Pt):IQ f (l ++ [p])=(IQ f l||decide (0<f p)):=by simp [IQ]
abbrev Nc(f:Pt→Rat):={s:Pt×Pt // Az 200 s.1/\Az 200 s.2/\¬AZ (f s.1)*AZ (f s.2)<0}
structure BB(w:World)(fv sv:Value)(ks:List Pt)(sm:Bool)(W:World):Prop where
 out:∃v,W.heap[w.heap.size+1]?=some (.cells #[v] 31 (0,0))/\W.ownsRow w.heap.size 24 2 v ks.length (FK ks)
 som:W.heap[w.heap.size+2]?=some (.cells #[.bool sm] 4 (0,0))
 fn:W.heap[w.heap.size]?=some (.cells #[fv] 204 (0,0))
 box:W.heap[w.heap.size+3]?=some (.cells #[sv] 31 (0,0))
 below:Below w.heap.size w W
theorem BB.size{w:World}{fv sv:Value}{ks:List Pt}{sm:Bool}{W:World}(h:BB w fv sv ks sm W):w.heap.size+4<=W.heap.size:=by
 have:=(Array.getElem?_eq_some_iff.1 h.box).1;omega
theorem BB.ext{w:World}{fv sv:Value}{ks:List Pt}{sm:Bool}{W W':World}(h:BB w fv sv ks sm W)(hx:Ab W W'):BB w fv sv ks sm W':=by
 obtain⟨v,hv,ho⟩:=h.out;have hs:=h.size;exact⟨⟨v,(hx.block _ (by omega)).trans hv,AL ho hx⟩,(hx.block _ (by omega)).trans h.som,(hx.block _ (by omega)).trans h.fn,(hx.block _ (by omega)).trans h.box,h.below.trans (Below.mono hx h.below.size)⟩
theorem BB.own{w:World}{fv sv:Value}{ks:List Pt}{sm:Bool}{W W':World}{row:Option Nat}{B:Nat}(hB:w.heap.size<=B)(h:BB w fv sv ks sm W)(hg:W.grownBy W' row)(hr:∀r,row=some r→B<=r/\∃o:Obj,W.heap[r]?=some o/\o.isCells=false):BB w fv sv ks sm W':=by
 have hr':∀r,row=some r→∃o:Obj,W.heap[r]?=some o/\o.isCells=false:=fun r e=>(hr r e).2;obtain⟨v,hv,ho⟩:=h.out;refine⟨⟨v,DU hg hv hr',ho.kept hg ?_⟩,DU hg h.som hr',DU hg h.fn hr',DU hg h.box hr',h.below.grown hg h.below.size (fun k e=>AoH hB (hr k e).1)⟩
 rcases ho.2 with⟨rfl,_⟩|⟨g,cap,cur,rfl,_,hgb,_⟩
 ·exact .inl rfl
 ·refine .inr fun e=>?_;obtain⟨o,h1,h2⟩:=hr' g e.symm;rw [hgb]at h1
  cases h1
  cases h2
theorem kL{w:World}{B:Nat}{e:TypeId}{s n:Nat}{v:Value}{xs:List Value}(hs:0<s)(h:w.ownsRow B e s v n xs):∃A c,v=.slice A n c:=by
 obtain⟨A,c,h1,-,-,-⟩:=Af.of_own' hs h;exact⟨A,c,h1⟩
theorem jO:31≠24:=by decide
theorem mf:4≠24:=by decide
theorem Aii:204≠24:=by decide
theorem BB.put{w:World}{fv sv:Value}{ks:List Pt}{sm:Bool}{W:World}(h:BB w fv sv ks sm W)(b:Bool):BB w fv sv ks b (W.setCell ⟨w.heap.size+2,0,none⟩ (.bool b)):=by
 obtain⟨v,hv,ho⟩:=h.out;have K:∀k,k≠w.heap.size+2→(W.setCell ⟨w.heap.size+2,0,none⟩ (.bool b)).heap[k]?=W.heap[k]?:=fun k hk=>Below.heap_setCell W _ _ k hk;refine⟨⟨v,(K _ (by omega)).trans hv,?_⟩,one_setCell h.som,(K _ (by omega)).trans h.fn,(K _ (by omega)).trans h.box,h.below.setCell (by show w.heap.size<=w.heap.size+2;omega) _⟩;refine ownsRow_setCell_other ho ?_ _;intro e
 rcases ownsRow_ne ho h.som (fun cur e=>by first|cases e|exact mf (Obj.cells.inj e).2.1)with e'|e'
 ·rw [e']at e;cases e
 ·exact e' e
theorem kh{w W:World}(b:Bool):BS w.heap.size (w.heap.size+3) W (W.setCell ⟨w.heap.size+2,0,none⟩ (.bool b)):=
 ⟨(Below.refl _ W).setCell (p:=⟨w.heap.size+2,0,none⟩) (by show w.heap.size<=w.heap.size+2;omega) _,Below.heap_setCell W _ _ _ (by show w.heap.size+3≠w.heap.size+2;omega)⟩
theorem BB.app{w:World}{fv sv:Value}{ks:List Pt}{sm:Bool}{W w3:World}{v v':Value}{x:Pt}(h:BB w fv sv ks sm W)(ho:W.ownsRow w.heap.size 24 2 v ks.length (FK ks))
  (hown:w3.ownsRow w.heap.size 24 2 v' (ks.length+1) (FK ks ++ [S (R x.x),S (R x.y)])) (hg:W.grownBy w3 v.ownBlock) :
  BB w fv sv (ks ++ [x]) sm (w3.setCell ⟨w.heap.size+1,0,none⟩ v')/\KeepsOthers W (w3.setCell ⟨w.heap.size+1,0,none⟩ v')/\BS w.heap.size (w.heap.size+3) W (w3.setCell ⟨w.heap.size+1,0,none⟩ v')/\(∃u,w3.cell? ⟨w.heap.size+1,0,none⟩=some u)/\w3.frozen? ⟨w.heap.size+1,0,none⟩=false/\w3.cell? ⟨w.heap.size+2,0,none⟩=some (.bool sm)/\w3.frozen? ⟨w.heap.size+2,0,none⟩=false:=by
 obtain⟨v0,hv,-⟩:=h.out;have hs:=h.size
 have ne_of:∀{j:Nat} {o:Obj},W.heap[j]?=some o→(∀cur,o≠.cells cur 24 (0,0))→some j≠v.ownBlock:=fun hj hno=>by
  rcases ownsRow_ne ho hj hno with e|e
  ·rw [e];simp
  ·exact fun e'=>e e'.symm
 have k1:=(hg.block (w.heap.size+1) (by omega) (ne_of hv (fun cur e=>by first|cases e|exact jO (Obj.cells.inj e).2.1))).trans hv;have k2:=(hg.block (w.heap.size+2) (by omega) (ne_of h.som (fun cur e=>by first|cases e|exact mf (Obj.cells.inj e).2.1))).trans h.som;have k0:=(hg.block (w.heap.size) (by omega) (ne_of h.fn (fun cur e=>by first|cases e|exact Aii (Obj.cells.inj e).2.1))).trans h.fn;have k3:=(hg.block (w.heap.size+3) (by omega) (ne_of h.box (fun cur e=>by first|cases e|exact jO (Obj.cells.inj e).2.1))).trans h.box;have K:∀k,k≠w.heap.size+1→(w3.setCell ⟨w.heap.size+1,0,none⟩ v').heap[k]?=w3.heap[k]?:=fun k hk=>Below.heap_setCell w3 _ _ k hk;have hb3:Below w.heap.size W w3:=(Below.refl _ W).grown hg (by omega) (fun k e=>(ho.lt k e).1);have hb4:=hb3.setCell (p:=⟨w.heap.size+1,0,none⟩) (by show w.heap.size<=w.heap.size+1;omega) v';refine⟨⟨⟨v',heap_setCell_box _ k1,?_⟩,(K _ (by omega)).trans k2,(K _ (by omega)).trans k0,(K _ (by omega)).trans k3,h.below.trans hb4⟩,?_,⟨hb4,(K _ (by omega)).trans (k3.trans h.box.symm)⟩,⟨_,(cell_of_box k1).1⟩,(cell_of_box k1).2,(cell_of_box k2).1,(cell_of_box k2).2⟩
 ·rw [List.length_append,pz];refine ownsRow_setCell_other hown ?_ _;intro e
  rcases ownsRow_ne hown k1 (fun cur e=>by first|cases e|exact jO (Obj.cells.inj e).2.1)with e'|e'
  ·rw [e']at e;cases e
  ·exact e' e
 ·refine(KeepsOthers.of_grownBy hg fun j o e hj=>?_).trans (KeepsOthers.setCell _ _ _)
  rcases ho.2 with⟨rfl,_⟩|⟨g,cap,cur,rfl,_,hgb,_⟩
  ·cases e
  ·simp only [Value.ownBlock,AoB]at e;subst e;rw [hgb]at hj
   cases hj
   rfl
def LS(f:Pt→Rat)(l:List Pt):List Pt:=if IQ f l=true then Hd f l else []
def Abf(l:List Pt)(w:World)(e:Ending)(w':World):Prop:=
 ∃A' c',e=.returned (.slice A' l.length c')/\Af w' A' (flat (Aq l))/\l.length<=c'/\c'<=9223372036854775807/\(l = []→A'=none/\c'=0)/\Ab w w'
theorem Aif(f:Pt→Rat)(pg:List Pt)(h0:0<pg.length)(hz:∀p∈pg,Az 200 p)(hcut:∀k,k<pg.length→¬AZ (f (BK pg k).1)*AZ (f (BK pg k).2)<0):∃g:Nat→Nc f,∀k,k<pg.length→(g k).1=BK pg k:=by
 have hm:∀k,Az 200 (pg.getD (k%pg.length) ⟨0,0⟩):=fun k=>by have:k%pg.length<pg.length:=Nat.mod_lt _ h0;rw [List.getD_eq_getElem?_getD,AoC this];exact hz _ (Ao8 this)
 have h2:∀k,k<pg.length→Az 200 (BK pg k).1/\Az 200 (BK pg k).2/\¬AZ (f (BK pg k).1)*AZ (f (BK pg k).2)<0:=fun k hk=>⟨by have:=hm k;rwa [Nat.mod_eq_of_lt hk]at this,hm (k+1),hcut k hk⟩;exact⟨fun k=>if h:k<pg.length then ⟨BK pg k,h2 k h⟩else ⟨BK pg 0,h2 0 h0⟩,fun k hk=>by simp [hk]⟩
theorem Aie{f:Pt→Rat}{pg:List Pt}{g:Nat→Nc f}(hg:∀k,k<pg.length→(g k).1=BK pg k):(upto g pg.length).map (·.1.1)=pg:=by
 apply List.ext_getElem
 ·simp [upto]
 ·intro k h1 h2;simp only [upto,List.getElem_map,List.getElem_range];rw [hg k h2];simp [BK,List.getD_eq_getElem?_getD,AoC h2]
def ET{f:Pt→Rat}(pre:List (Nc f)):List Pt:=pre.map (fun x=>x.1.1)
def P0(f:Pt→Rat)(w:World)(fv sv:Value)(pre:List (Nc f))(W:World):Prop:=BB w fv sv (Hd f (ET pre)) (IQ f (ET pre)) W
theorem P0.own{f:Pt→Rat}{w:World}{fv sv:Value}{B:Nat}(hB:w.heap.size<=B):OwnFrom B (P0 f w fv sv):=fun _ _ _ _ h hg hr=>BB.own hB h hg hr
def oG(x:Pt×Pt)(Ba Bb:Nat)(W:World):Prop:=W.heap[Ba]?=some (.cells #[S (R x.1.x),S (R x.1.y)] 24 (0,0))/\W.heap[Bb]?=some (.cells #[S (R x.2.x),S (R x.2.y)] 24 (0,0))
theorem j8 (a b : Pt) (ha : Az 200 a) (hb : Az 200 b) (pg : List Pt) (hz : ∀ p ∈ pg, Az 200 p) (BJ : 0 < pg.length) (FC : pg.length ≤ 60) (hcut : ∀ k, k < pg.length → ¬ AZ (Ar a b (BK pg k).1) * AZ (Ar a b (BK pg k).2) < 0)
    (A : Option Addr) (cap : Nat) (Ba Bb : Nat) (w : World) (hw : Am w) (hr : Af w A (flat (Aq pg))) (_ : pg.length ≤ cap) (_ : cap ≤ 9223372036854775807)
    (aO : w.heap[Ba]? = some (.cells #[S (R a.x), S (R a.y)] 24 (0, 0))) (aQ : w.heap[Bb]? = some (.cells #[S (R b.x), S (R b.y)] 24 (0, 0))) :
    Calls Tryz.prog 131 #[.slice A pg.length cap, .func (.func 132) #[] #[.pointer (some ⟨Ba, 0, none⟩), .pointer (some ⟨Bb, 0, none⟩)]] w (Abf (LS (Ar a b) pg) w) := by
  obtain ⟨g, hg⟩ := Aif (Ar a b) pg BJ hz hcut
  obtain ⟨fv, Nl⟩ := Ao3 (Value.func (.func 132) #[] #[.pointer (some ⟨Ba, 0, none⟩), .pointer (some ⟨Bb, 0, none⟩)])
  obtain ⟨W0, hW0⟩ := Ao3 ((((w.alloc (.cells #[fv] 204)).alloc (.cells #[.slice none 0 0] 31)).alloc (.cells #[.bool false] 4)).alloc (.cells #[.slice A pg.length cap] 31))
  have hs0 : W0.heap.size = w.heap.size + 4 := by rw [hW0]; simp
  have hx0 : Ab w W0 := by rw [hW0]; exact ((((Ab.refl w).alloc _).alloc _).alloc _).alloc _
  have I6 : BB w fv (.slice A pg.length cap) [] false W0 := by
    have b0 := Ao6 w (.cells #[fv] 204)
    have b1 := Ao6 (w.alloc (.cells #[fv] 204)) (.cells #[.slice none 0 0] 31)
    have b2 := Ao6 ((w.alloc (.cells #[fv] 204)).alloc (.cells #[.slice none 0 0] 31)) (.cells #[.bool false] 4)
    have b3 := Ao6 (((w.alloc (.cells #[fv] 204)).alloc (.cells #[.slice none 0 0] 31)).alloc (.cells #[.bool false] 4)) (.cells #[.slice A pg.length cap] 31)
    simp only [AoE] at b1 b2 b3
    rw [hW0]
    refine ⟨⟨.slice none 0 0, ?_, ⟨rfl, .inl ⟨rfl, rfl⟩⟩⟩, ?_, ?_, b3, hW0 ▸ hx0⟩
    · exact (Below.heap_alloc _ _ _ (by simp only [AoE]; omega)).trans ((Below.heap_alloc _ _ _ (by simp only [AoE]; omega)).trans b1)
    · exact (Below.heap_alloc _ _ _ (by simp only [AoE]; omega)).trans b2
    · exact (Below.heap_alloc _ _ _ (by simp only [AoE]; omega)).trans ((Below.heap_alloc _ _ _ (by simp only [AoE]; omega)).trans ((Below.heap_alloc _ _ _ (by simp only [AoE]; omega)).trans b0))
  rw [Nl] at hW0 I6
  refine (callsIn_wide (n := 4)).1 ?_
  refine callsIn_of_wp_marks Tryz.func131 rfl trivial ?_ rfl
  simp only [Tryz.ntmps131, List.size_toArray, List.length_cons, List.length_nil, Nat.reduceAdd, Nat.reduceSub, Array.replicate_succ, Array.replicate_zero, List.push_toArray, List.append_toArray, List.nil_append, List.cons_append]
  gi_wp2
  refine ⟨trivial, ?_⟩
  refine (qj Fence.wide 3 trivial rfl A pg.length cap _).mono ?_
  rintro e W3 ⟨rfl, rfl⟩
  gi_wp2
  rw [← hW0]
  rw [← Nl] at I6
  have Cq := Aa (o := 0) I6.box rfl
  refine wpIn_rangeFunc_ownH rfl (by omega) (gf := 177) (lb := #[.pointer (some ⟨w.heap.size + 3, 0, none⟩)]) rfl trivial (enters_of Tryz.func177 (by kernel_rfl) rfl)
    (ql (fun x : Nc (Ar a b) => x.1) 3 (by omega) (w.heap.size + 3) w.heap.size A cap pg g hg W0 (by omega) (by omega) (by omega) Cq ⟨w, hr, Ao7 _, hx0⟩)
    (fun h k => h.trans k) (BS.put (by omega) (by omega)) (Below.refl _ _) (fun _ => rfl)
    (P0 (Ar a b) w fv (.slice A pg.length cap)) (fun _ _ _ => False)
    (P0.own (by omega)) (fun _ _ _ _ _ hs _ _ => hs) I6
    (fun x a' W => ∃ Gj Gk, oG x.1 Gj Gk W ∧ a' = { tmps := #[.slice A pg.length cap, .func (.func 132) #[] #[.pointer (some ⟨Ba, 0, none⟩), .pointer (some ⟨Bb, 0, none⟩)], undef, .pointer (some ⟨w.heap.size, 0, none⟩), .slice none 0 0, .pointer (some ⟨w.heap.size + 1, 0, none⟩), .pointer (some ⟨w.heap.size + 2, 0, none⟩), .pointer (some ⟨Gj, 0, none⟩), .pointer (some ⟨Gk, 0, none⟩), undef, undef, undef, undef, .slice A pg.length cap, .func (.func 177) #[] #[.pointer (some ⟨w.heap.size + 3, 0, none⟩)], Ak x.1.1, Ak x.1.2, undef, undef, undef, undef, undef, undef, undef, undef, undef, undef, undef, undef, undef, undef, undef, undef, undef, undef, undef, undef, undef, undef, undef, undef, undef, undef, undef, undef, undef, undef, undef, undef, undef, undef, undef, undef, undef, undef, undef, undef, undef, undef, undef, undef, undef, undef, undef, undef, undef, undef, undef], defers := [] })
    ?hAx ?assign ?body ?done ?stop
  case hAx =>
    rintro x a' s W W' row ⟨Gj, Gk, ⟨h1, h2⟩, rfl⟩ D7 hr'
    exact ⟨Gj, Gk, ⟨DU D7 h1 (fun r e => (hr' r e).2), DU D7 h2 (fun r e => (hr' r e).2)⟩, rfl⟩
  case assign =>
    intro l pre x W K hi hK
    have hi : BB w fv (.slice A pg.length cap) (Hd (Ar a b) (ET pre)) (IQ (Ar a b) (ET pre)) W := hi
    have Ny := hi.size
    have e1 := Ao6 W (.cells #[S (R x.1.1.x), S (R x.1.1.y)] 24)
    have e2 := Ao6 (W.alloc (.cells #[S (R x.1.1.x), S (R x.1.1.y)] 24)) (.cells #[S (R x.1.2.x), S (R x.1.2.y)] 24)
    have X := ((Ab.refl W).alloc (.cells #[S (R x.1.1.x), S (R x.1.1.y)] 24)).alloc (.cells #[S (R x.1.2.x), S (R x.1.2.y)] 24)
    rw [AoE] at e2
    unfold Ak
    gi_wp2
    exact hK _ _ (Ik X) (BS.of_ext X (by omega) (by omega)) (hi.ext X) ⟨_, _, ⟨(Below.heap_alloc _ _ _ (by simp only [AoE]; omega)).trans e1, e2⟩, rfl⟩
  case body =>
    rintro l pre x a' W hl Age hI ⟨Gj, Gk, ⟨e1, e2⟩, rfl⟩ hlen
    subst Nl
    gi_wp2
    obtain ⟨z1, z2, hno⟩ := x.2
    have hs := BB.size hI
    have Df : Am W := hw.ext (BB.below hI)
    have aP := (Below.block (BB.below hI) _ (Ao5 aO)).trans aO
    have aR := (Below.block (BB.below hI) _ (Ao5 aQ)).trans aQ
    obtain ⟨p1, p2, Qt, TP⟩ : ∃ p1 p2, p1 = x.1.1 ∧ p2 = x.1.2 := ⟨_, _, rfl, rfl⟩
    have hpre : ET (pre ++ [x]) = ET pre ++ [p1] := by unfold ET; rw [List.map_append, Qt]; rfl
    rw [← Qt] at z1
    rw [← TP] at z2
    rw [← Qt, ← TP] at hno
    have MV : ∀ W', P0 (Ar a b) w (.func (.func 132) #[] #[.pointer (some ⟨Ba, 0, none⟩), .pointer (some ⟨Bb, 0, none⟩)]) (.slice A pg.length cap) (pre ++ [x]) W' ↔ BB w (.func (.func 132) #[] #[.pointer (some ⟨Ba, 0, none⟩), .pointer (some ⟨Bb, 0, none⟩)]) (.slice A pg.length cap) (Hd (Ar a b) (ET pre) ++ (if 0 ≤ Ar a b p1 then [p1] else [])) (IQ (Ar a b) (ET pre) || decide (0 < Ar a b p1)) W' := fun W' => by unfold P0; rw [hpre, Ah0, AkR]
    have hI : BB w (.func (.func 132) #[] #[.pointer (some ⟨Ba, 0, none⟩), .pointer (some ⟨Bb, 0, none⟩)]) (.slice A pg.length cap) (Hd (Ar a b) (ET pre)) (IQ (Ar a b) (ET pre)) W := hI
    rw [← Qt, ← TP]
    rw [← Qt] at e1
    rw [← TP] at e2
    have Ce : (Hd (Ar a b) (ET pre)).length ≤ 60 := by
      refine AoH (List.length_filter_le _ _) ?_
      unfold ET; rw [List.length_map]; omega
    obtain ⟨ks, Jv⟩ := Ao3 (Hd (Ar a b) (ET pre))
    obtain ⟨sm, hsm⟩ := Ao3 (IQ (Ar a b) (ET pre))
    rw [← Jv] at hI Ce MV
    rw [← hsm] at hI MV
    have q0 : ∀ q : Ad W, q.w.cell? ⟨w.heap.size, 0, none⟩ = some (.func (.func 132) #[] #[.pointer (some ⟨Ba, 0, none⟩), .pointer (some ⟨Bb, 0, none⟩)]) := Ad.cell (Aa hI.fn rfl)
    have q1 : ∀ q : Ad W, q.w.cell? ⟨Gj, 0, none⟩ = some (S (R p1.x)) := Ad.cell (Aa e1 rfl)
    have q2 : ∀ q : Ad W, q.w.cell? ⟨Gj, 1, none⟩ = some (S (R p1.y)) := Ad.cell (Aa e1 rfl)
    have q3 : ∀ q : Ad W, q.w.cell? ⟨Gk, 0, none⟩ = some (S (R p2.x)) := Ad.cell (Aa e2 rfl)
    have q4 : ∀ q : Ad W, q.w.cell? ⟨Gk, 1, none⟩ = some (S (R p2.y)) := Ad.cell (Aa e2 rfl)
    have ct := fun (q : Ad W) (p : Pt) (hp : Az 200 p) => Ahd a b p ha hb hp Ba Bb q.w (Df.ext q.h) (q.h.cellS (Aa (o := 0) aP rfl)) (q.h.cellS (Aa (o := 1) aP rfl)) (q.h.cellS (Aa (o := 0) aR rfl)) (q.h.cellS (Aa (o := 1) aR rfl))
    have k1 := fun (q : Ad W) => ct q p1 z1
    have k2 := fun (q : Ad W) => ct q p2 z2
    unfold Ak at k1 k2
    have JJ := Ao4 MV
    clear ct hpre MV Qt TP Jv hsm aP aR
    refine AjQ (by kernel_rfl) (by kernel_rfl) (by kernel_rfl) (by rintro ⟨_, _, h⟩; exact h) ?_
    repeat (go_big_quiet_step (first | with_reducible exact tH (k1 _) | with_reducible exact tH (k2 _)))
    refine wpQuiet_nil ?_
    rintro W7 ⟨q, hq⟩
    have Aw : Ab W W7 := hq ▸ q.h
    clear hq q q0 q1 q2 q3 q4 k1 k2
    have ED := BB.ext hI Aw
    obtain ⟨r1, hr1⟩ := Ao3 (Ar a b p1)
    obtain ⟨r2, hr2⟩ := Ao3 (Ar a b p2)
    rw [← hr1, ← hr2] at hno
    have MV := JJ.out
    rw [← hr1] at MV
    rw [← hr1, ← hr2]
    have cs1 := fun (V : World) => Ra r1 V
    have VK := fun (V : World) => Ra r2 V
    obtain ⟨i0, hi, hz0, hz1, hz2⟩ := info_parts Tryz.infoPt
    have PN := (Aw.block _ (Ao5 e1)).trans e1
    have hs2 := Ri r2
    obtain ⟨s2, gj⟩ := Ao3 (AZ r2)
    rw [← gj] at VK hno hs2
    have hs7 := BB.size ED
    have YP := Ao4 MV
    clear JJ hr1 hr2 gj MV e1 e2 hI aO aQ z1 z2
    rcases AhO r1 with Nv | Ks | Cl
    · have FD := su Nv
      have TG : ¬ 0 ≤ r1 := Rat.not_le.2 Nv
      have GX : ¬ 0 < r1 := fun h => TG (Rat.le_of_lt h)
      rw [FD] at cs1 hno
      have Cf : ¬ 0 < s2 := by omega
      gi_wp2
      refine ⟨trivial, ?_⟩
      refine (CallsIn.inRound l (callsIn_wide.2 (cs1 _))).mono ?_
      rintro e W8 ⟨rfl, AX⟩
      gi_wp2
      refine ⟨trivial, ?_⟩
      refine (CallsIn.inRound l (callsIn_wide.2 (cs1 _))).mono ?_
      rintro e Wa ⟨rfl, AQ⟩
      gi_wp2
      refine ⟨trivial, ?_⟩
      refine (CallsIn.inRound l (callsIn_wide.2 (VK _))).mono ?_
      rintro e Wb ⟨rfl, hxb⟩
      gi_wp2
      have X := (Aw.trans AX).trans (AQ.trans hxb)
      refine ⟨Ik X, BS.of_ext X (by omega) (by omega), (YP.out _).2 ?_⟩
      rw [if_neg TG, decide_eq_false GX, List.append_nil, Bool.or_false]
      exact BB.ext ED (AX.trans (AQ.trans hxb))
    · have FD : AZ r1 = 0 := by rw [Ks]; rfl
      have hle : 0 ≤ r1 := by rw [Ks]; decide
      have Nw : ¬ 0 < r1 := by rw [Ks]; decide
      have Bl : (R r1 == [48]) = true := by rw [beq_iff_eq]; exact oI.2 Ks
      have BH : (R r1 != [48]) = false := by rw [bne, Bl]; rfl
      clear Ks
      rw [FD] at cs1 hno
      gi_wp2
      refine ⟨trivial, ?_⟩
      refine (CallsIn.inRound l (callsIn_wide.2 (cs1 _))).mono ?_
      rintro e W8 ⟨rfl, AX⟩
      have Ka := BB.ext ED AX
      have fu := BB.size Ka
      obtain ⟨v, hv, ho⟩ := Ka.out
      obtain ⟨vA, vc, rfl⟩ := kL (by omega) ho
      have f1 := (cell_of_box hv).1
      have Ss := (AX.block _ (Ao5 PN)).trans PN
      have f2 := Aa (o := 0) Ss rfl
      have f3 := Aa (o := 1) Ss rfl
      have X8 := Aw.trans AX
      clear PN ED Aw AX
      cases sm
      all_goals (
        gi_wp2_with (gi_at_builtin; refine wpListIn_append_own _ rfl _ _ 31 rfl w.heap.size 24 i0 (.agg #[S [], S []]) 2 32 Tryz.underlying31 hi hz0 hz1 hz2 rfl (by decide) _ _ _ rfl (ho.alloc _) ⟨W8.heap.size, 0, none⟩ 1 1 [S (R p1.x), S (R p1.y)] rfl rfl (ZD _ _ _ _) (by simp [Value.oneCell']) (by unfold maxLen; omega) (by omega) (by simp; omega) ?_; intro v' w3 hown' hg3 hnil3
                     obtain ⟨Te, dE, dF, ⟨u3, hc3⟩, hf3, hd3, Afr⟩ := BB.app (x := p1) (BB.ext Ka ((Ab.refl W8).alloc (.cells #[S (R p1.x), S (R p1.y)] 24))) (ho.alloc _) hown' hg3
                     obtain ⟨g', cap', iE⟩ : ∃ g' cap', v' = .slice (some ⟨g', 0, none⟩) (ks.length + 1) cap' := by
                       rcases hown'.2 with ⟨_, h0⟩ | ⟨g', cap', _, h', _⟩
                       · exact absurd h0 (by omega)
                       · exact ⟨g', cap', h'⟩
                     subst iE
                     clear hown' hg3 hnil3
                     go_frame)
        refine ⟨trivial, ?_⟩
        refine (CallsIn.inRound l (callsIn_wide.2 (cs1 _))).mono ?_
        rintro e Wa ⟨rfl, AQ⟩
        gi_wp2
        refine ⟨trivial, ?_⟩
        refine (CallsIn.inRound l (callsIn_wide.2 (VK _))).mono ?_
        rintro e Wb ⟨rfl, hxb⟩
        gi_wp2
        have hP := fun b => BB.put Te b
        have hsP := BB.size Te
        have X := AQ.trans hxb
        refine ⟨((Ik (X8.alloc _)).trans ((dE.trans (KeepsOthers.setCell _ _ _)).from _)).trans (Ik X), (((BS.of_ext (Bs := w.heap.size + 3) (X8.alloc _) (by omega) (by omega)).trans dF).trans (kh _)).trans (BS.of_ext X (by rw [World.size_setCell]; omega) (by rw [World.size_setCell]; omega)), (YP.out _).2 ?_⟩
        rw [if_pos hle]
        simp only [decide_eq_false Nw, Bool.or_false]
        exact BB.ext (hP _) X)
    · have FD := lJ Cl
      have hle : 0 ≤ r1 := Rat.le_of_lt Cl
      have Cf : ¬ s2 < 0 := by
        intro h
        rw [FD] at hno
        omega
      have Bl : (R r1 == [48]) = false := Ef (fun e => by rw [e] at Cl; exact absurd Cl (by decide))
      have BH : (R r1 != [48]) = true := by rw [bne, Bl]; rfl
      rw [FD] at cs1 hno
      gi_wp2
      refine ⟨trivial, ?_⟩
      refine (CallsIn.inRound l (callsIn_wide.2 (cs1 _))).mono ?_
      rintro e W8 ⟨rfl, AX⟩
      have Ka := BB.ext ED AX
      have fu := BB.size Ka
      obtain ⟨v, hv, ho⟩ := Ka.out
      obtain ⟨vA, vc, rfl⟩ := kL (by omega) ho
      have f1 := (cell_of_box hv).1
      have Ss := (AX.block _ (Ao5 PN)).trans PN
      have f2 := Aa (o := 0) Ss rfl
      have f3 := Aa (o := 1) Ss rfl
      have X8 := Aw.trans AX
      clear PN ED Aw AX
      cases sm
      all_goals (
        gi_wp2_with (gi_at_builtin; refine wpListIn_append_own _ rfl _ _ 31 rfl w.heap.size 24 i0 (.agg #[S [], S []]) 2 32 Tryz.underlying31 hi hz0 hz1 hz2 rfl (by decide) _ _ _ rfl (ho.alloc _) ⟨W8.heap.size, 0, none⟩ 1 1 [S (R p1.x), S (R p1.y)] rfl rfl (ZD _ _ _ _) (by simp [Value.oneCell']) (by unfold maxLen; omega) (by omega) (by simp; omega) ?_; intro v' w3 hown' hg3 hnil3
                     obtain ⟨Te, dE, dF, ⟨u3, hc3⟩, hf3, hd3, Afr⟩ := BB.app (x := p1) (BB.ext Ka ((Ab.refl W8).alloc (.cells #[S (R p1.x), S (R p1.y)] 24))) (ho.alloc _) hown' hg3
                     obtain ⟨g', cap', iE⟩ : ∃ g' cap', v' = .slice (some ⟨g', 0, none⟩) (ks.length + 1) cap' := by
                       rcases hown'.2 with ⟨_, h0⟩ | ⟨g', cap', _, h', _⟩
                       · exact absurd h0 (by omega)
                       · exact ⟨g', cap', h'⟩
                     subst iE
                     clear hown' hg3 hnil3
                     go_frame)
        refine ⟨trivial, ?_⟩
        refine (CallsIn.inRound l (callsIn_wide.2 (cs1 _))).mono ?_
        rintro e Wa ⟨rfl, AQ⟩
        gi_wp2
        refine ⟨trivial, ?_⟩
        refine (CallsIn.inRound l (callsIn_wide.2 (VK _))).mono ?_
        rintro e Wb ⟨rfl, hxb⟩
        gi_wp2
        have hP := fun b => BB.put Te b
        have hsP := BB.size Te
        have X := AQ.trans hxb
        refine ⟨((Ik (X8.alloc _)).trans ((dE.trans (KeepsOthers.setCell _ _ _)).from _)).trans (Ik X), (((BS.of_ext (Bs := w.heap.size + 3) (X8.alloc _) (by omega) (by omega)).trans dF).trans (kh _)).trans (BS.of_ext X (by rw [World.size_setCell]; omega) (by rw [World.size_setCell]; omega)), (YP.out _).2 ?_⟩
        rw [if_pos hle]
        simp only [decide_eq_true Cl, Bool.or_true]
        exact BB.ext (hP _) X)
  case done =>
    rintro D ys W hD rfl hI hK
    have hI : BB w fv (.slice A pg.length cap) (Hd (Ar a b) (ET (upto g pg.length))) (IQ (Ar a b) (ET (upto g pg.length))) W := hI
    rw [show ET (upto g pg.length) = pg from Aie hg] at hI
    have fu := BB.size hI
    obtain ⟨v, hv, ho⟩ := hI.out
    obtain ⟨vA, vc, rfl⟩ := kL (by omega) ho
    have f1 := (cell_of_box hv).1
    have f2 := (cell_of_box hI.som).1
    have Ck := BB.below hI
    obtain ⟨sm, hsm⟩ := Ao3 (IQ (Ar a b) pg)
    rw [← hsm] at f2
    have xM : Ab w (W.putObj D (.deferred none)) := Ck.trans (belowK_b (w := w) (Ao7 _) W D _ _ (by omega) hK rfl rfl)
    have ho2 := ho.kept (grownBy_putObj W D (.deferred none)) (ownsRow_ne ho hK (fun cur e => by cases e))
    obtain ⟨A2, c2, hv2, J3, hc1, hc2⟩ := Af.of_own' (by omega) ho2
    simp only [Value.slice.injEq, true_and] at hv2
    obtain ⟨rfl, rfl⟩ := hv2
    have hk0 : sm = false → LS (Ar a b) pg = [] := fun h => by unfold LS; rw [← hsm, h]; rfl
    have DX : sm = true → LS (Ar a b) pg = Hd (Ar a b) pg := fun h => by unfold LS; rw [← hsm, if_pos h]
    have hnil : sm = true → Hd (Ar a b) pg = [] → vA = none ∧ vc = 0 := fun h e => by
      exfalso
      rw [hsm] at h
      unfold IQ at h
      rw [List.any_eq_true] at h
      obtain ⟨p, hp, h⟩ := h
      have : p ∈ Hd (Ar a b) pg := List.mem_filter.2 ⟨hp, decide_eq_true (Rat.le_of_lt (of_decide_eq_true h))⟩
      rw [e] at this
      cases this
    clear hI hsm
    cases sm
    · gi_wp2
      refine ⟨by simp, .inl ⟨_, _, rfl, run_takeDeferred hK, ?_⟩⟩
      refine ⟨_, results_tmp rfl _ _ _, ?_⟩
      exact ⟨none, 0, rfl, ⟨fun h => by simp [flat, Aq] at h⟩, Ao7 _, by omega, fun _ => ⟨rfl, rfl⟩, xM⟩
    · gi_wp2
      refine ⟨by simp, .inl ⟨_, _, rfl, run_takeDeferred hK, ?_⟩⟩
      refine ⟨_, results_tmp rfl _ _ _, ?_⟩
      exact ⟨vA, vc, rfl, J3, hc1, hc2, hnil trivial, xM⟩
  case stop =>
    rintro D c pre W _ _ h _
    exact h.elim
end
section
attribute [local go_sem] Oper.semAt_some
theorem Ac3(p q:List Pt)(hp:Oa p)(hq:Oa q)(N6:∀x∈p,Az 200 x)(Uj:∀x∈q,Az 200 x)(A B:Option Addr)(c d blk:Nat)(w:World)(hw:Am w)
  (hA:Af w A (flat (Aq p))) (hB:Af w B (flat (Aq q))) (hc:p.length<=c) (hc2:c<=9223372036854775807) (hd:q.length<=d) (Fa:d<=9223372036854775807)
  (c0:w.cell? ⟨blk,0,none⟩=some (.slice A p.length c)) (c1:w.cell? ⟨blk,1,none⟩=some (.slice B q.length d)) :
  Calls Tryz.prog 129 #[.slice (some ⟨blk,0,none⟩) 2 2] w (AI 0 w):=by
 have k1:=fun (W:World) (hx:Ab w W)=>kR p hp N6 (by omega) (by omega) A c W (hw.ext hx) (hA.ext hx) hc hc2;have k2:=fun (W:World) (hx:Ab w W)=>kR q hq Uj (by omega) (by omega) B d W (hw.ext hx) (hB.ext hx) hd Fa;clear hp hq N6 Uj hA hB;go_enter Tryz.func129,Tryz.ntmps129;go_wp2
 go_loopw [8] (fun i wr=>(i=.int .i64 0∨i=.int .i64 1∨i=.int .i64 2)/\Ab w wr) (fun i _=>2-(intOf i).toNat)
 case atStart=>exact⟨.inl rfl,Ab.refl _⟩
 case round=>
  obtain⟨h,hx⟩:=hrel;have d0:=hx.cellS c0;have d1:=hx.cellS c1
  rcases h with rfl|rfl|rfl
  ·have k:=k1 wr hx;clear k1 k2 c0 c1;(go_wp2_with fail);(with_reducible refine k.mono ?_);rintro e w2 ⟨rfl,hx2⟩;go_wp2;go_roundw
   case rel=>exact⟨.inr (.inl rfl),hx.trans hx2⟩
   case measure=>simp [intOf]
  ·have k:=k2 wr hx;clear k1 k2 c0 c1;(go_wp2_with fail);(with_reducible refine k.mono ?_);rintro e w2 ⟨rfl,hx2⟩;go_wp2;go_roundw
   case rel=>exact⟨.inr (.inr rfl),hx.trans hx2⟩
   case measure=>simp [intOf]
  ·clear k1 k2 c0 c1;go_wp2;go_ret;exact⟨rfl,hx⟩
theorem Af.keptM{W W':World}{row:Option Nat}{A:Option Addr}{cs:List Value}(h:Af W A cs)(hg:W.grownBy W' row)(hr:∀r,row=some r→∃o:Obj,W.heap[r]?=some o/\o.isCells=false):Af W' A cs:=
 ⟨fun h0=>by
  obtain⟨b,o,e,hc⟩:=h.ad h0
  exact⟨b,o,e,fun j hj=>cell_kept (hc j hj) hg hr⟩⟩
def Mj(p:List Pt)(s:Pt×Pt):Prop:=(∀x∈p,0<=Ar s.1 s.2 x)/\∃x∈p,0<Ar s.1 s.2 x
def KE(p:List Pt)(s:Pt×Pt):Prop:=∀x∈p,Ar s.1 s.2 x<=0
abbrev Sd(p:List Pt):={s:Pt×Pt // Az 200 s.1/\Az 200 s.2/\(Mj p s∨KE p s)}
theorem AkB(p q:List Pt)(h0:0<q.length)(hz:∀x∈q,Az 200 x)(hs:∀k,k<q.length→Mj p (BK q k)∨KE p (BK q k)):∃g:Nat→Sd p,∀k,k<q.length→(g k).1=BK q k:=by
 have hm:∀k,Az 200 (q.getD (k%q.length) ⟨0,0⟩):=fun k=>by have:k%q.length<q.length:=Nat.mod_lt _ h0;rw [List.getD_eq_getElem?_getD,AoC this];exact hz _ (Ao8 this)
 have h2:∀k,k<q.length→Az 200 (BK q k).1/\Az 200 (BK q k).2/\(Mj p (BK q k)∨KE p (BK q k)):=fun k hk=>⟨by have:=hm k;rwa [Nat.mod_eq_of_lt hk]at this,hm (k+1),hs k hk⟩;exact⟨fun k=>if h:k<q.length then ⟨BK q k,h2 k h⟩else ⟨BK q 0,h2 0 h0⟩,fun k hk=>by simp [hk]⟩
theorem Yw{p:List Pt}{k:Nat}(hk:k<p.length):(BK p k).1∈p/\(BK p k).2∈p:=by
 have h2:(k+1)%p.length<p.length:=Nat.mod_lt _ (by omega);unfold BK;rw [List.getD_eq_getElem?_getD,AoC hk,List.getD_eq_getElem?_getD,AoC h2];exact⟨Ao8 hk,Ao8 h2⟩
theorem s7{r:Rat}(h:0<=r):0<=AZ r:=by
 unfold AZ;rw [if_neg (Rat.not_lt.2 h)];split<;>omega
theorem s8{r:Rat}(h:r<=0):AZ r<=0:=by
 unfold AZ;by_cases h0:r=0
 ·rw [if_pos h0];omega
 ·rw [if_neg h0,if_pos ((Rat.le_iff_lt_or_eq.1 h).resolve_right h0)];omega
theorem Ahu{p:List Pt}{s:Pt×Pt}(h:Mj p s):LS (Ar s.1 s.2) p=p:=by
 unfold LS;rw [if_pos]
 ·exact List.filter_eq_self.2 fun x hx=>decide_eq_true (h.1 x hx)
 ·obtain⟨x,hx,h0⟩:=h.2;exact List.any_eq_true.2 ⟨x,hx,decide_eq_true h0⟩
theorem Aht{p:List Pt}{s:Pt×Pt}(h:KE p s):LS (Ar s.1 s.2) p = []:=by
 unfold LS;rw [if_neg];intro h2;obtain⟨x,hx,h0⟩:=List.any_eq_true.1 h2;exact Rat.not_lt.2 (h x hx) (of_decide_eq_true h0)
theorem Aip{p:List Pt}{s:Pt×Pt}(h:Mj p s):∀k,k<p.length→¬AZ (Ar s.1 s.2 (BK p k).1)*AZ (Ar s.1 s.2 (BK p k).2)<0:=fun k hk=>by
 have h1:=s7 (h.1 _ (Yw hk).1);have h2:=s7 (h.1 _ (Yw hk).2);exact Int.not_lt.2 (Int.mul_nonneg h1 h2)
theorem Aio{p:List Pt}{s:Pt×Pt}(h:KE p s):∀k,k<p.length→¬AZ (Ar s.1 s.2 (BK p k).1)*AZ (Ar s.1 s.2 (BK p k).2)<0:=fun k hk=>by
 have h1:=s8 (h _ (Yw hk).1);have h2:=s8 (h _ (Yw hk).2);exact Int.not_lt.2 (Int.mul_nonneg_of_nonpos_of_nonpos h1 h2)
theorem Acm{w:World}{b o:Nat}{cs:Array Value}{t:TypeId}{fz:Nat×Nat}{v:Value}(h:w.heap[b]?=some (.cells cs t fz))(hc:w.cell? ⟨b,o,none⟩=some v):cs[o]?=some v:=by
 cases e:cs[o]? with
 | some u=>
  have h2:=hc;simp [World.cell?,h,e]at h2;rw [←h2]
 | none=>simp [World.cell?,h,e]at hc
structure Fq(w:World)(bo:Nat)(p:List Pt)(sv:Value)(W:World):Prop where
 c4:∃v,W.heap[w.heap.size]?=some (.cells #[v] 31 (0,0))
 c5:∃v,W.heap[w.heap.size+1]?=some (.cells #[v] 4 (0,0))
 c6:∃v,W.heap[w.heap.size+2]?=some (.cells #[v] 29 (0,0))
 out:∃A c,W.heap[bo]?=some (.cells #[.slice A p.length c] 31 (0,0))/\Af W A (flat (Aq p))/\p.length<=c/\c<=9223372036854775807
 box:W.heap[bo+1]?=some (.cells #[sv] 31 (0,0))
 below:Below w.heap.size w W
def InJ(w:World)(bo:Nat)(p:List Pt)(sv:Value)(pre:List (Sd p))(W:World):Prop:=Fq w bo p sv W/\∀s∈pre,Mj p s.1
theorem Fq.own{w:World}{bo:Nat}{p:List Pt}{sv:Value}{W W':World}{row:Option Nat}{B:Nat}(hB:w.heap.size<=B)(h:Fq w bo p sv W)(hg:W.grownBy W' row)(hr:∀r,row=some r→B<=r/\∃o:Obj,W.heap[r]?=some o/\o.isCells=false):Fq w bo p sv W':=by
 have hr':∀r,row=some r→∃o:Obj,W.heap[r]?=some o/\o.isCells=false:=fun r e=>(hr r e).2;obtain⟨v4,h4⟩:=h.c4;obtain⟨v5,h5⟩:=h.c5;obtain⟨v6,h6⟩:=h.c6;obtain⟨A,c,ho,Bf,h1,h2⟩:=h.out;exact⟨⟨v4,DU hg h4 hr'⟩,⟨v5,DU hg h5 hr'⟩,⟨v6,DU hg h6 hr'⟩,⟨A,c,DU hg ho hr',Bf.keptM hg hr',h1,h2⟩,DU hg h.box hr',h.below.grown hg h.below.size (fun k e=>AoH hB (hr k e).1)⟩
theorem Fq.ext{w:World}{bo:Nat}{p:List Pt}{sv:Value}{W W':World}(h:Fq w bo p sv W)(hx:Ab W W'):Fq w bo p sv W':=by
 obtain⟨v4,h4⟩:=h.c4;obtain⟨v5,h5⟩:=h.c5;obtain⟨v6,h6⟩:=h.c6;obtain⟨A,c,ho,Bf,h1,h2⟩:=h.out;exact⟨⟨v4,(hx.block _ (Ao5 h4)).trans h4⟩,⟨v5,(hx.block _ (Ao5 h5)).trans h5⟩,⟨v6,(hx.block _ (Ao5 h6)).trans h6⟩,⟨A,c,(hx.block _ (Ao5 ho)).trans ho,Bf.ext hx,h1,h2⟩,(hx.block _ (Ao5 h.box)).trans h.box,h.below.trans (Below.mono hx h.below.size)⟩
theorem Fq.put{w:World}{bo:Nat}{p:List Pt}{sv:Value}{W:World}(h:Fq w bo p sv W)(D4:w.heap.size+3<=bo){A:Option Addr}{c:Nat}(Bf:Af W A (flat (Aq p)))(hne:∀x,A=some x→x.block≠bo)(h1:p.length<=c)(h2:c<=9223372036854775807) :
  Fq w bo p sv (W.setCell ⟨bo,0,none⟩ (.slice A p.length c))/\BS w.heap.size (bo+1) W (W.setCell ⟨bo,0,none⟩ (.slice A p.length c)):=by
 obtain⟨v4,h4⟩:=h.c4;obtain⟨v5,h5⟩:=h.c5;obtain⟨v6,h6⟩:=h.c6;obtain⟨A0,c0,ho,-,-,-⟩:=h.out;have K:∀k,k≠bo→(W.setCell ⟨bo,0,none⟩ (.slice A p.length c)).heap[k]?=W.heap[k]?:=fun k hk=>Below.heap_setCell W _ _ k hk;have hb:=(Below.refl w.heap.size W).setCell (p:=⟨bo,0,none⟩) (by show w.heap.size<=bo;omega) (.slice A p.length c);refine⟨⟨⟨v4,(K _ (by omega)).trans h4⟩,⟨v5,(K _ (by omega)).trans h5⟩,⟨v6,(K _ (by omega)).trans h6⟩,⟨A,c,heap_setCell_box _ ho,⟨fun h0=>?_⟩,h1,h2⟩,(K _ (by omega)).trans h.box,h.below.trans hb⟩,hb,K _ (by omega)⟩;obtain⟨b,o,e,hc⟩:=Bf.ad h0;exact⟨b,o,e,fun j hj=>(World.cell?_of_block (a:=⟨b,o+j,none⟩) (K b (hne _ e))).trans (hc j hj)⟩
def InX(w:World)(c:Code)(W:World):Prop:=c=.ret/\W.heap[w.heap.size]?=some (.cells #[.slice none 0 0] 31 (0,0))/\W.heap[w.heap.size+1]?=some (.cells #[.bool false] 4 (0,0))/\W.heap[w.heap.size+2]?=some (.cells #[.int .i64 0] 29 (0,0))/\Below w.heap.size w W
def Vm(p:List Pt)(w:World)(c:Code)(_:List (Sd p))(W:World):Prop:=InX w c W
theorem Vm.own{p:List Pt}{w:World}{c:Code}{B:Nat}(hB:w.heap.size<=B):OwnFrom B (Vm p w c):=by
 rintro s W W' row ⟨rfl,h4,h5,h6,hb⟩ hg hr;have hr':∀r,row=some r→∃o:Obj,W.heap[r]?=some o/\o.isCells=false:=fun r e=>(hr r e).2;exact⟨rfl,DU hg h4 hr',DU hg h5 hr',DU hg h6 hr',hb.grown hg hb.size (fun k e=>AoH hB (hr k e).1)⟩
def Abh(w:World)(e:Ending)(w':World):Prop:=e=.returned (.tuple #[.slice none 0 0,.bool false,.int .i64 0])/\Ab w w'
theorem Ahe(p q:List Pt)(hp:Oa p)(hq:Oa q)(N6:∀x∈p,Az 200 x)(Uj:∀x∈q,Az 200 x)(hs:∀k,k<q.length→Mj p (BK q k)∨KE p (BK q k))(AeU:∃k,k<q.length/\KE p (BK q k))
  (A B:Option Addr) (c d:Nat) (w:World) (hw:Am w) (hA:Af w A (flat (Aq p))) (hB:Af w B (flat (Aq q))) (hc:p.length<=c) (hc2:c<=9223372036854775807) (hd:q.length<=d) (Fa:d<=9223372036854775807) :
  Calls Tryz.prog 80 #[.slice A p.length c,.slice B q.length d] w (Abh w):=by
 have hp3:=hp.n3;have df:=hp.n60;have TS:=hq.n3;have AnE:=hq.n60;obtain⟨g,hg⟩:=AkB p q (by omega) Uj hs;have X0:=((((Ab.refl w).alloc (.cells #[.slice none 0 0] 31)).alloc (.cells #[.bool false] 4)).alloc (.cells #[.int .i64 0] 29)).alloc (.cells #[.slice A p.length c,.slice B q.length d] 31);have b0:=Ao6 w (.cells #[.slice none 0 0] 31);have b1:=Ao6 (w.alloc (.cells #[.slice none 0 0] 31)) (.cells #[.bool false] 4);have b2:=Ao6 ((w.alloc (.cells #[.slice none 0 0] 31)).alloc (.cells #[.bool false] 4)) (.cells #[.int .i64 0] 29);have b3:=Ao6 (((w.alloc (.cells #[.slice none 0 0] 31)).alloc (.cells #[.bool false] 4)).alloc (.cells #[.int .i64 0] 29)) (.cells #[.slice A p.length c,.slice B q.length d] 31);simp only [AoE]at b1 b2 b3;have ck:=Ac3 p q hp hq N6 Uj A B c d (w.heap.size+1+1+1) _ (hw.ext X0) (hA.ext X0) (hB.ext X0) hc hc2 hd Fa (Aa (o:=0) b3 rfl) (Aa (o:=1) b3 rfl);have B0:=(Below.heap_alloc ((w.alloc (.cells #[.slice none 0 0] 31)).alloc (.cells #[.bool false] 4)) (.cells #[.int .i64 0] 29) w.heap.size (by simp only [AoE];omega)).trans ((Below.heap_alloc _ _ _ (by simp only [AoE];omega)).trans b0);have B1:=(Below.heap_alloc ((w.alloc (.cells #[.slice none 0 0] 31)).alloc (.cells #[.bool false] 4)) (.cells #[.int .i64 0] 29) (w.heap.size+1) (by simp only [AoE];omega)).trans b1;obtain⟨V,hV⟩:=Ao3 (((w.alloc (.cells #[.slice none 0 0] 31)).alloc (.cells #[.bool false] 4)).alloc (.cells #[.int .i64 0] 29));have gh:V.heap.size=w.heap.size+3:=(by rw [hV];simp only [AoE]);rw [←hV]at X0 ck B0 B1 b2;have EV:=(Ab.refl V).alloc (.cells #[.slice A p.length c,.slice B q.length d] 31);refine(callsIn_wide (n:=4)).1 ?_;refine callsIn_of_wp_marks Tryz.func80 rfl trivial ?_ rfl;simp only [Tryz.ntmps80,List.size_toArray,List.length_cons,List.length_nil,Nat.reduceAdd,Nat.reduceSub,Array.replicate_succ,Array.replicate_zero,List.push_toArray,List.append_toArray,List.nil_append,List.cons_append];gi_wp2;refine⟨trivial,?_⟩;rw [←hV];refine(callsIn_wide.2 ck).mono ?_;rintro e w1 ⟨rfl,hx1⟩;have Vs:=X0.trans hx1;have hs1:=(EV.trans hx1).size;have d0:=((EV.trans hx1).block _ (by omega)).trans B0;have d1:=((EV.trans hx1).block _ (by omega)).trans B1;have d2:=((EV.trans hx1).block _ (by omega)).trans b2;have HSV:=Ao4 gh;have Agn:w.heap.size+3<=w1.heap.size:=(by omega);clear hV gh b0 b1 b2 b3 ck B0 B1 EV hx1 hs1 X0;gi_wp2;refine⟨trivial,?_⟩;refine(qj Fence.wide 3 trivial rfl B q.length d _).mono ?_;rintro e W3 ⟨rfl,rfl⟩;gi_wp2;obtain⟨bo,D4⟩:=Ao3 w1.heap.size;have E2:=((Ab.refl w1).alloc (.cells #[.slice A p.length c] 31)).alloc (.cells #[.slice B q.length d] 31);have g1:=Ao6 w1 (.cells #[.slice A p.length c] 31);have g2:=Ao6 (w1.alloc (.cells #[.slice A p.length c] 31)) (.cells #[.slice B q.length d] 31);have hs2:((w1.alloc (.cells #[.slice A p.length c] 31)).alloc (.cells #[.slice B q.length d] 31)).heap.size=w1.heap.size+2:=(by simp only [AoE]);replace g1:=(Below.heap_alloc (w1.alloc (.cells #[.slice A p.length c] 31)) (.cells #[.slice B q.length d] 31) _ (by simp only [AoE];omega)).trans g1
 rw [AoE]at g2;rw [←D4]at g1 g2 ⊢;have hlt:=fun (k:Nat) (o:Obj) (h:w1.heap[k]?=some o)=>(E2.block k (Ao5 h)).trans h
 have I6:Fq w bo p (.slice B q.length d) ((w1.alloc (.cells #[.slice A p.length c] 31)).alloc (.cells #[.slice B q.length d] 31)):=
  ⟨⟨_,hlt _ _ d0⟩,⟨_,hlt _ _ d1⟩,⟨_,hlt _ _ d2⟩,⟨A,c,g1,hA.ext (Vs.trans E2),hc,hc2⟩,g2,Vs.trans E2⟩
 have hxA:=Vs.trans E2;generalize (w1.alloc (.cells #[.slice A p.length c] 31)).alloc (.cells #[.slice B q.length d] 31)=W0 at *;have hs0:bo+2<=W0.heap.size:=(by omega);have AeY:w.heap.size+3<=bo:=(by omega);clear hs2 g1 d0 d1 d2 hlt E2 Vs Agn D4 HSV;have Cq:=Aa (o:=0) g2 rfl
 refine wpIn_rangeFunc_ownH rfl (by omega) (gf:=177) (lb:=#[.pointer (some ⟨bo+1,0,none⟩)]) rfl trivial (enters_of Tryz.func177 (by kernel_rfl) rfl)
  (ql (fun x:Sd p=>x.1) 3 (by omega) (bo+1) w.heap.size B d q g hg W0 (by omega) (by omega) (by omega) Cq ⟨w,hB,Ao7 _,hxA⟩)
  (fun h k=>h.trans k) (BS.put (by omega) (by omega)) (Below.refl _ _) (fun _=>rfl)
  (InJ w bo p (.slice B q.length d)) (Vm p w)
  (fun s W W' row h D7 hr'=>⟨Fq.own (by omega) h.1 D7 hr',h.2⟩) (fun _=>Vm.own (by omega)) ⟨I6,fun s hs=>by cases hs⟩
  (fun x a' W=>∃Gj Gk,oG x.1 Gj Gk W/\a' = {tmps:=#[.slice A p.length c,.slice B q.length d,undef,undef,.pointer (some ⟨w.heap.size,0,none⟩),.pointer (some ⟨w.heap.size+1,0,none⟩),.pointer (some ⟨w.heap.size+2,0,none⟩),.int .i64 0,.pointer (some ⟨bo,0,none⟩),.pointer (some ⟨Gj,0,none⟩),.pointer (some ⟨Gk,0,none⟩),.slice A p.length c,.slice B q.length d,.slice (some ⟨w.heap.size+3,0,none⟩) 2 2,.int .i64 0,.int .i64 0,.bool false,undef,.slice A p.length c,.slice B q.length d,.func (.func 177) #[] #[.pointer (some ⟨bo+1,0,none⟩)],Ak x.1.1,Ak x.1.2,undef,undef,undef,undef,undef,undef,undef,undef,undef,undef,undef,undef,undef,undef],defers:=[]})
  ?hAx ?assign ?body ?done ?stop
 case hAx=>rintro x a' s W W' row ⟨Gj,Gk,⟨h1,h2⟩,rfl⟩ D7 hr';exact⟨Gj,Gk,⟨DU D7 h1 (fun r e=>(hr' r e).2),DU D7 h2 (fun r e=>(hr' r e).2)⟩,rfl⟩
 case assign=>intro l pre x W K hi hK;have Ny:bo+1<W.heap.size:=Ao5 hi.1.box;have e1:=Ao6 W (.cells #[S (R x.1.1.x),S (R x.1.1.y)] 24);have e2:=Ao6 (W.alloc (.cells #[S (R x.1.1.x),S (R x.1.1.y)] 24)) (.cells #[S (R x.1.2.x),S (R x.1.2.y)] 24);have X:=((Ab.refl W).alloc (.cells #[S (R x.1.1.x),S (R x.1.1.y)] 24)).alloc (.cells #[S (R x.1.2.x),S (R x.1.2.y)] 24);rw [AoE]at e2;unfold Ak;gi_wp2;exact hK _ _ (Ik X) (BS.of_ext X (by omega) (by omega)) ⟨Fq.ext hi.1 X,hi.2⟩ ⟨_,_,⟨(Below.heap_alloc _ _ _ (by simp only [AoE];omega)).trans e1,e2⟩,rfl⟩
 case body=>
  rintro l pre x a' W hl Age ⟨hI,L2⟩ ⟨Gj,Gk,⟨e1,e2⟩,rfl⟩ hlen;obtain⟨z1,z2,hgb⟩:=x.2;obtain⟨A1,c1,ho,Bf,h1,h2⟩:=hI.out;have Df:Am W:=hw.ext hI.below;have f0:=(cell_of_box ho).1;have f1:=(cell_of_box ho).2;have Ny:bo+1<W.heap.size:=Ao5 hI.box
  rcases hgb with hgd|xJ
  ·have kp:=j8 x.1.1 x.1.2 z1 z2 p N6 (by omega) df (Aip hgd) A1 c1 Gj Gk W Df Bf h1 h2 e1 e2;rw [Ahu hgd]at kp;clear e1 e2 ho;gi_wp2;refine⟨trivial,?_⟩;refine(CallsIn.inRound l (callsIn_wide.2 kp)).mono ?_;rintro e W2 ⟨A2,c2,rfl,J3,h3,h4,-,hx2⟩;obtain⟨b2,o2,rfl,hcs⟩:=J3.ad (by rw [flat_length];simp [Aq];omega);have MS:=Fq.ext hI hx2;have g0:=hx2.cellS f0;have gf:W2.frozen? ⟨bo,0,none⟩=false:=(hx2.frozen (p:=⟨bo,0,none⟩) (by show bo<W.heap.size;omega)).trans f1
   have hne:∀y,some (⟨b2,o2,none⟩:Addr)=some y→y.block≠bo:=by
    intro y hy hh
    cases hy;have hh:b2=bo:=hh;subst hh;obtain⟨A0,c0,ho0,-⟩:=MS.out;obtain⟨b3,o3,e3,uM,S9⟩:=Co J3 (show 0<p.length by omega);simp only [AoB,Addr.mk.injEq,and_true]at e3;obtain⟨rfl,rfl⟩:=e3;have hb3:=Acm ho0 uM
    rcases Nat.eq_zero_or_pos (o2+0*2)with h0|h0
    ·rw [h0]at hb3;simp at hb3
    ·rw [Array.getElem?_eq_none (by simp;omega)]at hb3
     cases hb3
   obtain⟨hP,hKp⟩:=MS.put AeY J3 hne h3 h4;clear hcs kp;have hq:=fun W=>Lib.run_eql_slice_nil (P:=Tryz.prog) W 31 24 (some (⟨b2,o2,none⟩:Addr)) p.length c2 0 0 Tryz.underlying31;gi_wp2;refine⟨(Ik hx2).trans ((KeepsOthers.setCell _ _ _).from _),(BS.of_ext (Bs:=bo+1) hx2 (by have:=hI.below.size;omega) Ny).trans hKp,hP,?_⟩;intro s hs'
   rcases List.mem_append.1 hs' with h|h
   ·exact L2 s h
   ·rw [List.mem_singleton.1 h];exact hgd
  ·have kp:=j8 x.1.1 x.1.2 z1 z2 p N6 (by omega) df (Aio xJ) A1 c1 Gj Gk W Df Bf h1 h2 e1 e2;rw [Aht xJ]at kp;clear e1 e2 ho;gi_wp2;refine⟨trivial,?_⟩;refine(CallsIn.inRound l (callsIn_wide.2 kp)).mono ?_;rintro e W2 ⟨A2,c2,rfl,J3,h3,h4,hnl,hx2⟩;obtain⟨rfl,rfl⟩:=hnl rfl;obtain⟨v4,k4⟩:=(Fq.ext hI hx2).c4;obtain⟨v5,k5⟩:=(Fq.ext hI hx2).c5;obtain⟨v6,k6⟩:=(Fq.ext hI hx2).c6;have g0:=hx2.cellS f0;have gf:W2.frozen? ⟨bo,0,none⟩=false:=(hx2.frozen (p:=⟨bo,0,none⟩) (by show bo<W.heap.size;omega)).trans f1;obtain⟨m4,n4⟩:=cell_of_box k4;obtain⟨m5,n5⟩:=cell_of_box k5;obtain⟨m6,n6⟩:=cell_of_box k6;have hb2:=hI.below.trans (Below.mono hx2 hI.below.size);have Xj:bo≠w.heap.size:=(by omega);have fE:bo≠w.heap.size+1:=(by omega);have G1:bo≠w.heap.size+2:=(by omega);clear kp hI;have hq:=fun W=>Lib.run_eql_slice_nil (P:=Tryz.prog) W 31 24 none 0 0 0 0 Tryz.underlying31;gi_wp2;have S0:∀(V:World) (q:Nat) (u:Value) (k:Nat),k≠q→(V.setCell ⟨q,0,none⟩ u).heap[k]?=V.heap[k]?:=fun V q u k hk=>Below.heap_setCell V _ _ k hk;refine⟨(Ik hx2).trans (((((KeepsOthers.setCell _ _ _).trans (KeepsOthers.setCell _ _ _)).trans (KeepsOthers.setCell _ _ _)).trans (KeepsOthers.setCell _ _ _)).from _),rfl,?_,?_,?_,?_⟩
   ·rw [S0 _ _ _ _ (by omega),S0 _ _ _ _ (by omega)];exact heap_setCell_box _ ((S0 _ _ _ _ (by omega)).trans k4)
   ·rw [S0 _ _ _ _ (by omega)];exact heap_setCell_box _ ((S0 _ _ _ _ (by omega)).trans ((S0 _ _ _ _ (by omega)).trans k5))
   ·exact heap_setCell_box _ ((S0 _ _ _ _ (by omega)).trans ((S0 _ _ _ _ (by omega)).trans ((S0 _ _ _ _ (by omega)).trans k6)))
   ·exact(((hb2.setCell (p:=⟨bo,0,none⟩) (by show w.heap.size<=bo;omega) _).setCell (p:=⟨w.heap.size,0,none⟩) (Ao7 _) _).setCell (p:=⟨w.heap.size+1,0,none⟩) (by show w.heap.size<=w.heap.size+1;omega) _).setCell (p:=⟨w.heap.size+2,0,none⟩) (by show w.heap.size<=w.heap.size+2;omega) _
 case done=>
  rintro D ys W hD rfl ⟨hI,L2⟩ hK
  exfalso
  obtain⟨k,hk,hb⟩:=AeU;have h1:=L2 (g k) (List.mem_map_of_mem (List.mem_range.2 hk));rw [hg k hk]at h1;obtain⟨x,hx,h2⟩:=h1.2;exact Rat.not_lt.2 (hb x hx) h2
 case stop=>rintro D cc pre W hD _ ⟨rfl,h4,h5,h6,Ck⟩ hK;have m4:=(cell_of_box h4).1;have m5:=(cell_of_box h5).1;have m6:=(cell_of_box h6).1;gi_wp2;refine⟨by simp,.inl ⟨_,_,rfl,run_takeDeferred hK,?_⟩⟩;have K:∀k:Nat,k≠D→(W.putObj D (.deferred none)).heap[k]?=W.heap[k]?:=fun k hk=>World.putObj_heap_other hk;have u4:=(cell_of_box ((K _ (by omega)).trans h4)).1;have u5:=(cell_of_box ((K _ (by omega)).trans h5)).1;have u6:=(cell_of_box ((K _ (by omega)).trans h6)).1;refine⟨.tuple #[.slice none 0 0,.bool false,.int .i64 0],?_,rfl,Ck.trans (belowK_b (w:=w) (Ao7 _) W D _ _ (by omega) hK rfl rfl)⟩;simp [results,Tryz.f80,go_sem,u4,u5,u6]
end
end Go.Proofs.YtnddllipjippnaaGreatDoor
namespace Go.Proofs.YtnddllipjippnaaGreatDoor
open Go.RowKit Kl
theorem kU{pts:List Pt}{x:Int}(h0:0<=x)(h1:x<(pts.length:Int)):Ev pts x=pts[x.toNat]'(by omega):=by
 unfold Ev;rw [List.getD_eq_getElem?_getD,AoC (by omega)];rfl
theorem qm{pts:List Pt}{x:Int}(h0:0<=x)(h1:x<(pts.length:Int)):Ev pts x∈pts:=by
 rw [kU h0 h1];exact Ao8 _
theorem kV{pts:List Pt}(h:Dn [] pts=0){x y:Int}(hx:0<=x)(hx1:x<(pts.length:Int))(hy:0<=y)(hy1:y<(pts.length:Int))(he:Ev pts x=Ev pts y):x=y:=by
 rw [kU hx hx1,kU hy hy1]at he
 have main:∀i j,(hi:i<pts.length)→(hj:j<pts.length)→i<j→pts[i]≠pts[j]:=by intro i j hi hj Bu e;have h2:=rD h j hj;rw [List.nil_append,List.any_eq_false]at h2;have h3:=h2 pts[i] (by rw [List.mem_take_iff_getElem];exact⟨i,by omega,rfl⟩);exact h3 (CP.2 e.symm)
 rcases Nat.lt_trichotomy x.toNat y.toNat with k|k|k
 ·exact absurd he (main _ _ (by omega) (by omega) k)
 ·omega
 ·exact absurd he.symm (main _ _ (by omega) (by omega) k)
theorem UB{s t:Sg}(h:s≠t):Be s t=false:=by
 rw [Bool.eq_false_iff];exact fun k=>h (Ip.1 k)
theorem Sv{pts:List Pt}{l:List EdZ}{nf:Nat}(h1:Dn [] pts=0)(h2:D2 pts.length nf [] l=0):NP pts l:=by
 have hr:∀j (h:j<l.length),0<=l[j].f/\0<=l[j].t/\l[j].f<(pts.length:Int)/\l[j].t<(pts.length:Int)/\l[j].f≠l[j].t/\(l.take j).any (FZ · l[j])=false:=by intro j hj;have:=Sj (PG (l:=l) h2 j hj);rw [List.nil_append]at this;exact⟨this.1,this.2.1,this.2.2.1,this.2.2.2.1,this.2.2.2.2.1,this.2.2.2.2.2.1⟩
 refine⟨?_,?_,?_⟩
 ·intro e he;obtain⟨j,hj,rfl⟩:=List.getElem_of_mem he;obtain⟨a,b,c,d,-,-⟩:=hr j hj;exact⟨a,b,c,d⟩
 ·intro e he;obtain⟨j,hj,rfl⟩:=List.getElem_of_mem he;obtain⟨a,b,c,d,e,-⟩:=hr j hj;refine UB fun k=>e ?_;have k2:=congrArg Sg.b k;exact kV h1 a c b d k2
 ·intro j hj e he;obtain⟨a,b,c,d,-,g⟩:=hr j hj;rw [List.mem_take_iff_getElem]at he;obtain⟨i,hi,rfl⟩:=he;obtain⟨a',b',c',d',-,-⟩:=hr i (by omega);rw [List.any_eq_false]at g;have g1:=g l[i] (by rw [List.mem_take_iff_getElem];exact⟨i,by omega,rfl⟩)
  have g2:¬(l[i].f=l[j].f/\l[i].t=l[j].t)/\¬(l[i].f=l[j].t/\l[i].t=l[j].f):=by
   constructor
   ·rintro⟨x,y⟩;exact g1 (by simp [FZ,x,y])
   ·rintro⟨x,y⟩;exact g1 (by simp [FZ,x,y])
  have f1:∀{x y x' y':Int},0<=x→x<(pts.length:Int)→0<=y→y<(pts.length:Int)→0<=x'→x'<(pts.length:Int)→0<=y'→y'<(pts.length:Int)→(⟨Ev pts x,Ev pts y⟩:Sg)=⟨Ev pts x',Ev pts y'⟩→x'=x/\y'=y:=by intro x y x' y' h3 h4 h5 h6 h7 h8 h9 h10 k;simp only [Sg.mk.injEq]at k;exact⟨(kV h1 h3 h4 h7 h8 k.1).symm,(kV h1 h5 h6 h9 h10 k.2).symm⟩
  refine⟨UB fun k=>g2.1 ?_,UB fun k=>g2.2 ?_,UB fun k=>g2.2 ?_,UB fun k=>g2.1 ?_⟩
  ·exact f1 a c b d a' c' b' d' k
  ·have:=f1 a c b d b' d' a' c' k;exact⟨this.2,this.1⟩
  ·have:=f1 b d a c a' c' b' d' k;exact⟨this.1,this.2⟩
  ·have:=f1 b d a c b' d' a' c' k;exact⟨this.2,this.1⟩
theorem jP{pts:List Pt}{l:List EdZ}{x:Sg×Int}(h:x∈AH pts l):∃e∈l,(x.1=Bv pts e/\x.2=e.l)∨(x.1=Bh (Bv pts e)/\x.2=e.r):=by
 unfold AH at h;rw [List.mem_flatMap]at h;obtain⟨e,he,hx⟩:=h;simp only [List.mem_cons,AoI,or_false]at hx
 rcases hx with rfl|rfl
 ·exact⟨e,he,.inl ⟨rfl,rfl⟩⟩
 ·exact⟨e,he,.inr ⟨rfl,rfl⟩⟩
theorem XP{pts:List Pt}{l:List EdZ}(h:NP pts l)(hg:∀p∈pts,Db p):∀s∈(AH pts l).map (·.1),IZ s:=by
 intro s hs;rw [List.mem_map]at hs;obtain⟨x,hx,rfl⟩:=hs;obtain⟨e,he,k⟩:=jP hx;obtain⟨a,b,c,d⟩:=h.rng e he;have h1:=hg _ (qm a c);have h2:=hg _ (qm b d)
 rcases k with⟨k,-⟩|⟨k,-⟩
 ·rw [k];exact⟨h1,h2⟩
 ·rw [k];exact⟨h2,h1⟩
theorem XQ{pts:List Pt}{l:List EdZ}(h:NP pts l)(hg:∀p∈pts,Db p)(h3:Ej pts [] l=0):P9 ((AH pts l).map (·.1)):=by
 refine⟨AlO pts l h3,fun s hs=>(XP h hg s hs).sz (by omega),?_⟩;intro s hs;rw [List.mem_map]at hs;obtain⟨x,hx,rfl⟩:=hs;obtain⟨e,he,k⟩:=jP hx;have hn:=h.ne e he;intro hab
 have:Bh (Bv pts e)=Bv pts e:=by
  rcases k with⟨k,-⟩|⟨k,-⟩
  ·rw [k]at hab;exact Yt hab.symm hab
  ·rw [k]at hab;exact Yt hab hab.symm
 rw [Ip.2 this]at hn
 cases hn
theorem mh{pts:List Pt}{l:List EdZ}{nf:Nat}(h2:D2 pts.length nf [] l=0):∀x∈AH pts l,-1<=x.2/\x.2<(nf:Int):=by
 intro x hx;obtain⟨e,he,k⟩:=jP hx;obtain⟨j,hj,rfl⟩:=List.getElem_of_mem he;have h:=Sj (PG (l:=l) h2 j hj);have s1:=h.2.2.2.2.2.2.1;have s2:=h.2.2.2.2.2.2.2;unfold EL at s1 s2;simp only [Bool.and_eq_true,decide_eq_true_eq]at s1 s2
 rcases k with⟨-,k⟩|⟨-,k⟩
 ·rw [k];exact s1
 ·rw [k];first|exact s2|exact s2.1
theorem QM(pts:List Pt)(l:List EdZ):(AH pts l).length=2*l.length:=by
 induction l with
 | nil=>rfl
 | cons e l ih=>simp [AH]at ih ⊢;omega
end Go.Proofs.YtnddllipjippnaaGreatDoor
