/- U30: ShBN ShBO ShD9 ShT2. -/
import Derived.Test.YtbejphgbbpplbaaGreatDoorU29
set_option maxRecDepth 100000
set_option maxHeartbeats 8000000
namespace Go.Proofs.YtbejphgbbpplbaaGreatDoor
open Go.RowKit Kl Go.Shelf
section
attribute [local go_sem] Oper.semAt_some
theorem Anh{P:Program}{id k n:Nat}{Q:Exit→Act→World→Prop}{a:Act}{W:World}{l:List Oper}(hm:P.follows .mixedOrders=true)(hB:Region.lexB .any l.toArray=true)(hd:wq l=true)(hlo:¬LetsOut Q)
  (h:wpQuiet P l.toArray (fun w'=>∃p:Ac W,w'=p.w) (fun a'=>∀w',(∃p:Ac W,w'=p.w)→Q .normal a' w') l a):(Code.region id l.toArray true).wpIn (Fence.wide.inRound k) n P Q a W:=by
 simp only [Region.lexB,Bool.and_eq_true]at hB;refine wpIn_region_any hm (AbF (wu hd) hlo _ _ _ _ (wpAny_of_quiet (C:=fun w'=>∃p:Ac W,w'=p.w) (Q:=fun a'=>∀w',(∃p:Ac W,w'=p.w)→Q .normal a' w') (fun _ w' hw' h=>h w' hw') _ _ _ _ ⟨⟨W.drew,(Aa.refl W).drew⟩,rfl⟩ ?_));have:=wpAnyQ_lex (C:=fun w'=>∃p:Ac W,w'=p.w) (md:=.any) hB.1 l 0 (Array.replicate l.toArray.size false) a (by simp) (by simpa using hB.2) h
 simpa using this
theorem AjH(a b p:Pt)(ha:Aq 1 a)(hb:Aq 1 b)(hp:Aq 1 p)(Ba Bb:Nat)(w:World)(hw:Al w)
  (c0:w.cell? ⟨Ba,0,none⟩=some (S (R a.x))) (c1:w.cell? ⟨Ba,1,none⟩=some (S (R a.y))) (c2:w.cell? ⟨Bb,0,none⟩=some (S (R b.x))) (c3:w.cell? ⟨Bb,1,none⟩=some (S (R b.y))) :
  Calls Tryz.prog 175 #[Af p,.pointer (some ⟨Ba,0,none⟩),.pointer (some ⟨Bb,0,none⟩)] w (BK (R (Ai a b p)) w):=by
 have E:=(Aa.refl w).alloc (.cells #[S (R p.x),S (R p.y)] 94);have AK:=ArY w (.cells #[S (R p.x),S (R p.y)] 94);have ar:=sU a b p ha hb hp (by omega) (by omega) _ (hw.ext E);replace c0:=E.cellS c0;replace c1:=E.cellS c1;replace c2:=E.cellS c2;replace c3:=E.cellS c3;have c4:=Ab (o:=0) AK rfl;have c5:=Ab (o:=1) AK rfl;unfold Af S at ar;go_enter Tryz.func175,Tryz.ntmps175;unfold Af;(go_wp2_with fail);(with_reducible refine ar.mono ?_);rintro e w1 ⟨rfl,hx1⟩;go_wp2;go_ret;exact⟨rfl,E.trans hx1⟩
theorem Ak8(r:Rat):r<0∨r=0∨0<r:=by
 by_cases h:r<0
 ·exact .inl h
 ·by_cases h0:r=0
  ·exact .inr (.inl h0)
  ·exact .inr (.inr ((Rat.le_iff_lt_or_eq.1 (Rat.not_lt.1 h)).resolve_right fun e=>h0 e.symm))
def Ha(f:Pt→Rat)(l:List Pt):List Pt:=l.filter (fun p=>decide (0<=f p))
def IU(f:Pt→Rat)(l:List Pt):Bool:=l.any (fun p=>decide (0<f p))
theorem AjW(f:Pt→Rat)(l:List Pt)(p:Pt):Ha f (l ++ [p])=Ha f l++(if 0<=f p then [p] else []):=by
 unfold Ha;rw [List.filter_append];congr 1;simp [List.filter_cons]
theorem AnQ(f:Pt→Rat)(l:List Pt)(p:Pt):IU f (l ++ [p])=(IU f l||decide (0<f p)):=by simp [IU]
abbrev Nc(f:Pt→Rat):={s:Pt×Pt // Aq 1 s.1/\Aq 1 s.2/\¬AI (f s.1)*AI (f s.2)<0}
structure Bt(w:World)(fv sv:Value)(ks:List Pt)(sm:Bool)(W:World):Prop where
 out:∃v,W.heap[w.heap.size+1]?=some (.cells #[v] 33 (0,0))/\W.ownsRow w.heap.size 94 2 v ks.length (F7 ks)
 som:W.heap[w.heap.size+2]?=some (.cells #[.bool sm] 4 (0,0))
 fn:W.heap[w.heap.size]?=some (.cells #[fv] 234 (0,0))
 box:W.heap[w.heap.size+3]?=some (.cells #[sv] 33 (0,0))
 below:Below w.heap.size w W
theorem Bt.size{w:World}{fv sv:Value}{ks:List Pt}{sm:Bool}{W:World}(h:Bt w fv sv ks sm W):w.heap.size+4<=W.heap.size:=by
 have:=(Array.getElem?_eq_some_iff.1 h.box).1;omega
theorem Bt.ext{w:World}{fv sv:Value}{ks:List Pt}{sm:Bool}{W W':World}(h:Bt w fv sv ks sm W)(hx:Aa W W'):Bt w fv sv ks sm W':=by
 obtain⟨v,hv,ho⟩:=h.out;have hs:=h.size;exact⟨⟨v,(hx.block _ (by omega)).trans hv,Ao ho hx⟩,(hx.block _ (by omega)).trans h.som,(hx.block _ (by omega)).trans h.fn,(hx.block _ (by omega)).trans h.box,h.below.trans (Below.mono hx h.below.size)⟩
theorem Bt.own{w:World}{fv sv:Value}{ks:List Pt}{sm:Bool}{W W':World}{row:Option Nat}{B:Nat}(hB:w.heap.size<=B)(h:Bt w fv sv ks sm W)(hg:W.grownBy W' row)(hr:∀r,row=some r→B<=r/\∃o:Obj,W.heap[r]?=some o/\o.isCells=false):Bt w fv sv ks sm W':=by
 have hr':∀r,row=some r→∃o:Obj,W.heap[r]?=some o/\o.isCells=false:=fun r e=>(hr r e).2;obtain⟨v,hv,ho⟩:=h.out;refine⟨⟨v,FU hg hv hr',ho.kept hg ?_⟩,FU hg h.som hr',FU hg h.fn hr',FU hg h.box hr',h.below.grown hg h.below.size (fun k e=>Asl hB (hr k e).1)⟩
 rcases ho.2 with⟨rfl,_⟩|⟨g,cap,cur,rfl,_,hgb,_⟩
 ·exact .inl rfl
 ·refine .inr fun e=>?_;obtain⟨o,h1,h2⟩:=hr' g e.symm;rw [hgb]at h1
  cases h1
  cases h2
theorem mM{w:World}{B:Nat}{e:TypeId}{s n:Nat}{v:Value}{xs:List Value}(hs:0<s)(h:w.ownsRow B e s v n xs):∃A c,v=.slice A n c:=by
 obtain⟨A,c,h1,-,-,-⟩:=Ae.of_own' hs h;exact⟨A,c,h1⟩
theorem lU:33≠94:=by decide
theorem vu:4≠94:=by decide
theorem Alh:234≠94:=by decide
theorem Bt.put{w:World}{fv sv:Value}{ks:List Pt}{sm:Bool}{W:World}(h:Bt w fv sv ks sm W)(b:Bool):Bt w fv sv ks b (W.setCell ⟨w.heap.size+2,0,none⟩ (.bool b)):=by
 obtain⟨v,hv,ho⟩:=h.out;have K:∀k,k≠w.heap.size+2→(W.setCell ⟨w.heap.size+2,0,none⟩ (.bool b)).heap[k]?=W.heap[k]?:=fun k hk=>Below.heap_setCell W _ _ k hk;refine⟨⟨v,(K _ (by omega)).trans hv,?_⟩,one_setCell h.som,(K _ (by omega)).trans h.fn,(K _ (by omega)).trans h.box,h.below.setCell (by show w.heap.size<=w.heap.size+2;omega) _⟩;refine ownsRow_setCell_other ho ?_ _;intro e
 rcases ownsRow_ne ho h.som (fun cur e=>by first|cases e|exact vu (Obj.cells.inj e).2.1)with e'|e'
 ·rw [e']at e;cases e
 ·exact e' e
theorem rz{w W:World}(b:Bool):Cx w.heap.size (w.heap.size+3) W (W.setCell ⟨w.heap.size+2,0,none⟩ (.bool b)):=
 ⟨(Below.refl _ W).setCell (p:=⟨w.heap.size+2,0,none⟩) (by show w.heap.size<=w.heap.size+2;omega) _,Below.heap_setCell W _ _ _ (by show w.heap.size+3≠w.heap.size+2;omega)⟩
theorem Bt.app{w:World}{fv sv:Value}{ks:List Pt}{sm:Bool}{W w3:World}{v v':Value}{x:Pt}(h:Bt w fv sv ks sm W)(ho:W.ownsRow w.heap.size 94 2 v ks.length (F7 ks))
  (hown:w3.ownsRow w.heap.size 94 2 v' (ks.length+1) (F7 ks ++ [S (R x.x),S (R x.y)])) (hg:W.grownBy w3 v.ownBlock) :
  Bt w fv sv (ks ++ [x]) sm (w3.setCell ⟨w.heap.size+1,0,none⟩ v')/\KeepsOthers W (w3.setCell ⟨w.heap.size+1,0,none⟩ v')/\Cx w.heap.size (w.heap.size+3) W (w3.setCell ⟨w.heap.size+1,0,none⟩ v')/\(∃u,w3.cell? ⟨w.heap.size+1,0,none⟩=some u)/\w3.frozen? ⟨w.heap.size+1,0,none⟩=false/\w3.cell? ⟨w.heap.size+2,0,none⟩=some (.bool sm)/\w3.frozen? ⟨w.heap.size+2,0,none⟩=false:=by
 obtain⟨v0,hv,-⟩:=h.out;have hs:=h.size
 have ne_of:∀{j:Nat} {o:Obj},W.heap[j]?=some o→(∀cur,o≠.cells cur 94 (0,0))→some j≠v.ownBlock:=fun hj hno=>by
  rcases ownsRow_ne ho hj hno with e|e
  ·rw [e];simp
  ·exact fun e'=>e e'.symm
 have k1:=(hg.block (w.heap.size+1) (by omega) (ne_of hv (fun cur e=>by first|cases e|exact lU (Obj.cells.inj e).2.1))).trans hv;have k2:=(hg.block (w.heap.size+2) (by omega) (ne_of h.som (fun cur e=>by first|cases e|exact vu (Obj.cells.inj e).2.1))).trans h.som;have k0:=(hg.block (w.heap.size) (by omega) (ne_of h.fn (fun cur e=>by first|cases e|exact Alh (Obj.cells.inj e).2.1))).trans h.fn;have k3:=(hg.block (w.heap.size+3) (by omega) (ne_of h.box (fun cur e=>by first|cases e|exact lU (Obj.cells.inj e).2.1))).trans h.box;have K:∀k,k≠w.heap.size+1→(w3.setCell ⟨w.heap.size+1,0,none⟩ v').heap[k]?=w3.heap[k]?:=fun k hk=>Below.heap_setCell w3 _ _ k hk;have hb3:Below w.heap.size W w3:=(Below.refl _ W).grown hg (by omega) (fun k e=>(ho.lt k e).1);have hb4:=hb3.setCell (p:=⟨w.heap.size+1,0,none⟩) (by show w.heap.size<=w.heap.size+1;omega) v';refine⟨⟨⟨v',heap_setCell_box _ k1,?_⟩,(K _ (by omega)).trans k2,(K _ (by omega)).trans k0,(K _ (by omega)).trans k3,h.below.trans hb4⟩,?_,⟨hb4,(K _ (by omega)).trans (k3.trans h.box.symm)⟩,⟨_,(cell_of_box k1).1⟩,(cell_of_box k1).2,(cell_of_box k2).1,(cell_of_box k2).2⟩
 ·rw [List.length_append,yw];refine ownsRow_setCell_other hown ?_ _;intro e
  rcases ownsRow_ne hown k1 (fun cur e=>by first|cases e|exact lU (Obj.cells.inj e).2.1)with e'|e'
  ·rw [e']at e;cases e
  ·exact e' e
 ·refine(KeepsOthers.of_grownBy hg fun j o e hj=>?_).trans (KeepsOthers.setCell _ _ _)
  rcases ho.2 with⟨rfl,_⟩|⟨g,cap,cur,rfl,_,hgb,_⟩
  ·cases e
  ·simp only [Value.ownBlock,Ase]at e;subst e;rw [hgb]at hj
   cases hj
   rfl
def LX(f:Pt→Rat)(l:List Pt):List Pt:=if IU f l=true then Ha f l else []
def Adt(l:List Pt)(w:World)(e:Ending)(w':World):Prop:=
 ∃A' c',e=.returned (.slice A' l.length c')/\Ae w' A' (flat (Ak l))/\l.length<=c'/\c'<=9223372036854775807/\(l = []→A'=none/\c'=0)/\Aa w w'
theorem Alg(f:Pt→Rat)(pg:List Pt)(h0:0<pg.length)(hz:∀p∈pg,Aq 1 p)(hcut:∀k,k<pg.length→¬AI (f (BB pg k).1)*AI (f (BB pg k).2)<0):∃g:Nat→Nc f,∀k,k<pg.length→(g k).1=BB pg k:=by
 have hm:∀k,Aq 1 (pg.getD (k%pg.length) ⟨0,0⟩):=fun k=>by have:k%pg.length<pg.length:=Nat.mod_lt _ h0;rw [List.getD_eq_getElem?_getD,Asf this];exact hz _ (Asa this)
 have h2:∀k,k<pg.length→Aq 1 (BB pg k).1/\Aq 1 (BB pg k).2/\¬AI (f (BB pg k).1)*AI (f (BB pg k).2)<0:=fun k hk=>⟨by have:=hm k;rwa [Nat.mod_eq_of_lt hk]at this,hm (k+1),hcut k hk⟩;exact⟨fun k=>if h:k<pg.length then ⟨BB pg k,h2 k h⟩else ⟨BB pg 0,h2 0 h0⟩,fun k hk=>by simp [hk]⟩
theorem Alf{f:Pt→Rat}{pg:List Pt}{g:Nat→Nc f}(hg:∀k,k<pg.length→(g k).1=BB pg k):(upto g pg.length).map (·.1.1)=pg:=by
 apply List.ext_getElem
 ·simp [upto]
 ·intro k h1 h2;simp only [upto,List.getElem_map,List.getElem_range];rw [hg k h2];simp [BB,List.getD_eq_getElem?_getD,Asf h2]
def ET{f:Pt→Rat}(pre:List (Nc f)):List Pt:=pre.map (fun x=>x.1.1)
def PM(f:Pt→Rat)(w:World)(fv sv:Value)(pre:List (Nc f))(W:World):Prop:=Bt w fv sv (Ha f (ET pre)) (IU f (ET pre)) W
theorem PM.own{f:Pt→Rat}{w:World}{fv sv:Value}{B:Nat}(hB:w.heap.size<=B):OwnFrom B (PM f w fv sv):=fun _ _ _ _ h hg hr=>Bt.own hB h hg hr
def rA(x:Pt×Pt)(Ba Bb:Nat)(W:World):Prop:=W.heap[Ba]?=some (.cells #[S (R x.1.x),S (R x.1.y)] 94 (0,0))/\W.heap[Bb]?=some (.cells #[S (R x.2.x),S (R x.2.y)] 94 (0,0))
theorem rp (a b : Pt) (ha : Aq 1 a) (hb : Aq 1 b) (pg : List Pt) (hz : ∀ p ∈ pg, Aq 1 p) (Dn : 0 < pg.length) (ED : pg.length ≤ 60) (hcut : ∀ k, k < pg.length → ¬ AI (Ai a b (BB pg k).1) * AI (Ai a b (BB pg k).2) < 0)
    (A : Option Addr) (cap : Nat) (Ba Bb : Nat) (w : World) (hw : Al w) (hr : Ae w A (flat (Ak pg))) (_ : pg.length ≤ cap) (_ : cap ≤ 9223372036854775807)
    (dH : w.heap[Ba]? = some (.cells #[S (R a.x), S (R a.y)] 94 (0, 0))) (dJ : w.heap[Bb]? = some (.cells #[S (R b.x), S (R b.y)] 94 (0, 0))) :
    Calls Tryz.prog 174 #[.slice A pg.length cap, .func (.func 175) #[] #[.pointer (some ⟨Ba, 0, none⟩), .pointer (some ⟨Bb, 0, none⟩)]] w (Adt (LX (Ai a b) pg) w) := by
  obtain ⟨g, hg⟩ := Alg (Ai a b) pg Dn hz hcut
  obtain ⟨fv, Nw⟩ := ArV (Value.func (.func 175) #[] #[.pointer (some ⟨Ba, 0, none⟩), .pointer (some ⟨Bb, 0, none⟩)])
  obtain ⟨W0, hW0⟩ := ArV ((((w.alloc (.cells #[fv] 234)).alloc (.cells #[.slice none 0 0] 33)).alloc (.cells #[.bool false] 4)).alloc (.cells #[.slice A pg.length cap] 33))
  have hs0 : W0.heap.size = w.heap.size + 4 := by rw [hW0]; simp
  have hx0 : Aa w W0 := by rw [hW0]; exact ((((Aa.refl w).alloc _).alloc _).alloc _).alloc _
  have I7 : Bt w fv (.slice A pg.length cap) [] false W0 := by
    have b0 := ArY w (.cells #[fv] 234)
    have b1 := ArY (w.alloc (.cells #[fv] 234)) (.cells #[.slice none 0 0] 33)
    have b2 := ArY ((w.alloc (.cells #[fv] 234)).alloc (.cells #[.slice none 0 0] 33)) (.cells #[.bool false] 4)
    have b3 := ArY (((w.alloc (.cells #[fv] 234)).alloc (.cells #[.slice none 0 0] 33)).alloc (.cells #[.bool false] 4)) (.cells #[.slice A pg.length cap] 33)
    simp only [Ash] at b1 b2 b3
    rw [hW0]
    refine ⟨⟨.slice none 0 0, ?_, ⟨rfl, .inl ⟨rfl, rfl⟩⟩⟩, ?_, ?_, b3, hW0 ▸ hx0⟩
    · exact (Below.heap_alloc _ _ _ (by simp only [Ash]; omega)).trans ((Below.heap_alloc _ _ _ (by simp only [Ash]; omega)).trans b1)
    · exact (Below.heap_alloc _ _ _ (by simp only [Ash]; omega)).trans b2
    · exact (Below.heap_alloc _ _ _ (by simp only [Ash]; omega)).trans ((Below.heap_alloc _ _ _ (by simp only [Ash]; omega)).trans ((Below.heap_alloc _ _ _ (by simp only [Ash]; omega)).trans b0))
  rw [Nw] at hW0 I7
  refine (callsIn_wide (n := 4)).1 ?_
  refine callsIn_of_wp_marks Tryz.func174 rfl trivial ?_ rfl
  simp only [Tryz.ntmps174, List.size_toArray, List.length_cons, List.length_nil, Nat.reduceAdd, Nat.reduceSub, Array.replicate_succ, Array.replicate_zero, List.push_toArray, List.append_toArray, List.nil_append, List.cons_append]
  gi_wp2
  refine ⟨trivial, ?_⟩
  refine (zo Fence.wide 3 trivial rfl A pg.length cap _).mono ?_
  rintro e W3 ⟨rfl, rfl⟩
  gi_wp2
  rw [← hW0]
  rw [← Nw] at I7
  have CH := Ab (o := 0) I7.box rfl
  refine wpIn_rangeFunc_ownH rfl (by omega) (gf := 252) (lb := #[.pointer (some ⟨w.heap.size + 3, 0, none⟩)]) rfl trivial (enters_of Tryz.func252 (by kernel_rfl) rfl)
    (zv (fun x : Nc (Ai a b) => x.1) 3 (by omega) (w.heap.size + 3) w.heap.size A cap pg g hg W0 (by omega) (by omega) (by omega) CH ⟨w, hr, ArZ _, hx0⟩)
    (fun h k => h.trans k) (Cx.put (by omega) (by omega)) (Below.refl _ _) (fun _ => rfl)
    (PM (Ai a b) w fv (.slice A pg.length cap)) (fun _ _ _ => False)
    (PM.own (by omega)) (fun _ _ _ _ _ hs _ _ => hs) I7
    (fun x a' W => ∃ Gf Gg, rA x.1 Gf Gg W ∧ a' = { tmps := #[.slice A pg.length cap, .func (.func 175) #[] #[.pointer (some ⟨Ba, 0, none⟩), .pointer (some ⟨Bb, 0, none⟩)], undef, .pointer (some ⟨w.heap.size, 0, none⟩), .slice none 0 0, .pointer (some ⟨w.heap.size + 1, 0, none⟩), .pointer (some ⟨w.heap.size + 2, 0, none⟩), .pointer (some ⟨Gf, 0, none⟩), .pointer (some ⟨Gg, 0, none⟩), undef, undef, undef, undef, .slice A pg.length cap, .func (.func 252) #[] #[.pointer (some ⟨w.heap.size + 3, 0, none⟩)], Af x.1.1, Af x.1.2, undef, undef, undef, undef, undef, undef, undef, undef, undef, undef, undef, undef, undef, undef, undef, undef, undef, undef, undef, undef, undef, undef, undef, undef, undef, undef, undef, undef, undef, undef, undef, undef, undef, undef, undef, undef, undef, undef, undef, undef, undef, undef, undef, undef, undef, undef, undef, undef, undef, undef, undef], defers := [] })
    ?hAx ?assign ?body ?done ?stop
  case hAx =>
    rintro x a' s W W' row ⟨Gf, Gg, ⟨h1, h2⟩, rfl⟩ OK hr'
    exact ⟨Gf, Gg, ⟨FU OK h1 (fun r e => (hr' r e).2), FU OK h2 (fun r e => (hr' r e).2)⟩, rfl⟩
  case assign =>
    intro l pre x W K hi hK
    have hi : Bt w fv (.slice A pg.length cap) (Ha (Ai a b) (ET pre)) (IU (Ai a b) (ET pre)) W := hi
    have N7 := hi.size
    have e1 := ArY W (.cells #[S (R x.1.1.x), S (R x.1.1.y)] 94)
    have e2 := ArY (W.alloc (.cells #[S (R x.1.1.x), S (R x.1.1.y)] 94)) (.cells #[S (R x.1.2.x), S (R x.1.2.y)] 94)
    have X := ((Aa.refl W).alloc (.cells #[S (R x.1.1.x), S (R x.1.1.y)] 94)).alloc (.cells #[S (R x.1.2.x), S (R x.1.2.y)] 94)
    rw [Ash] at e2
    unfold Af
    gi_wp2
    exact hK _ _ (LY X) (Cx.of_ext X (by omega) (by omega)) (hi.ext X) ⟨_, _, ⟨(Below.heap_alloc _ _ _ (by simp only [Ash]; omega)).trans e1, e2⟩, rfl⟩
  case body =>
    rintro l pre x a' W hl AiS hI ⟨Gf, Gg, ⟨e1, e2⟩, rfl⟩ hlen
    subst Nw
    gi_wp2
    obtain ⟨z1, z2, hno⟩ := x.2
    have hs := Bt.size hI
    have Cu : Al W := hw.ext (Bt.below hI)
    have dI := (Below.block (Bt.below hI) _ (ArX dH)).trans dH
    have dK := (Below.block (Bt.below hI) _ (ArX dJ)).trans dJ
    obtain ⟨p1, p2, QP, Ui⟩ : ∃ p1 p2, p1 = x.1.1 ∧ p2 = x.1.2 := ⟨_, _, rfl, rfl⟩
    have hpre : ET (pre ++ [x]) = ET pre ++ [p1] := by unfold ET; rw [List.map_append, QP]; rfl
    rw [← QP] at z1
    rw [← Ui] at z2
    rw [← QP, ← Ui] at hno
    have MY : ∀ W', PM (Ai a b) w (.func (.func 175) #[] #[.pointer (some ⟨Ba, 0, none⟩), .pointer (some ⟨Bb, 0, none⟩)]) (.slice A pg.length cap) (pre ++ [x]) W' ↔ Bt w (.func (.func 175) #[] #[.pointer (some ⟨Ba, 0, none⟩), .pointer (some ⟨Bb, 0, none⟩)]) (.slice A pg.length cap) (Ha (Ai a b) (ET pre) ++ (if 0 ≤ Ai a b p1 then [p1] else [])) (IU (Ai a b) (ET pre) || decide (0 < Ai a b p1)) W' := fun W' => by unfold PM; rw [hpre, AjW, AnQ]
    have hI : Bt w (.func (.func 175) #[] #[.pointer (some ⟨Ba, 0, none⟩), .pointer (some ⟨Bb, 0, none⟩)]) (.slice A pg.length cap) (Ha (Ai a b) (ET pre)) (IU (Ai a b) (ET pre)) W := hI
    rw [← QP, ← Ui]
    rw [← QP] at e1
    rw [← Ui] at e2
    have CP : (Ha (Ai a b) (ET pre)).length ≤ 60 := by
      refine Asl (List.length_filter_le _ _) ?_
      unfold ET; rw [List.length_map]; omega
    obtain ⟨ks, J0⟩ := ArV (Ha (Ai a b) (ET pre))
    obtain ⟨sm, hsm⟩ := ArV (IU (Ai a b) (ET pre))
    rw [← J0] at hI CP MY
    rw [← hsm] at hI MY
    have q0 : ∀ q : Ac W, q.w.cell? ⟨w.heap.size, 0, none⟩ = some (.func (.func 175) #[] #[.pointer (some ⟨Ba, 0, none⟩), .pointer (some ⟨Bb, 0, none⟩)]) := Ac.cell (Ab hI.fn rfl)
    have q1 : ∀ q : Ac W, q.w.cell? ⟨Gf, 0, none⟩ = some (S (R p1.x)) := Ac.cell (Ab e1 rfl)
    have q2 : ∀ q : Ac W, q.w.cell? ⟨Gf, 1, none⟩ = some (S (R p1.y)) := Ac.cell (Ab e1 rfl)
    have q3 : ∀ q : Ac W, q.w.cell? ⟨Gg, 0, none⟩ = some (S (R p2.x)) := Ac.cell (Ab e2 rfl)
    have q4 : ∀ q : Ac W, q.w.cell? ⟨Gg, 1, none⟩ = some (S (R p2.y)) := Ac.cell (Ab e2 rfl)
    have ct := fun (q : Ac W) (p : Pt) (hp : Aq 1 p) => AjH a b p ha hb hp Ba Bb q.w (Cu.ext q.h) (q.h.cellS (Ab (o := 0) dI rfl)) (q.h.cellS (Ab (o := 1) dI rfl)) (q.h.cellS (Ab (o := 0) dK rfl)) (q.h.cellS (Ab (o := 1) dK rfl))
    have k1 := fun (q : Ac W) => ct q p1 z1
    have k2 := fun (q : Ac W) => ct q p2 z2
    unfold Af at k1 k2
    have JP := ArW MY
    clear ct hpre MY QP Ui J0 hsm dI dK
    refine Anh (by kernel_rfl) (by kernel_rfl) (by kernel_rfl) (by rintro ⟨_, _, h⟩; exact h) ?_
    repeat (go_big_quiet_step (first | with_reducible exact Lm (k1 _) | with_reducible exact Lm (k2 _)))
    refine wpQuiet_nil ?_
    rintro W7 ⟨q, hq⟩
    have AQ : Aa W W7 := hq ▸ q.h
    clear hq q q0 q1 q2 q3 q4 k1 k2
    have Ey := Bt.ext hI AQ
    obtain ⟨r1, hr1⟩ := ArV (Ai a b p1)
    obtain ⟨r2, hr2⟩ := ArV (Ai a b p2)
    rw [← hr1, ← hr2] at hno
    have MY := JP.out
    rw [← hr1] at MY
    rw [← hr1, ← hr2]
    have cs1 := fun (V : World) => Pv r1 V
    have SN := fun (V : World) => Pv r2 V
    obtain ⟨i0, hi, hz0, hz1, hz2⟩ := info_parts Tryz.infoPt
    have Qg := (AQ.block _ (ArX e1)).trans e1
    have hs2 := RD r2
    obtain ⟨s2, nk⟩ := ArV (AI r2)
    rw [← nk] at SN hno hs2
    have hs7 := Bt.size Ey
    have Zx := ArW MY
    clear JP hr1 hr2 nk MY e1 e2 hI dH dJ z1 z2
    rcases Ak8 r1 with LI | Uz | Cp
    · have Er := AaA LI
      have Uc : ¬ 0 ≤ r1 := Rat.not_le.2 LI
      have J1 : ¬ 0 < r1 := fun h => Uc (Rat.le_of_lt h)
      rw [Er] at cs1 hno
      have D1 : ¬ 0 < s2 := by omega
      gi_wp2
      refine ⟨trivial, ?_⟩
      refine (CallsIn.inRound l (callsIn_wide.2 (cs1 _))).mono ?_
      rintro e W8 ⟨rfl, Ch⟩
      gi_wp2
      refine ⟨trivial, ?_⟩
      refine (CallsIn.inRound l (callsIn_wide.2 (cs1 _))).mono ?_
      rintro e Wa ⟨rfl, Fg⟩
      gi_wp2
      refine ⟨trivial, ?_⟩
      refine (CallsIn.inRound l (callsIn_wide.2 (SN _))).mono ?_
      rintro e Wb ⟨rfl, hxb⟩
      gi_wp2
      have X := (AQ.trans Ch).trans (Fg.trans hxb)
      refine ⟨LY X, Cx.of_ext X (by omega) (by omega), (Zx.out _).2 ?_⟩
      rw [if_neg Uc, decide_eq_false J1, List.append_nil, Bool.or_false]
      exact Bt.ext Ey (Ch.trans (Fg.trans hxb))
    · have Er : AI r1 = 0 := by rw [Uz]; rfl
      have hle : 0 ≤ r1 := by rw [Uz]; decide
      have Ug : ¬ 0 < r1 := by rw [Uz]; decide
      have Bg : (R r1 == [48]) = true := by rw [beq_iff_eq]; exact rG.2 Uz
      have Bo : (R r1 != [48]) = false := by rw [bne, Bg]; rfl
      clear Uz
      rw [Er] at cs1 hno
      gi_wp2
      refine ⟨trivial, ?_⟩
      refine (CallsIn.inRound l (callsIn_wide.2 (cs1 _))).mono ?_
      rintro e W8 ⟨rfl, Ch⟩
      have Kj := Bt.ext Ey Ch
      have my := Bt.size Kj
      obtain ⟨v, hv, ho⟩ := Kj.out
      obtain ⟨vA, vc, rfl⟩ := mM (by omega) ho
      have f1 := (cell_of_box hv).1
      have SU := (Ch.block _ (ArX Qg)).trans Qg
      have f2 := Ab (o := 0) SU rfl
      have f3 := Ab (o := 1) SU rfl
      have X8 := AQ.trans Ch
      clear Qg Ey AQ Ch
      cases sm
      all_goals (
        gi_wp2_with (gi_at_builtin; refine wpListIn_append_own _ rfl _ _ 33 rfl w.heap.size 94 i0 (.agg #[S [], S []]) 2 32 Tryz.underlying33 hi hz0 hz1 hz2 rfl (by decide) _ _ _ rfl (ho.alloc _) ⟨W8.heap.size, 0, none⟩ 1 1 [S (R p1.x), S (R p1.y)] rfl rfl (aV _ _ _ _) (by simp [Value.oneCell']) (by unfold maxLen; omega) (by omega) (by simp; omega) ?_; intro v' w3 hown' hg3 hnil3
                     obtain ⟨Ty, fJ, fK, ⟨u3, hc3⟩, hf3, gh, Aia⟩ := Bt.app (x := p1) (Bt.ext Kj ((Aa.refl W8).alloc (.cells #[S (R p1.x), S (R p1.y)] 94))) (ho.alloc _) hown' hg3
                     obtain ⟨g', cap', kH⟩ : ∃ g' cap', v' = .slice (some ⟨g', 0, none⟩) (ks.length + 1) cap' := by
                       rcases hown'.2 with ⟨_, h0⟩ | ⟨g', cap', _, h', _⟩
                       · exact absurd h0 (by omega)
                       · exact ⟨g', cap', h'⟩
                     subst kH
                     clear hown' hg3 hnil3
                     go_frame)
        refine ⟨trivial, ?_⟩
        refine (CallsIn.inRound l (callsIn_wide.2 (cs1 _))).mono ?_
        rintro e Wa ⟨rfl, Fg⟩
        gi_wp2
        refine ⟨trivial, ?_⟩
        refine (CallsIn.inRound l (callsIn_wide.2 (SN _))).mono ?_
        rintro e Wb ⟨rfl, hxb⟩
        gi_wp2
        have hP := fun b => Bt.put Ty b
        have XM := Bt.size Ty
        have X := Fg.trans hxb
        refine ⟨((LY (X8.alloc _)).trans ((fJ.trans (KeepsOthers.setCell _ _ _)).from _)).trans (LY X), (((Cx.of_ext (Bs := w.heap.size + 3) (X8.alloc _) (by omega) (by omega)).trans fK).trans (rz _)).trans (Cx.of_ext X (by rw [World.size_setCell]; omega) (by rw [World.size_setCell]; omega)), (Zx.out _).2 ?_⟩
        rw [if_pos hle]
        simp only [decide_eq_false Ug, Bool.or_false]
        exact Bt.ext (hP _) X)
    · have Er := nU Cp
      have hle : 0 ≤ r1 := Rat.le_of_lt Cp
      have D1 : ¬ s2 < 0 := by
        intro h
        rw [Er] at hno
        omega
      have Bg : (R r1 == [48]) = false := Ho (fun e => by rw [e] at Cp; exact absurd Cp (by decide))
      have Bo : (R r1 != [48]) = true := by rw [bne, Bg]; rfl
      rw [Er] at cs1 hno
      gi_wp2
      refine ⟨trivial, ?_⟩
      refine (CallsIn.inRound l (callsIn_wide.2 (cs1 _))).mono ?_
      rintro e W8 ⟨rfl, Ch⟩
      have Kj := Bt.ext Ey Ch
      have my := Bt.size Kj
      obtain ⟨v, hv, ho⟩ := Kj.out
      obtain ⟨vA, vc, rfl⟩ := mM (by omega) ho
      have f1 := (cell_of_box hv).1
      have SU := (Ch.block _ (ArX Qg)).trans Qg
      have f2 := Ab (o := 0) SU rfl
      have f3 := Ab (o := 1) SU rfl
      have X8 := AQ.trans Ch
      clear Qg Ey AQ Ch
      cases sm
      all_goals (
        gi_wp2_with (gi_at_builtin; refine wpListIn_append_own _ rfl _ _ 33 rfl w.heap.size 94 i0 (.agg #[S [], S []]) 2 32 Tryz.underlying33 hi hz0 hz1 hz2 rfl (by decide) _ _ _ rfl (ho.alloc _) ⟨W8.heap.size, 0, none⟩ 1 1 [S (R p1.x), S (R p1.y)] rfl rfl (aV _ _ _ _) (by simp [Value.oneCell']) (by unfold maxLen; omega) (by omega) (by simp; omega) ?_; intro v' w3 hown' hg3 hnil3
                     obtain ⟨Ty, fJ, fK, ⟨u3, hc3⟩, hf3, gh, Aia⟩ := Bt.app (x := p1) (Bt.ext Kj ((Aa.refl W8).alloc (.cells #[S (R p1.x), S (R p1.y)] 94))) (ho.alloc _) hown' hg3
                     obtain ⟨g', cap', kH⟩ : ∃ g' cap', v' = .slice (some ⟨g', 0, none⟩) (ks.length + 1) cap' := by
                       rcases hown'.2 with ⟨_, h0⟩ | ⟨g', cap', _, h', _⟩
                       · exact absurd h0 (by omega)
                       · exact ⟨g', cap', h'⟩
                     subst kH
                     clear hown' hg3 hnil3
                     go_frame)
        refine ⟨trivial, ?_⟩
        refine (CallsIn.inRound l (callsIn_wide.2 (cs1 _))).mono ?_
        rintro e Wa ⟨rfl, Fg⟩
        gi_wp2
        refine ⟨trivial, ?_⟩
        refine (CallsIn.inRound l (callsIn_wide.2 (SN _))).mono ?_
        rintro e Wb ⟨rfl, hxb⟩
        gi_wp2
        have hP := fun b => Bt.put Ty b
        have XM := Bt.size Ty
        have X := Fg.trans hxb
        refine ⟨((LY (X8.alloc _)).trans ((fJ.trans (KeepsOthers.setCell _ _ _)).from _)).trans (LY X), (((Cx.of_ext (Bs := w.heap.size + 3) (X8.alloc _) (by omega) (by omega)).trans fK).trans (rz _)).trans (Cx.of_ext X (by rw [World.size_setCell]; omega) (by rw [World.size_setCell]; omega)), (Zx.out _).2 ?_⟩
        rw [if_pos hle]
        simp only [decide_eq_true Cp, Bool.or_true]
        exact Bt.ext (hP _) X)
  case done =>
    rintro D ys W hD rfl hI hK
    have hI : Bt w fv (.slice A pg.length cap) (Ha (Ai a b) (ET (upto g pg.length))) (IU (Ai a b) (ET (upto g pg.length))) W := hI
    rw [show ET (upto g pg.length) = pg from Alf hg] at hI
    have my := Bt.size hI
    obtain ⟨v, hv, ho⟩ := hI.out
    obtain ⟨vA, vc, rfl⟩ := mM (by omega) ho
    have f1 := (cell_of_box hv).1
    have f2 := (cell_of_box hI.som).1
    have Q4 := Bt.below hI
    obtain ⟨sm, hsm⟩ := ArV (IU (Ai a b) pg)
    rw [← hsm] at f2
    have cd : Aa w (W.putObj D (.deferred none)) := Q4.trans (belowK_b (w := w) (ArZ _) W D _ _ (by omega) hK rfl rfl)
    have ho2 := ho.kept (grownBy_putObj W D (.deferred none)) (ownsRow_ne ho hK (fun cur e => by cases e))
    obtain ⟨A2, c2, hv2, J3, hc1, hc2⟩ := Ae.of_own' (by omega) ho2
    simp only [Value.slice.injEq, true_and] at hv2
    obtain ⟨rfl, rfl⟩ := hv2
    have hk0 : sm = false → LX (Ai a b) pg = [] := fun h => by unfold LX; rw [← hsm, h]; rfl
    have BX : sm = true → LX (Ai a b) pg = Ha (Ai a b) pg := fun h => by unfold LX; rw [← hsm, if_pos h]
    have hnil : sm = true → Ha (Ai a b) pg = [] → vA = none ∧ vc = 0 := fun h e => by
      exfalso
      rw [hsm] at h
      unfold IU at h
      rw [List.any_eq_true] at h
      obtain ⟨p, hp, h⟩ := h
      have : p ∈ Ha (Ai a b) pg := List.mem_filter.2 ⟨hp, decide_eq_true (Rat.le_of_lt (of_decide_eq_true h))⟩
      rw [e] at this
      cases this
    clear hI hsm
    cases sm
    · gi_wp2
      refine ⟨by simp, .inl ⟨_, _, rfl, run_takeDeferred hK, ?_⟩⟩
      refine ⟨_, results_tmp rfl _ _ _, ?_⟩
      exact ⟨none, 0, rfl, ⟨fun h => by simp [flat, Ak] at h⟩, ArZ _, by omega, fun _ => ⟨rfl, rfl⟩, cd⟩
    · gi_wp2
      refine ⟨by simp, .inl ⟨_, _, rfl, run_takeDeferred hK, ?_⟩⟩
      refine ⟨_, results_tmp rfl _ _ _, ?_⟩
      exact ⟨vA, vc, rfl, J3, hc1, hc2, hnil trivial, cd⟩
  case stop =>
    rintro D c pre W _ _ h _
    exact h.elim
end
section
attribute [local go_sem] Oper.semAt_some
theorem AeA(p q:List Pt)(hp:Oq p)(hq:Oq q)(Ra:∀x∈p,Aq 1 x)(LU:∀x∈q,Aq 1 x)(A B:Option Addr)(c d blk:Nat)(w:World)(hw:Al w)
  (hA:Ae w A (flat (Ak p))) (hB:Ae w B (flat (Ak q))) (hc:p.length<=c) (hc2:c<=9223372036854775807) (hd:q.length<=d) (GN:d<=9223372036854775807)
  (c0:w.cell? ⟨blk,0,none⟩=some (.slice A p.length c)) (c1:w.cell? ⟨blk,1,none⟩=some (.slice B q.length d)) :
  Calls Tryz.prog 172 #[.slice (some ⟨blk,0,none⟩) 2 2] w (Av 0 w):=by
 have k1:=fun (W:World) (hx:Aa w W)=>mQ p hp Ra (by omega) (by omega) A c W (hw.ext hx) (hA.ext hx) hc hc2;have k2:=fun (W:World) (hx:Aa w W)=>mQ q hq LU (by omega) (by omega) B d W (hw.ext hx) (hB.ext hx) hd GN;clear hp hq Ra LU hA hB;go_enter Tryz.func172,Tryz.ntmps172;go_wp2
 go_loopw [8] (fun i wr=>(i=.int .i64 0∨i=.int .i64 1∨i=.int .i64 2)/\Aa w wr) (fun i _=>2-(intOf i).toNat)
 case atStart=>exact⟨.inl rfl,Aa.refl _⟩
 case round=>
  obtain⟨h,hx⟩:=hrel;have d0:=hx.cellS c0;have d1:=hx.cellS c1
  rcases h with rfl|rfl|rfl
  ·have k:=k1 wr hx;clear k1 k2 c0 c1;(go_wp2_with fail);(with_reducible refine k.mono ?_);rintro e w2 ⟨rfl,hx2⟩;go_wp2;go_roundw
   case rel=>exact⟨.inr (.inl rfl),hx.trans hx2⟩
   case measure=>simp [intOf]
  ·have k:=k2 wr hx;clear k1 k2 c0 c1;(go_wp2_with fail);(with_reducible refine k.mono ?_);rintro e w2 ⟨rfl,hx2⟩;go_wp2;go_roundw
   case rel=>exact⟨.inr (.inr rfl),hx.trans hx2⟩
   case measure=>simp [intOf]
  ·clear k1 k2 c0 c1;go_wp2;go_ret;exact⟨rfl,hx⟩
theorem Ae.keptM{W W':World}{row:Option Nat}{A:Option Addr}{cs:List Value}(h:Ae W A cs)(hg:W.grownBy W' row)(hr:∀r,row=some r→∃o:Obj,W.heap[r]?=some o/\o.isCells=false):Ae W' A cs:=
 ⟨fun h0=>by
  obtain⟨b,o,e,hc⟩:=h.ad h0
  exact⟨b,o,e,fun j hj=>cell_kept (hc j hj) hg hr⟩⟩
def Mn(p:List Pt)(s:Pt×Pt):Prop:=(∀x∈p,0<=Ai s.1 s.2 x)/\∃x∈p,0<Ai s.1 s.2 x
def KG(p:List Pt)(s:Pt×Pt):Prop:=∀x∈p,Ai s.1 s.2 x<=0
abbrev Sd(p:List Pt):={s:Pt×Pt // Aq 1 s.1/\Aq 1 s.2/\(Mn p s∨KG p s)}
theorem AnC(p q:List Pt)(h0:0<q.length)(hz:∀x∈q,Aq 1 x)(hs:∀k,k<q.length→Mn p (BB q k)∨KG p (BB q k)):∃g:Nat→Sd p,∀k,k<q.length→(g k).1=BB q k:=by
 have hm:∀k,Aq 1 (q.getD (k%q.length) ⟨0,0⟩):=fun k=>by have:k%q.length<q.length:=Nat.mod_lt _ h0;rw [List.getD_eq_getElem?_getD,Asf this];exact hz _ (Asa this)
 have h2:∀k,k<q.length→Aq 1 (BB q k).1/\Aq 1 (BB q k).2/\(Mn p (BB q k)∨KG p (BB q k)):=fun k hk=>⟨by have:=hm k;rwa [Nat.mod_eq_of_lt hk]at this,hm (k+1),hs k hk⟩;exact⟨fun k=>if h:k<q.length then ⟨BB q k,h2 k h⟩else ⟨BB q 0,h2 0 h0⟩,fun k hk=>by simp [hk]⟩
theorem YQ{p:List Pt}{k:Nat}(hk:k<p.length):(BB p k).1∈p/\(BB p k).2∈p:=by
 have h2:(k+1)%p.length<p.length:=Nat.mod_lt _ (by omega);unfold BB;rw [List.getD_eq_getElem?_getD,Asf hk,List.getD_eq_getElem?_getD,Asf h2];exact⟨Asa hk,Asa h2⟩
theorem AaC{r:Rat}(h:0<=r):0<=AI r:=by
 unfold AI;rw [if_neg (Rat.not_lt.2 h)];split<;>omega
theorem AaD{r:Rat}(h:r<=0):AI r<=0:=by
 unfold AI;by_cases h0:r=0
 ·rw [if_pos h0];omega
 ·rw [if_neg h0,if_pos ((Rat.le_iff_lt_or_eq.1 h).resolve_right h0)];omega
theorem AjQ{p:List Pt}{s:Pt×Pt}(h:Mn p s):LX (Ai s.1 s.2) p=p:=by
 unfold LX;rw [if_pos]
 ·exact List.filter_eq_self.2 fun x hx=>decide_eq_true (h.1 x hx)
 ·obtain⟨x,hx,h0⟩:=h.2;exact List.any_eq_true.2 ⟨x,hx,decide_eq_true h0⟩
theorem AjP{p:List Pt}{s:Pt×Pt}(h:KG p s):LX (Ai s.1 s.2) p = []:=by
 unfold LX;rw [if_neg];intro h2;obtain⟨x,hx,h0⟩:=List.any_eq_true.1 h2;exact Rat.not_lt.2 (h x hx) (of_decide_eq_true h0)
theorem Alq{p:List Pt}{s:Pt×Pt}(h:Mn p s):∀k,k<p.length→¬AI (Ai s.1 s.2 (BB p k).1)*AI (Ai s.1 s.2 (BB p k).2)<0:=fun k hk=>by
 have h1:=AaC (h.1 _ (YQ hk).1);have h2:=AaC (h.1 _ (YQ hk).2);exact Int.not_lt.2 (Int.mul_nonneg h1 h2)
theorem Alp{p:List Pt}{s:Pt×Pt}(h:KG p s):∀k,k<p.length→¬AI (Ai s.1 s.2 (BB p k).1)*AI (Ai s.1 s.2 (BB p k).2)<0:=fun k hk=>by
 have h1:=AaD (h _ (YQ hk).1);have h2:=AaD (h _ (YQ hk).2);exact Int.not_lt.2 (Int.mul_nonneg_of_nonpos_of_nonpos h1 h2)
theorem Aeo{w:World}{b o:Nat}{cs:Array Value}{t:TypeId}{fz:Nat×Nat}{v:Value}(h:w.heap[b]?=some (.cells cs t fz))(hc:w.cell? ⟨b,o,none⟩=some v):cs[o]?=some v:=by
 cases e:cs[o]? with
 | some u=>
  have h2:=hc;simp [World.cell?,h,e]at h2;rw [←h2]
 | none=>simp [World.cell?,h,e]at hc
structure Fp(w:World)(bo:Nat)(p:List Pt)(sv:Value)(W:World):Prop where
 c4:∃v,W.heap[w.heap.size]?=some (.cells #[v] 33 (0,0))
 c5:∃v,W.heap[w.heap.size+1]?=some (.cells #[v] 4 (0,0))
 c6:∃v,W.heap[w.heap.size+2]?=some (.cells #[v] 27 (0,0))
 out:∃A c,W.heap[bo]?=some (.cells #[.slice A p.length c] 33 (0,0))/\Ae W A (flat (Ak p))/\p.length<=c/\c<=9223372036854775807
 box:W.heap[bo+1]?=some (.cells #[sv] 33 (0,0))
 below:Below w.heap.size w W
def InJ(w:World)(bo:Nat)(p:List Pt)(sv:Value)(pre:List (Sd p))(W:World):Prop:=Fp w bo p sv W/\∀s∈pre,Mn p s.1
theorem Fp.own{w:World}{bo:Nat}{p:List Pt}{sv:Value}{W W':World}{row:Option Nat}{B:Nat}(hB:w.heap.size<=B)(h:Fp w bo p sv W)(hg:W.grownBy W' row)(hr:∀r,row=some r→B<=r/\∃o:Obj,W.heap[r]?=some o/\o.isCells=false):Fp w bo p sv W':=by
 have hr':∀r,row=some r→∃o:Obj,W.heap[r]?=some o/\o.isCells=false:=fun r e=>(hr r e).2;obtain⟨v4,h4⟩:=h.c4;obtain⟨v5,h5⟩:=h.c5;obtain⟨v6,h6⟩:=h.c6;obtain⟨A,c,ho,Bh,h1,h2⟩:=h.out;exact⟨⟨v4,FU hg h4 hr'⟩,⟨v5,FU hg h5 hr'⟩,⟨v6,FU hg h6 hr'⟩,⟨A,c,FU hg ho hr',Bh.keptM hg hr',h1,h2⟩,FU hg h.box hr',h.below.grown hg h.below.size (fun k e=>Asl hB (hr k e).1)⟩
theorem Fp.ext{w:World}{bo:Nat}{p:List Pt}{sv:Value}{W W':World}(h:Fp w bo p sv W)(hx:Aa W W'):Fp w bo p sv W':=by
 obtain⟨v4,h4⟩:=h.c4;obtain⟨v5,h5⟩:=h.c5;obtain⟨v6,h6⟩:=h.c6;obtain⟨A,c,ho,Bh,h1,h2⟩:=h.out;exact⟨⟨v4,(hx.block _ (ArX h4)).trans h4⟩,⟨v5,(hx.block _ (ArX h5)).trans h5⟩,⟨v6,(hx.block _ (ArX h6)).trans h6⟩,⟨A,c,(hx.block _ (ArX ho)).trans ho,Bh.ext hx,h1,h2⟩,(hx.block _ (ArX h.box)).trans h.box,h.below.trans (Below.mono hx h.below.size)⟩
theorem Fp.put{w:World}{bo:Nat}{p:List Pt}{sv:Value}{W:World}(h:Fp w bo p sv W)(Gr:w.heap.size+3<=bo){A:Option Addr}{c:Nat}(Bh:Ae W A (flat (Ak p)))(hne:∀x,A=some x→x.block≠bo)(h1:p.length<=c)(h2:c<=9223372036854775807) :
  Fp w bo p sv (W.setCell ⟨bo,0,none⟩ (.slice A p.length c))/\Cx w.heap.size (bo+1) W (W.setCell ⟨bo,0,none⟩ (.slice A p.length c)):=by
 obtain⟨v4,h4⟩:=h.c4;obtain⟨v5,h5⟩:=h.c5;obtain⟨v6,h6⟩:=h.c6;obtain⟨A0,c0,ho,-,-,-⟩:=h.out;have K:∀k,k≠bo→(W.setCell ⟨bo,0,none⟩ (.slice A p.length c)).heap[k]?=W.heap[k]?:=fun k hk=>Below.heap_setCell W _ _ k hk;have hb:=(Below.refl w.heap.size W).setCell (p:=⟨bo,0,none⟩) (by show w.heap.size<=bo;omega) (.slice A p.length c);refine⟨⟨⟨v4,(K _ (by omega)).trans h4⟩,⟨v5,(K _ (by omega)).trans h5⟩,⟨v6,(K _ (by omega)).trans h6⟩,⟨A,c,heap_setCell_box _ ho,⟨fun h0=>?_⟩,h1,h2⟩,(K _ (by omega)).trans h.box,h.below.trans hb⟩,hb,K _ (by omega)⟩;obtain⟨b,o,e,hc⟩:=Bh.ad h0;exact⟨b,o,e,fun j hj=>(World.cell?_of_block (a:=⟨b,o+j,none⟩) (K b (hne _ e))).trans (hc j hj)⟩
def InX(w:World)(c:Code)(W:World):Prop:=c=.ret/\W.heap[w.heap.size]?=some (.cells #[.slice none 0 0] 33 (0,0))/\W.heap[w.heap.size+1]?=some (.cells #[.bool false] 4 (0,0))/\W.heap[w.heap.size+2]?=some (.cells #[.int .i64 0] 27 (0,0))/\Below w.heap.size w W
def Vv(p:List Pt)(w:World)(c:Code)(_:List (Sd p))(W:World):Prop:=InX w c W
theorem Vv.own{p:List Pt}{w:World}{c:Code}{B:Nat}(hB:w.heap.size<=B):OwnFrom B (Vv p w c):=by
 rintro s W W' row ⟨rfl,h4,h5,h6,hb⟩ hg hr;have hr':∀r,row=some r→∃o:Obj,W.heap[r]?=some o/\o.isCells=false:=fun r e=>(hr r e).2;exact⟨rfl,FU hg h4 hr',FU hg h5 hr',FU hg h6 hr',hb.grown hg hb.size (fun k e=>Asl hB (hr k e).1)⟩
def Adv(w:World)(e:Ending)(w':World):Prop:=e=.returned (.tuple #[.slice none 0 0,.bool false,.int .i64 0])/\Aa w w'
theorem AjI(p q:List Pt)(hp:Oq p)(hq:Oq q)(Ra:∀x∈p,Aq 1 x)(LU:∀x∈q,Aq 1 x)(hs:∀k,k<q.length→Mn p (BB q k)∨KG p (BB q k))(AhE:∃k,k<q.length/\KG p (BB q k))
  (A B:Option Addr) (c d:Nat) (w:World) (hw:Al w) (hA:Ae w A (flat (Ak p))) (hB:Ae w B (flat (Ak q))) (hc:p.length<=c) (hc2:c<=9223372036854775807) (hd:q.length<=d) (GN:d<=9223372036854775807) :
  Calls Tryz.prog 102 #[.slice A p.length c,.slice B q.length d] w (Adv w):=by
 have jN:=hp.n3;have kh:=hp.n60;have kr:=hq.n3;have Arh:=hq.n60;obtain⟨g,hg⟩:=AnC p q (by omega) LU hs;have X0:=((((Aa.refl w).alloc (.cells #[.slice none 0 0] 33)).alloc (.cells #[.bool false] 4)).alloc (.cells #[.int .i64 0] 27)).alloc (.cells #[.slice A p.length c,.slice B q.length d] 33);have b0:=ArY w (.cells #[.slice none 0 0] 33);have b1:=ArY (w.alloc (.cells #[.slice none 0 0] 33)) (.cells #[.bool false] 4);have b2:=ArY ((w.alloc (.cells #[.slice none 0 0] 33)).alloc (.cells #[.bool false] 4)) (.cells #[.int .i64 0] 27);have b3:=ArY (((w.alloc (.cells #[.slice none 0 0] 33)).alloc (.cells #[.bool false] 4)).alloc (.cells #[.int .i64 0] 27)) (.cells #[.slice A p.length c,.slice B q.length d] 33);simp only [Ash]at b1 b2 b3;have ck:=AeA p q hp hq Ra LU A B c d (w.heap.size+1+1+1) _ (hw.ext X0) (hA.ext X0) (hB.ext X0) hc hc2 hd GN (Ab (o:=0) b3 rfl) (Ab (o:=1) b3 rfl);have B0:=(Below.heap_alloc ((w.alloc (.cells #[.slice none 0 0] 33)).alloc (.cells #[.bool false] 4)) (.cells #[.int .i64 0] 27) w.heap.size (by simp only [Ash];omega)).trans ((Below.heap_alloc _ _ _ (by simp only [Ash];omega)).trans b0);have B1:=(Below.heap_alloc ((w.alloc (.cells #[.slice none 0 0] 33)).alloc (.cells #[.bool false] 4)) (.cells #[.int .i64 0] 27) (w.heap.size+1) (by simp only [Ash];omega)).trans b1;obtain⟨V,hV⟩:=ArV (((w.alloc (.cells #[.slice none 0 0] 33)).alloc (.cells #[.bool false] 4)).alloc (.cells #[.int .i64 0] 27));have m7:V.heap.size=w.heap.size+3:=(by rw [hV];simp only [Ash]);rw [←hV]at X0 ck B0 B1 b2;have EV:=(Aa.refl V).alloc (.cells #[.slice A p.length c,.slice B q.length d] 33);refine(callsIn_wide (n:=4)).1 ?_;refine callsIn_of_wp_marks Tryz.func102 rfl trivial ?_ rfl;simp only [Tryz.ntmps102,List.size_toArray,List.length_cons,List.length_nil,Nat.reduceAdd,Nat.reduceSub,Array.replicate_succ,Array.replicate_zero,List.push_toArray,List.append_toArray,List.nil_append,List.cons_append];gi_wp2;refine⟨trivial,?_⟩;rw [←hV];refine(callsIn_wide.2 ck).mono ?_;rintro e w1 ⟨rfl,hx1⟩;have V8:=X0.trans hx1;have hs1:=(EV.trans hx1).size;have d0:=((EV.trans hx1).block _ (by omega)).trans B0;have d1:=((EV.trans hx1).block _ (by omega)).trans B1;have d2:=((EV.trans hx1).block _ (by omega)).trans b2;have HSV:=ArW m7;have Aje:w.heap.size+3<=w1.heap.size:=(by omega);clear hV m7 b0 b1 b2 b3 ck B0 B1 EV hx1 hs1 X0;gi_wp2;refine⟨trivial,?_⟩;refine(zo Fence.wide 3 trivial rfl B q.length d _).mono ?_;rintro e W3 ⟨rfl,rfl⟩;gi_wp2;obtain⟨bo,Gr⟩:=ArV w1.heap.size;have E2:=((Aa.refl w1).alloc (.cells #[.slice A p.length c] 33)).alloc (.cells #[.slice B q.length d] 33);have g1:=ArY w1 (.cells #[.slice A p.length c] 33);have g2:=ArY (w1.alloc (.cells #[.slice A p.length c] 33)) (.cells #[.slice B q.length d] 33);have hs2:((w1.alloc (.cells #[.slice A p.length c] 33)).alloc (.cells #[.slice B q.length d] 33)).heap.size=w1.heap.size+2:=(by simp only [Ash]);replace g1:=(Below.heap_alloc (w1.alloc (.cells #[.slice A p.length c] 33)) (.cells #[.slice B q.length d] 33) _ (by simp only [Ash];omega)).trans g1
 rw [Ash]at g2;rw [←Gr]at g1 g2 ⊢;have hlt:=fun (k:Nat) (o:Obj) (h:w1.heap[k]?=some o)=>(E2.block k (ArX h)).trans h
 have I7:Fp w bo p (.slice B q.length d) ((w1.alloc (.cells #[.slice A p.length c] 33)).alloc (.cells #[.slice B q.length d] 33)):=
  ⟨⟨_,hlt _ _ d0⟩,⟨_,hlt _ _ d1⟩,⟨_,hlt _ _ d2⟩,⟨A,c,g1,hA.ext (V8.trans E2),hc,hc2⟩,g2,V8.trans E2⟩
 have Uw:=V8.trans E2;generalize (w1.alloc (.cells #[.slice A p.length c] 33)).alloc (.cells #[.slice B q.length d] 33)=W0 at *;have hs0:bo+2<=W0.heap.size:=(by omega);have AhK:w.heap.size+3<=bo:=(by omega);clear hs2 g1 d0 d1 d2 hlt E2 V8 Aje Gr HSV;have CH:=Ab (o:=0) g2 rfl
 refine wpIn_rangeFunc_ownH rfl (by omega) (gf:=252) (lb:=#[.pointer (some ⟨bo+1,0,none⟩)]) rfl trivial (enters_of Tryz.func252 (by kernel_rfl) rfl)
  (zv (fun x:Sd p=>x.1) 3 (by omega) (bo+1) w.heap.size B d q g hg W0 (by omega) (by omega) (by omega) CH ⟨w,hB,ArZ _,Uw⟩)
  (fun h k=>h.trans k) (Cx.put (by omega) (by omega)) (Below.refl _ _) (fun _=>rfl)
  (InJ w bo p (.slice B q.length d)) (Vv p w)
  (fun s W W' row h OK hr'=>⟨Fp.own (by omega) h.1 OK hr',h.2⟩) (fun _=>Vv.own (by omega)) ⟨I7,fun s hs=>by cases hs⟩
  (fun x a' W=>∃Gf Gg,rA x.1 Gf Gg W/\a' = {tmps:=#[.slice A p.length c,.slice B q.length d,undef,undef,.pointer (some ⟨w.heap.size,0,none⟩),.pointer (some ⟨w.heap.size+1,0,none⟩),.pointer (some ⟨w.heap.size+2,0,none⟩),.int .i64 0,.pointer (some ⟨bo,0,none⟩),.pointer (some ⟨Gf,0,none⟩),.pointer (some ⟨Gg,0,none⟩),.slice A p.length c,.slice B q.length d,.slice (some ⟨w.heap.size+3,0,none⟩) 2 2,.int .i64 0,.int .i64 0,.bool false,undef,.slice A p.length c,.slice B q.length d,.func (.func 252) #[] #[.pointer (some ⟨bo+1,0,none⟩)],Af x.1.1,Af x.1.2,undef,undef,undef,undef,undef,undef,undef,undef,undef,undef,undef,undef,undef,undef],defers:=[]})
  ?hAx ?assign ?body ?done ?stop
 case hAx=>rintro x a' s W W' row ⟨Gf,Gg,⟨h1,h2⟩,rfl⟩ OK hr';exact⟨Gf,Gg,⟨FU OK h1 (fun r e=>(hr' r e).2),FU OK h2 (fun r e=>(hr' r e).2)⟩,rfl⟩
 case assign=>intro l pre x W K hi hK;have N7:bo+1<W.heap.size:=ArX hi.1.box;have e1:=ArY W (.cells #[S (R x.1.1.x),S (R x.1.1.y)] 94);have e2:=ArY (W.alloc (.cells #[S (R x.1.1.x),S (R x.1.1.y)] 94)) (.cells #[S (R x.1.2.x),S (R x.1.2.y)] 94);have X:=((Aa.refl W).alloc (.cells #[S (R x.1.1.x),S (R x.1.1.y)] 94)).alloc (.cells #[S (R x.1.2.x),S (R x.1.2.y)] 94);rw [Ash]at e2;unfold Af;gi_wp2;exact hK _ _ (LY X) (Cx.of_ext X (by omega) (by omega)) ⟨Fp.ext hi.1 X,hi.2⟩ ⟨_,_,⟨(Below.heap_alloc _ _ _ (by simp only [Ash];omega)).trans e1,e2⟩,rfl⟩
 case body=>
  rintro l pre x a' W hl AiS ⟨hI,ON⟩ ⟨Gf,Gg,⟨e1,e2⟩,rfl⟩ hlen;obtain⟨z1,z2,hgb⟩:=x.2;obtain⟨A1,c1,ho,Bh,h1,h2⟩:=hI.out;have Cu:Al W:=hw.ext hI.below;have f0:=(cell_of_box ho).1;have f1:=(cell_of_box ho).2;have N7:bo+1<W.heap.size:=ArX hI.box
  rcases hgb with hgd|bj
  ·have kp:=rp x.1.1 x.1.2 z1 z2 p Ra (by omega) kh (Alq hgd) A1 c1 Gf Gg W Cu Bh h1 h2 e1 e2;rw [AjQ hgd]at kp;clear e1 e2 ho;gi_wp2;refine⟨trivial,?_⟩;refine(CallsIn.inRound l (callsIn_wide.2 kp)).mono ?_;rintro e W2 ⟨A2,c2,rfl,J3,h3,h4,-,hx2⟩;obtain⟨b2,o2,rfl,hcs⟩:=J3.ad (by rw [flat_length];simp [Ak];omega);have MW:=Fp.ext hI hx2;have g0:=hx2.cellS f0;have gf:W2.frozen? ⟨bo,0,none⟩=false:=(hx2.frozen (p:=⟨bo,0,none⟩) (by show bo<W.heap.size;omega)).trans f1
   have hne:∀y,some (⟨b2,o2,none⟩:Addr)=some y→y.block≠bo:=by
    intro y hy hh
    cases hy;have hh:b2=bo:=hh;subst hh;obtain⟨A0,c0,ho0,-⟩:=MW.out;obtain⟨b3,o3,e3,xP,xQ⟩:=Ca J3 (show 0<p.length by omega);simp only [Ase,Addr.mk.injEq,and_true]at e3;obtain⟨rfl,rfl⟩:=e3;have hb3:=Aeo ho0 xP
    rcases Nat.eq_zero_or_pos (o2+0*2)with h0|h0
    ·rw [h0]at hb3;simp at hb3
    ·rw [Array.getElem?_eq_none (by simp;omega)]at hb3
     cases hb3
   obtain⟨hP,hKp⟩:=MW.put AhK J3 hne h3 h4;clear hcs kp;have hq:=fun W=>Lib.run_eql_slice_nil (P:=Tryz.prog) W 33 94 (some (⟨b2,o2,none⟩:Addr)) p.length c2 0 0 Tryz.underlying33;gi_wp2;refine⟨(LY hx2).trans ((KeepsOthers.setCell _ _ _).from _),(Cx.of_ext (Bs:=bo+1) hx2 (by have:=hI.below.size;omega) N7).trans hKp,hP,?_⟩;intro s hs'
   rcases List.mem_append.1 hs' with h|h
   ·exact ON s h
   ·rw [List.mem_singleton.1 h];exact hgd
  ·have kp:=rp x.1.1 x.1.2 z1 z2 p Ra (by omega) kh (Alp bj) A1 c1 Gf Gg W Cu Bh h1 h2 e1 e2;rw [AjP bj]at kp;clear e1 e2 ho;gi_wp2;refine⟨trivial,?_⟩;refine(CallsIn.inRound l (callsIn_wide.2 kp)).mono ?_;rintro e W2 ⟨A2,c2,rfl,J3,h3,h4,hnl,hx2⟩;obtain⟨rfl,rfl⟩:=hnl rfl;obtain⟨v4,k4⟩:=(Fp.ext hI hx2).c4;obtain⟨v5,k5⟩:=(Fp.ext hI hx2).c5;obtain⟨v6,k6⟩:=(Fp.ext hI hx2).c6;have g0:=hx2.cellS f0;have gf:W2.frozen? ⟨bo,0,none⟩=false:=(hx2.frozen (p:=⟨bo,0,none⟩) (by show bo<W.heap.size;omega)).trans f1;obtain⟨m4,n4⟩:=cell_of_box k4;obtain⟨m5,n5⟩:=cell_of_box k5;obtain⟨m6,n6⟩:=cell_of_box k6;have hb2:=hI.below.trans (Below.mono hx2 hI.below.size);have QM:bo≠w.heap.size:=(by omega);have jD:bo≠w.heap.size+1:=(by omega);have GT:bo≠w.heap.size+2:=(by omega);clear kp hI;have hq:=fun W=>Lib.run_eql_slice_nil (P:=Tryz.prog) W 33 94 none 0 0 0 0 Tryz.underlying33;gi_wp2;have S0:∀(V:World) (q:Nat) (u:Value) (k:Nat),k≠q→(V.setCell ⟨q,0,none⟩ u).heap[k]?=V.heap[k]?:=fun V q u k hk=>Below.heap_setCell V _ _ k hk;refine⟨(LY hx2).trans (((((KeepsOthers.setCell _ _ _).trans (KeepsOthers.setCell _ _ _)).trans (KeepsOthers.setCell _ _ _)).trans (KeepsOthers.setCell _ _ _)).from _),rfl,?_,?_,?_,?_⟩
   ·rw [S0 _ _ _ _ (by omega),S0 _ _ _ _ (by omega)];exact heap_setCell_box _ ((S0 _ _ _ _ (by omega)).trans k4)
   ·rw [S0 _ _ _ _ (by omega)];exact heap_setCell_box _ ((S0 _ _ _ _ (by omega)).trans ((S0 _ _ _ _ (by omega)).trans k5))
   ·exact heap_setCell_box _ ((S0 _ _ _ _ (by omega)).trans ((S0 _ _ _ _ (by omega)).trans ((S0 _ _ _ _ (by omega)).trans k6)))
   ·exact(((hb2.setCell (p:=⟨bo,0,none⟩) (by show w.heap.size<=bo;omega) _).setCell (p:=⟨w.heap.size,0,none⟩) (ArZ _) _).setCell (p:=⟨w.heap.size+1,0,none⟩) (by show w.heap.size<=w.heap.size+1;omega) _).setCell (p:=⟨w.heap.size+2,0,none⟩) (by show w.heap.size<=w.heap.size+2;omega) _
 case done=>
  rintro D ys W hD rfl ⟨hI,ON⟩ hK
  exfalso
  obtain⟨k,hk,hb⟩:=AhE;have h1:=ON (g k) (List.mem_map_of_mem (List.mem_range.2 hk));rw [hg k hk]at h1;obtain⟨x,hx,h2⟩:=h1.2;exact Rat.not_lt.2 (hb x hx) h2
 case stop=>rintro D cc pre W hD _ ⟨rfl,h4,h5,h6,Q4⟩ hK;have m4:=(cell_of_box h4).1;have m5:=(cell_of_box h5).1;have m6:=(cell_of_box h6).1;gi_wp2;refine⟨by simp,.inl ⟨_,_,rfl,run_takeDeferred hK,?_⟩⟩;have K:∀k:Nat,k≠D→(W.putObj D (.deferred none)).heap[k]?=W.heap[k]?:=fun k hk=>World.putObj_heap_other hk;have u4:=(cell_of_box ((K _ (by omega)).trans h4)).1;have u5:=(cell_of_box ((K _ (by omega)).trans h5)).1;have u6:=(cell_of_box ((K _ (by omega)).trans h6)).1;refine⟨.tuple #[.slice none 0 0,.bool false,.int .i64 0],?_,rfl,Q4.trans (belowK_b (w:=w) (ArZ _) W D _ _ (by omega) hK rfl rfl)⟩;simp [results,Tryz.f102,go_sem,u4,u5,u6]
end
end Go.Proofs.YtbejphgbbpplbaaGreatDoor
namespace Go.Proofs.YtbejphgbbpplbaaGreatDoor
open Go.RowKit Kl
theorem mR{pts:List Pt}{x:Int}(h0:0<=x)(h1:x<(pts.length:Int)):FA pts x=pts[x.toNat]'(by omega):=by
 unfold FA;rw [List.getD_eq_getElem?_getD,Asf (by omega)];rfl
theorem zw{pts:List Pt}{x:Int}(h0:0<=x)(h1:x<(pts.length:Int)):FA pts x∈pts:=by
 rw [mR h0 h1];exact Asa _
theorem mS{pts:List Pt}(h:Dg [] pts=0){x y:Int}(hx:0<=x)(hx1:x<(pts.length:Int))(hy:0<=y)(hy1:y<(pts.length:Int))(he:FA pts x=FA pts y):x=y:=by
 rw [mR hx hx1,mR hy hy1]at he
 have main:∀i j,(hi:i<pts.length)→(hj:j<pts.length)→i<j→pts[i]≠pts[j]:=by intro i j hi hj Bn e;have h2:=uG h j hj;rw [List.nil_append,List.any_eq_false]at h2;have h3:=h2 pts[i] (by rw [List.mem_take_iff_getElem];exact⟨i,by omega,rfl⟩);exact h3 (BY.2 e.symm)
 rcases Nat.lt_trichotomy x.toNat y.toNat with k|k|k
 ·exact absurd he (main _ _ (by omega) (by omega) k)
 ·omega
 ·exact absurd he.symm (main _ _ (by omega) (by omega) k)
theorem UO{s t:Sg}(h:s≠t):AO s t=false:=by
 rw [Bool.eq_false_iff];exact fun k=>h (IS.1 k)
theorem vZ{pts:List Pt}{l:List AD}{nf:Nat}(h1:Dg [] pts=0)(h2:Du pts.length nf [] l=0):Od pts l:=by
 have hr:∀j (h:j<l.length),0<=l[j].f/\0<=l[j].t/\l[j].f<(pts.length:Int)/\l[j].t<(pts.length:Int)/\l[j].f≠l[j].t/\(l.take j).any (FT · l[j])=false:=by intro j hj;have:=VO (SC (l:=l) h2 j hj);rw [List.nil_append]at this;exact⟨this.1,this.2.1,this.2.2.1,this.2.2.2.1,this.2.2.2.2.1,this.2.2.2.2.2.1⟩
 refine⟨?_,?_,?_⟩
 ·intro e he;obtain⟨j,hj,rfl⟩:=List.getElem_of_mem he;obtain⟨a,b,c,d,-,-⟩:=hr j hj;exact⟨a,b,c,d⟩
 ·intro e he;obtain⟨j,hj,rfl⟩:=List.getElem_of_mem he;obtain⟨a,b,c,d,e,-⟩:=hr j hj;refine UO fun k=>e ?_;have k2:=congrArg Sg.b k;exact mS h1 a c b d k2
 ·intro j hj e he;obtain⟨a,b,c,d,-,g⟩:=hr j hj;rw [List.mem_take_iff_getElem]at he;obtain⟨i,hi,rfl⟩:=he;obtain⟨a',b',c',d',-,-⟩:=hr i (by omega);rw [List.any_eq_false]at g;have g1:=g l[i] (by rw [List.mem_take_iff_getElem];exact⟨i,by omega,rfl⟩)
  have g2:¬(l[i].f=l[j].f/\l[i].t=l[j].t)/\¬(l[i].f=l[j].t/\l[i].t=l[j].f):=by
   constructor
   ·rintro⟨x,y⟩;exact g1 (by simp [FT,x,y])
   ·rintro⟨x,y⟩;exact g1 (by simp [FT,x,y])
  have f1:∀{x y x' y':Int},0<=x→x<(pts.length:Int)→0<=y→y<(pts.length:Int)→0<=x'→x'<(pts.length:Int)→0<=y'→y'<(pts.length:Int)→(⟨FA pts x,FA pts y⟩:Sg)=⟨FA pts x',FA pts y'⟩→x'=x/\y'=y:=by intro x y x' y' h3 h4 h5 h6 h7 h8 h9 h10 k;simp only [Sg.mk.injEq]at k;exact⟨(mS h1 h3 h4 h7 h8 k.1).symm,(mS h1 h5 h6 h9 h10 k.2).symm⟩
  refine⟨UO fun k=>g2.1 ?_,UO fun k=>g2.2 ?_,UO fun k=>g2.2 ?_,UO fun k=>g2.1 ?_⟩
  ·exact f1 a c b d a' c' b' d' k
  ·have:=f1 a c b d b' d' a' c' k;exact⟨this.2,this.1⟩
  ·have:=f1 b d a c a' c' b' d' k;exact⟨this.1,this.2⟩
  ·have:=f1 b d a c b' d' a' c' k;exact⟨this.2,this.1⟩
theorem lV{pts:List Pt}{l:List AD}{x:Sg×Int}(h:x∈AS pts l):∃e∈l,(x.1=Bj pts e/\x.2=e.l)∨(x.1=AY (Bj pts e)/\x.2=e.r):=by
 unfold AS at h;rw [List.mem_flatMap]at h;obtain⟨e,he,hx⟩:=h;simp only [List.mem_cons,Asm,or_false]at hx
 rcases hx with rfl|rfl
 ·exact⟨e,he,.inl ⟨rfl,rfl⟩⟩
 ·exact⟨e,he,.inr ⟨rfl,rfl⟩⟩
theorem lY{pts:List Pt}{l:List AD}(h:Od pts l)(hg:∀p∈pts,DX p):∀s∈(AS pts l).map (·.1),G8 s:=by
 intro s hs;rw [List.mem_map]at hs;obtain⟨x,hx,rfl⟩:=hs;obtain⟨e,he,k⟩:=lV hx;obtain⟨a,b,c,d⟩:=h.rng e he;have h1:=hg _ (zw a c);have h2:=hg _ (zw b d)
 rcases k with⟨k,-⟩|⟨k,-⟩
 ·rw [k];exact⟨h1,h2⟩
 ·rw [k];exact⟨h2,h1⟩
theorem wl{pts:List Pt}{l:List AD}(h:Od pts l)(hg:∀p∈pts,DX p)(h3:El pts [] l=0):PT ((AS pts l).map (·.1)):=by
 refine⟨Aps pts l h3,fun s hs=>(lY h hg s hs).sz (by omega),?_⟩;intro s hs;rw [List.mem_map]at hs;obtain⟨x,hx,rfl⟩:=hs;obtain⟨e,he,k⟩:=lV hx;have hn:=h.ne e he;intro hab
 have:AY (Bj pts e)=Bj pts e:=by
  rcases k with⟨k,-⟩|⟨k,-⟩
  ·rw [k]at hab;exact YM hab.symm hab
  ·rw [k]at hab;exact YM hab hab.symm
 rw [IS.2 this]at hn
 cases hn
theorem wh{pts:List Pt}{l:List AD}{nf:Nat}(h2:Du pts.length nf [] l=0):∀x∈AS pts l,-1<=x.2/\x.2<(nf:Int):=by
 intro x hx;obtain⟨e,he,k⟩:=lV hx;obtain⟨j,hj,rfl⟩:=List.getElem_of_mem he;have h:=VO (SC (l:=l) h2 j hj);have s1:=h.2.2.2.2.2.2.1;have s2:=h.2.2.2.2.2.2.2;unfold EL at s1 s2;simp only [Bool.and_eq_true,decide_eq_true_eq]at s1 s2
 rcases k with⟨-,k⟩|⟨-,k⟩
 ·rw [k];exact s1
 ·rw [k];first|exact s2|exact s2.1
theorem lZ(pts:List Pt)(l:List AD):(AS pts l).length=2*l.length:=by
 induction l with
 | nil=>rfl
 | cons e l ih=>simp [AS]at ih ⊢;omega
structure Pz where
 b:Nat
 pts:List Pt
 u:Bs
def mW(e:Pz):List Value:=[.slice (some ⟨e.b,0,none⟩) e.pts.length e.pts.length,S e.u,.slice none 0 0]
def C7(l:List Pz):List Value:=l.flatMap mW
theorem mZ(l:List Pz):(C7 l).length=l.length*3:=by
 induction l with
 | nil=>rfl
 | cons h l ih=>simp [C7,mW]at ih ⊢;omega
theorem mY:∀(l:List Pz) (j:Nat) (h:j<l.length),(C7 l)[j*3]?=some (.slice (some ⟨l[j].b,0,none⟩) l[j].pts.length l[j].pts.length)/\(C7 l)[j*3+1]?=some (S l[j].u)/\(C7 l)[j*3+2]?=some (.slice none 0 0)
 | e::l,0,_=>⟨rfl,rfl,rfl⟩
 | e::l,j+1,h=>by
  have ih:=mY l j (by simpa using h);have e0:C7 (e::l)=.slice (some ⟨e.b,0,none⟩) e.pts.length e.pts.length::S e.u :: .slice none 0 0::C7 l:=rfl;rw [e0];have e1:(j+1)*3=j*3+1+1+1:=(by omega);rw [e1]
  simpa using ih
theorem Aae(x:Pz)(n:Nat)(hn:x.pts.length=n):(C7 [x]).toArray=#[.slice (some ⟨x.b,0,none⟩) n n,.string ⟨x.u.toArray⟩,.slice none 0 0]:=by subst hn;rfl
theorem Rv(x y:Pz)(n m:Nat)(hn:x.pts.length=n)(hm:y.pts.length=m):(C7 [x,y]).toArray=#[.slice (some ⟨x.b,0,none⟩) n n,.string ⟨x.u.toArray⟩,.slice none 0 0,.slice (some ⟨y.b,0,none⟩) m m,.string ⟨y.u.toArray⟩,.slice none 0 0]:=by subst hn;subst hm;rfl
structure Gj(w:World)(e:Pz):Prop where
 blk:w.heap[e.b]?=some (.cells (flat (Ak e.pts)).toArray 94)
 sh:∀p∈e.pts,C3 p
 le:e.pts.length<=4
 un:∃n:Nat,e.u=Bi n
theorem Gj.ext{w w':World}{e:Pz}(h:Gj w e)(hx:Aa w w'):Gj w' e:=⟨(hx.block _ (ArX h.blk)).trans h.blk,h.sh,h.le,h.un⟩
theorem Ae.blk{w:World}{b:Nat}{cs:List Value}{t:TypeId}(h:w.heap[b]?=some (.cells cs.toArray t)):Ae w (some ⟨b,0,none⟩) cs:=
 ⟨fun _=>⟨b,0,rfl,fun j hj=>by rw [Nat.zero_add];exact Ab h (by simp [hj])⟩⟩
def D4(l:List Pz):List (List Pt×Bs):=l.map fun e=>(e.pts,e.u)
theorem mX(l:List Pz):(D4 l).length=l.length:=by simp [D4]
theorem Amg{w:World}{A:Option Addr}{c:Nat}{l:List Pz}(hr:Ae w A (C7 l))(Ah:∀e∈l,Gj w e)(h1:l.length<=c)(h2:c<=9223372036854775807):G9 w A c (D4 l):=by
 refine⟨by simpa [D4]using h1,h2,fun j hj=>?_⟩;have hj':j<l.length:=(by simpa [D4]using hj);have hl:=mZ l;obtain⟨b,o,e,hcs⟩:=hr.ad (by omega);obtain⟨f1,f2,f3⟩:=mY l j hj';have g1:=hcs (j*3) (by omega);have g2:=hcs (j*3+1) (by omega);have g3:=hcs (j*3+2) (by omega);rw [Asf (by omega),Ase]at f1 f2 f3;rw [f1]at g1;rw [f2,←Nat.add_assoc]at g2;rw [f3,←Nat.add_assoc]at g3;have hk:=Ah l[j] (Asa hj');have he:(D4 l)[j]=(l[j].pts,l[j].u):=(by simp [D4]);rw [he];have:=hk.le;exact⟨b,o,some ⟨l[j].b,0,none⟩,l[j].pts.length,e,g1,g2,g3,Ae.blk hk.blk,ArZ _,by omega⟩
theorem Amh{w:World}{l:List Pz}(Ah:∀e∈l,Gj w e)(hl:l.length<=18):Sw (D4 l):=by
 refine⟨by simpa [D4]using hl,fun e he=>?_,fun e he=>?_⟩
 ·simp only [D4,List.mem_map]at he;obtain⟨x,hx,rfl⟩:=he;exact⟨(Ah x hx).sh,(Ah x hx).le⟩
 ·simp only [D4,List.mem_map]at he;obtain⟨x,hx,rfl⟩:=he;exact(Ah x hx).un
theorem Pr{wN w':World}{base n:Nat}{v:Value}{l d:List Pz}(hown:wN.ownsRow base 97 3 v n (C7 l))(hg:wN.grownBy w' v.ownBlock)(Ah:∀e∈l,Gj wN e)(hd:∀e∈d,Gj wN e) :
  ∀e∈l++d,Gj w' e:=by
 intro e he
 have h:Gj wN e:=by
  rcases List.mem_append.1 he with k|k
  ·exact Ah e k
  ·exact hd e k
 exact⟨(hg.block _ (ArX h.blk) (fun k=>A8 hown h.blk (by decide) k.symm)).trans h.blk,h.sh,h.le,h.un⟩
theorem Aor(x y:Nat)(hx:x<=2)(hy:y<=2):∃a0 a1 a2 a3:Pt,(We (YT x y)).toArray=#[S (R a0.x),S (R a0.y),S (R a1.x),S (R a1.y),S (R a2.x),S (R a2.y),S (R a3.x),S (R a3.y)]
  /\(C3 a0/\C3 a1/\C3 a2/\C3 a3)/\C3 ⟨D5 a0.x a3.x (1/2),D5 a0.y a3.y (1/2)⟩/\C3 ⟨D5 a1.x a2.x (1/2),D5 a1.y a2.y (1/2)⟩:=by
 refine⟨gp (2*x,2*y),gp (2*x+2,2*y),gp (2*x+2,2*y+2),gp (2*x,2*y+2),rfl,⟨⟨_,⟨?_,?_,?_,?_⟩,rfl⟩,⟨_,⟨?_,?_,?_,?_⟩,rfl⟩,⟨_,⟨?_,?_,?_,?_⟩,rfl⟩,⟨_,⟨?_,?_,?_,?_⟩,rfl⟩⟩,?_,?_⟩
 all_goals try (simp only [];omega)
 ·exact⟨(2*x,2*y+1),⟨by simp only [];omega,by simp only [];omega,by simp only [];omega,by simp only [];omega⟩,xI _ _ _ (by simp only [];omega) (by simp only [];omega)⟩
 ·exact⟨(2*x+2,2*y+1),⟨by simp only [];omega,by simp only [];omega,by simp only [];omega,by simp only [];omega⟩,xI _ _ _ (by simp only [];omega) (by simp only [];omega)⟩
section
variable {ops : Array Oper} {rest : List Oper} {o : Oper} {a : Act} {K : Act → World → Prop} {Q : Exit → Act → World → Prop}
theorem AbK(s x:Operand)(ho:o.op=.call {callee:=.builtin .append,args:=#[s,x],argTypes:=#[92,92]})
  (wN:World) (base:Nat) (v:Value) (n:Nat) (l d:List Pz) (hs:a.eval s=v) (hown:wN.ownsRow base 97 3 v n (C7 l)) (hn:n<200000) (hd:d.length<=10)
  (g m:Nat) (hm:d.length=m) (hb:wN.heap[g]?=some (.cells (C7 d).toArray 97)) (hx:a.eval x=.slice (some ⟨g,0,none⟩) m m) (hbase:base<=wN.heap.size)
  (h:∀v' w',w'.ownsRow base 97 3 v' (n+m) (C7 (l++d))→(∀w0,Aa w0 wN→w0.heap.size<=base→Aa w0 w')→wN.grownBy w' v.ownBlock→K (a.put o.dst v') w') :
  o.wp Tryz.prog a wN K Q:=by
 subst hm;obtain⟨i0,hi,hz0,hz1,hz2⟩:=info_parts Tryz.infoPc;refine Zb s x 92 ho 97 i0 _ 3 64 d.length Tryz.underlying92 hi hz0 hz1 hz2 rfl (by omega) (by omega) hd wN base v n _ hs hown hn g _ hb (by simp [mZ]) ?_ hx hbase ?_
 ·intro u hu;simp only [C7,mW,List.mem_flatMap,List.mem_cons,Asm,or_false]at hu;obtain⟨y,_,hu⟩:=hu
  rcases hu with rfl|rfl|rfl<;>rfl
 ·intro v' w' h1 h2 h3;refine h v' w' ?_ h2 h3;have:C7 (l++d)=C7 l++(C7 d).toArray.toList:=(by simp [C7]);rw [this];exact h1
theorem sQ(hgd:o.guard=none)(s x:Operand)(ho:o.op=.call {callee:=.builtin .append,args:=#[s,x],argTypes:=#[92,92]})
  (wN:World) (base:Nat) (v:Value) (n:Nat) (l d:List Pz) (hs:a.eval s=v) (hown:wN.ownsRow base 97 3 v n (C7 l)) (hn:n<200000) (hd:d.length<=10)
  (g m:Nat) (hm:d.length=m) (hb:wN.heap[g]?=some (.cells (C7 d).toArray 97)) (hx:a.eval x=.slice (some ⟨g,0,none⟩) m m) (hbase:base<=wN.heap.size)
  (h:∀v' w',w'.ownsRow base 97 3 v' (n+m) (C7 (l++d))→(∀w0,Aa w0 wN→w0.heap.size<=base→Aa w0 w')→wN.grownBy w' v.ownBlock→wpList Tryz.prog ops Q rest (a.put o.dst v') w') :
  wpList Tryz.prog ops Q (o::rest) a wN:=
 wpList_plain hgd fun _ hK=>AbK s x ho wN base v n l d hs hown hn hd g m hm hb hx hbase fun v' w' h1 h2 h3=>hK _ _ (h v' w' h1 h2 h3)
theorem RF{E:Prop}(hgd:o.guard=none)(s x:Operand)(ho:o.op=.call {callee:=.builtin .append,args:=#[s,x],argTypes:=#[92,92]})
  (wN:World) (base:Nat) (v:Value) (n:Nat) (l d:List Pz) (hs:a.eval s=v) (hown:wN.ownsRow base 97 3 v n (C7 l)) (hn:n<200000) (hd:d.length<=10)
  (g m:Nat) (hm:d.length=m) (hb:wN.heap[g]?=some (.cells (C7 d).toArray 97)) (hx:a.eval x=.slice (some ⟨g,0,none⟩) m m) (hbase:base<=wN.heap.size)
  (h:∀v' w',w'.ownsRow base 97 3 v' (n+m) (C7 (l++d))→(∀w0,Aa w0 wN→w0.heap.size<=base→Aa w0 w')→wN.grownBy w' v.ownBlock→K (a.put o.dst v') w') :
  if Region.wanted o (yielded ops a.tmps)=true then Oper.wp Tryz.prog o a wN K Q else E:=by
 have hw:Region.wanted o (yielded ops a.tmps)=true:=(by simp [Region.wanted,hgd]);rw [if_pos hw];exact AbK s x ho wN base v n l d hs hown hn hd g m hm hb hx hbase h
end
end Go.Proofs.YtbejphgbbpplbaaGreatDoor
