/- Y39: BN BO T2. -/
import Derived.Test.YtjalkoacphhgdaaGreatDoorY38
set_option maxRecDepth 100000
set_option maxHeartbeats 8000000
namespace Go.Proofs.YtjalkoacphhgdaaGreatDoor
open Go.RowKit Kl Go.Shelf
section
attribute [local go_sem] Oper.semAt_some
theorem Aiq{P:Program}{id k n:Nat}{Q:Exit→Act→World→Prop}{a:Act}{W:World}{l:List Oper}(hm:P.follows .mixedOrders=true)(hB:Region.lexB .any l.toArray=true)(hd:cq l=true)(hlo:¬LetsOut Q)
  (h:wpQuiet P l.toArray (fun w'=>∃p:Af W,w'=p.w) (fun a'=>∀w',(∃p:Af W,w'=p.w)→Q .normal a' w') l a):(Code.region id l.toArray true).wpIn (Fence.wide.inRound k) n P Q a W:=by
 simp only [Region.lexB,Bool.and_eq_true]at hB;refine wpIn_region_any hm (ny (eQ hd) hlo _ _ _ _ (wpAny_of_quiet (C:=fun w'=>∃p:Af W,w'=p.w) (Q:=fun a'=>∀w',(∃p:Af W,w'=p.w)→Q .normal a' w') (fun _ w' hw' h=>h w' hw') _ _ _ _ ⟨⟨W.drew,(Aa.refl W).drew⟩,rfl⟩ ?_));have:=wpAnyQ_lex (C:=fun w'=>∃p:Af W,w'=p.w) (md:=.any) hB.1 l 0 (Array.replicate l.toArray.size false) a (by simp) (by simpa using hB.2) h
 simpa using this
theorem Afm(a b p:Pt)(ha:Ar 200 a)(hb:Ar 200 b)(hp:Ar 200 p)(Ba Bb:Nat)(w:World)(hw:An w)
  (c0:w.cell? ⟨Ba,0,none⟩=some (S (R a.x))) (c1:w.cell? ⟨Ba,1,none⟩=some (S (R a.y))) (c2:w.cell? ⟨Bb,0,none⟩=some (S (R b.x))) (c3:w.cell? ⟨Bb,1,none⟩=some (S (R b.y))) :
  Calls Tryz.prog 184 #[Ak p,.pointer (some ⟨Ba,0,none⟩),.pointer (some ⟨Bb,0,none⟩)] w (Bf (R (Al a b p)) w):=by
 have E:=(Aa.refl w).alloc (.cells #[S (R p.x),S (R p.y)] 92);have Bv:=AmB w (.cells #[S (R p.x),S (R p.y)] 92);have ar:=lX a b p ha hb hp (by omega) (by omega) _ (hw.ext E);replace c0:=E.cellS c0;replace c1:=E.cellS c1;replace c2:=E.cellS c2;replace c3:=E.cellS c3;have c4:=Ab (o:=0) Bv rfl;have c5:=Ab (o:=1) Bv rfl;unfold Ak S at ar;go_enter Tryz.func184,Tryz.ntmps184;unfold Ak;(go_wp2_with fail);(with_reducible refine ar.mono ?_);rintro e w1 ⟨rfl,hx1⟩;go_wp2;go_ret;exact⟨rfl,E.trans hx1⟩
theorem Agb(r:Rat):r<0∨r=0∨0<r:=by
 by_cases h:r<0
 ·exact .inl h
 ·by_cases h0:r=0
  ·exact .inr (.inl h0)
  ·exact .inr (.inr ((Rat.le_iff_lt_or_eq.1 (Rat.not_lt.1 h)).resolve_right fun e=>h0 e.symm))
def Gv(f:Pt→Rat)(l:List Pt):List Pt:=l.filter (fun p=>decide (0<=f p))
def Iq(f:Pt→Rat)(l:List Pt):Bool:=l.any (fun p=>decide (0<f p))
theorem Af0(f:Pt→Rat)(l:List Pt)(p:Pt):Gv f (l ++ [p])=Gv f l++(if 0<=f p then [p] else []):=by
 unfold Gv;rw [List.filter_append];congr 1;simp [List.filter_cons]
theorem AiW(f:Pt→Rat)(l:List Pt)(p:Pt):Iq f (l ++ [p])=(Iq f l||decide (0<f p)):=by simp [Iq]
abbrev Nc(f:Pt→Rat):={s:Pt×Pt // Ar 200 s.1/\Ar 200 s.2/\¬AD (f s.1)*AD (f s.2)<0}
structure Bo(w:World)(fv sv:Value)(ks:List Pt)(sm:Bool)(W:World):Prop where
 out:∃v,W.heap[w.heap.size+1]?=some (.cells #[v] 33 (0,0))/\W.ownsRow w.heap.size 92 2 v ks.length (EY ks)
 som:W.heap[w.heap.size+2]?=some (.cells #[.bool sm] 4 (0,0))
 fn:W.heap[w.heap.size]?=some (.cells #[fv] 239 (0,0))
 box:W.heap[w.heap.size+3]?=some (.cells #[sv] 33 (0,0))
 below:Below w.heap.size w W
theorem Bo.size{w:World}{fv sv:Value}{ks:List Pt}{sm:Bool}{W:World}(h:Bo w fv sv ks sm W):w.heap.size+4<=W.heap.size:=by
 have:=(Array.getElem?_eq_some_iff.1 h.box).1;omega
theorem Bo.ext{w:World}{fv sv:Value}{ks:List Pt}{sm:Bool}{W W':World}(h:Bo w fv sv ks sm W)(hx:Aa W W'):Bo w fv sv ks sm W':=by
 obtain⟨v,hv,ho⟩:=h.out;have hs:=h.size;exact⟨⟨v,(hx.block _ (by omega)).trans hv,AI ho hx⟩,(hx.block _ (by omega)).trans h.som,(hx.block _ (by omega)).trans h.fn,(hx.block _ (by omega)).trans h.box,h.below.trans (Below.mono hx h.below.size)⟩
theorem Bo.own{w:World}{fv sv:Value}{ks:List Pt}{sm:Bool}{W W':World}{row:Option Nat}{B:Nat}(hB:w.heap.size<=B)(h:Bo w fv sv ks sm W)(hg:W.grownBy W' row)(hr:∀r,row=some r→B<=r/\∃o:Obj,W.heap[r]?=some o/\o.isCells=false):Bo w fv sv ks sm W':=by
 have hr':∀r,row=some r→∃o:Obj,W.heap[r]?=some o/\o.isCells=false:=fun r e=>(hr r e).2;obtain⟨v,hv,ho⟩:=h.out;refine⟨⟨v,Dt hg hv hr',ho.kept hg ?_⟩,Dt hg h.som hr',Dt hg h.fn hr',Dt hg h.box hr',h.below.grown hg h.below.size (fun k e=>AmM hB (hr k e).1)⟩
 rcases ho.2 with⟨rfl,_⟩|⟨g,cap,cur,rfl,_,hgb,_⟩
 ·exact .inl rfl
 ·refine .inr fun e=>?_;obtain⟨o,h1,h2⟩:=hr' g e.symm;rw [hgb]at h1
  cases h1
  cases h2
theorem fL{w:World}{B:Nat}{e:TypeId}{s n:Nat}{v:Value}{xs:List Value}(hs:0<s)(h:w.ownsRow B e s v n xs):∃A c,v=.slice A n c:=by
 obtain⟨A,c,h1,-,-,-⟩:=Ae.of_own' hs h;exact⟨A,c,h1⟩
theorem eK:33≠92:=by decide
theorem aw:4≠92:=by decide
theorem Ag2:239≠92:=by decide
theorem Bo.put{w:World}{fv sv:Value}{ks:List Pt}{sm:Bool}{W:World}(h:Bo w fv sv ks sm W)(b:Bool):Bo w fv sv ks b (W.setCell ⟨w.heap.size+2,0,none⟩ (.bool b)):=by
 obtain⟨v,hv,ho⟩:=h.out;have K:∀k,k≠w.heap.size+2→(W.setCell ⟨w.heap.size+2,0,none⟩ (.bool b)).heap[k]?=W.heap[k]?:=fun k hk=>Below.heap_setCell W _ _ k hk;refine⟨⟨v,(K _ (by omega)).trans hv,?_⟩,one_setCell h.som,(K _ (by omega)).trans h.fn,(K _ (by omega)).trans h.box,h.below.setCell (by show w.heap.size<=w.heap.size+2;omega) _⟩;refine ownsRow_setCell_other ho ?_ _;intro e
 rcases ownsRow_ne ho h.som (fun cur e=>by first|cases e|exact aw (Obj.cells.inj e).2.1)with e'|e'
 ·rw [e']at e;cases e
 ·exact e' e
theorem zO{w W:World}(b:Bool):BA w.heap.size (w.heap.size+3) W (W.setCell ⟨w.heap.size+2,0,none⟩ (.bool b)):=
 ⟨(Below.refl _ W).setCell (p:=⟨w.heap.size+2,0,none⟩) (by show w.heap.size<=w.heap.size+2;omega) _,Below.heap_setCell W _ _ _ (by show w.heap.size+3≠w.heap.size+2;omega)⟩
theorem Bo.app{w:World}{fv sv:Value}{ks:List Pt}{sm:Bool}{W w3:World}{v v':Value}{x:Pt}(h:Bo w fv sv ks sm W)(ho:W.ownsRow w.heap.size 92 2 v ks.length (EY ks))
  (hown:w3.ownsRow w.heap.size 92 2 v' (ks.length+1) (EY ks ++ [S (R x.x),S (R x.y)])) (hg:W.grownBy w3 v.ownBlock) :
  Bo w fv sv (ks ++ [x]) sm (w3.setCell ⟨w.heap.size+1,0,none⟩ v')/\KeepsOthers W (w3.setCell ⟨w.heap.size+1,0,none⟩ v')/\BA w.heap.size (w.heap.size+3) W (w3.setCell ⟨w.heap.size+1,0,none⟩ v')/\(∃u,w3.cell? ⟨w.heap.size+1,0,none⟩=some u)/\w3.frozen? ⟨w.heap.size+1,0,none⟩=false/\w3.cell? ⟨w.heap.size+2,0,none⟩=some (.bool sm)/\w3.frozen? ⟨w.heap.size+2,0,none⟩=false:=by
 obtain⟨v0,hv,-⟩:=h.out;have hs:=h.size
 have ne_of:∀{j:Nat} {o:Obj},W.heap[j]?=some o→(∀cur,o≠.cells cur 92 (0,0))→some j≠v.ownBlock:=fun hj hno=>by
  rcases ownsRow_ne ho hj hno with e|e
  ·rw [e];simp
  ·exact fun e'=>e e'.symm
 have k1:=(hg.block (w.heap.size+1) (by omega) (ne_of hv (fun cur e=>by first|cases e|exact eK (Obj.cells.inj e).2.1))).trans hv;have k2:=(hg.block (w.heap.size+2) (by omega) (ne_of h.som (fun cur e=>by first|cases e|exact aw (Obj.cells.inj e).2.1))).trans h.som;have k0:=(hg.block (w.heap.size) (by omega) (ne_of h.fn (fun cur e=>by first|cases e|exact Ag2 (Obj.cells.inj e).2.1))).trans h.fn;have k3:=(hg.block (w.heap.size+3) (by omega) (ne_of h.box (fun cur e=>by first|cases e|exact eK (Obj.cells.inj e).2.1))).trans h.box;have K:∀k,k≠w.heap.size+1→(w3.setCell ⟨w.heap.size+1,0,none⟩ v').heap[k]?=w3.heap[k]?:=fun k hk=>Below.heap_setCell w3 _ _ k hk;have hb3:Below w.heap.size W w3:=(Below.refl _ W).grown hg (by omega) (fun k e=>(ho.lt k e).1);have hb4:=hb3.setCell (p:=⟨w.heap.size+1,0,none⟩) (by show w.heap.size<=w.heap.size+1;omega) v';refine⟨⟨⟨v',heap_setCell_box _ k1,?_⟩,(K _ (by omega)).trans k2,(K _ (by omega)).trans k0,(K _ (by omega)).trans k3,h.below.trans hb4⟩,?_,⟨hb4,(K _ (by omega)).trans (k3.trans h.box.symm)⟩,⟨_,(cell_of_box k1).1⟩,(cell_of_box k1).2,(cell_of_box k2).1,(cell_of_box k2).2⟩
 ·rw [List.length_append,ic];refine ownsRow_setCell_other hown ?_ _;intro e
  rcases ownsRow_ne hown k1 (fun cur e=>by first|cases e|exact eK (Obj.cells.inj e).2.1)with e'|e'
  ·rw [e']at e;cases e
  ·exact e' e
 ·refine(KeepsOthers.of_grownBy hg fun j o e hj=>?_).trans (KeepsOthers.setCell _ _ _)
  rcases ho.2 with⟨rfl,_⟩|⟨g,cap,cur,rfl,_,hgb,_⟩
  ·cases e
  ·simp only [Value.ownBlock,AmG]at e;subst e;rw [hgb]at hj
   cases hj
   rfl
def Le(f:Pt→Rat)(l:List Pt):List Pt:=if Iq f l=true then Gv f l else []
def wz(l:List Pt)(w:World)(e:Ending)(w':World):Prop:=
 ∃A' c',e=.returned (.slice A' l.length c')/\Ae w' A' (flat (Ao l))/\l.length<=c'/\c'<=9223372036854775807/\(l = []→A'=none/\c'=0)/\Aa w w'
theorem Agz(f:Pt→Rat)(pg:List Pt)(h0:0<pg.length)(hz:∀p∈pg,Ar 200 p)(hcut:∀k,k<pg.length→¬AD (f (By pg k).1)*AD (f (By pg k).2)<0):∃g:Nat→Nc f,∀k,k<pg.length→(g k).1=By pg k:=by
 have hm:∀k,Ar 200 (pg.getD (k%pg.length) ⟨0,0⟩):=fun k=>by have:k%pg.length<pg.length:=Nat.mod_lt _ h0;rw [List.getD_eq_getElem?_getD,AmH this];exact hz _ (AmD this)
 have h2:∀k,k<pg.length→Ar 200 (By pg k).1/\Ar 200 (By pg k).2/\¬AD (f (By pg k).1)*AD (f (By pg k).2)<0:=fun k hk=>⟨by have:=hm k;rwa [Nat.mod_eq_of_lt hk]at this,hm (k+1),hcut k hk⟩;exact⟨fun k=>if h:k<pg.length then ⟨By pg k,h2 k h⟩else ⟨By pg 0,h2 0 h0⟩,fun k hk=>by simp [hk]⟩
theorem Agy{f:Pt→Rat}{pg:List Pt}{g:Nat→Nc f}(hg:∀k,k<pg.length→(g k).1=By pg k):(upto g pg.length).map (·.1.1)=pg:=by
 apply List.ext_getElem
 ·simp [upto]
 ·intro k h1 h2;simp only [upto,List.getElem_map,List.getElem_range];rw [hg k h2];simp [By,List.getD_eq_getElem?_getD,AmH h2]
def Ek{f:Pt→Rat}(pre:List (Nc f)):List Pt:=pre.map (fun x=>x.1.1)
def O3(f:Pt→Rat)(w:World)(fv sv:Value)(pre:List (Nc f))(W:World):Prop:=Bo w fv sv (Gv f (Ek pre)) (Iq f (Ek pre)) W
theorem O3.own{f:Pt→Rat}{w:World}{fv sv:Value}{B:Nat}(hB:w.heap.size<=B):OwnFrom B (O3 f w fv sv):=fun _ _ _ _ h hg hr=>Bo.own hB h hg hr
def kU(x:Pt×Pt)(Ba Bb:Nat)(W:World):Prop:=W.heap[Ba]?=some (.cells #[S (R x.1.x),S (R x.1.y)] 92 (0,0))/\W.heap[Bb]?=some (.cells #[S (R x.2.x),S (R x.2.y)] 92 (0,0))
theorem zJ (a b : Pt) (ha : Ar 200 a) (hb : Ar 200 b) (pg : List Pt) (hz : ∀ p ∈ pg, Ar 200 p) (B5 : 0 < pg.length) (Dv : pg.length ≤ 60) (hcut : ∀ k, k < pg.length → ¬ AD (Al a b (By pg k).1) * AD (Al a b (By pg k).2) < 0)
    (A : Option Addr) (cap : Nat) (Ba Bb : Nat) (w : World) (hw : An w) (hr : Ae w A (flat (Ao pg))) (_ : pg.length ≤ cap) (_ : cap ≤ 9223372036854775807)
    (Za : w.heap[Ba]? = some (.cells #[S (R a.x), S (R a.y)] 92 (0, 0))) (Zc : w.heap[Bb]? = some (.cells #[S (R b.x), S (R b.y)] 92 (0, 0))) :
    Calls Tryz.prog 183 #[.slice A pg.length cap, .func (.func 184) #[] #[.pointer (some ⟨Ba, 0, none⟩), .pointer (some ⟨Bb, 0, none⟩)]] w (wz (Le (Al a b) pg) w) := by
  obtain ⟨g, hg⟩ := Agz (Al a b) pg B5 hz hcut
  obtain ⟨fv, Mr⟩ := Am8 (Value.func (.func 184) #[] #[.pointer (some ⟨Ba, 0, none⟩), .pointer (some ⟨Bb, 0, none⟩)])
  obtain ⟨W0, hW0⟩ := Am8 ((((w.alloc (.cells #[fv] 239)).alloc (.cells #[.slice none 0 0] 33)).alloc (.cells #[.bool false] 4)).alloc (.cells #[.slice A pg.length cap] 33))
  have hs0 : W0.heap.size = w.heap.size + 4 := by rw [hW0]; simp
  have hx0 : Aa w W0 := by rw [hW0]; exact ((((Aa.refl w).alloc _).alloc _).alloc _).alloc _
  have Hr : Bo w fv (.slice A pg.length cap) [] false W0 := by
    have b0 := AmB w (.cells #[fv] 239)
    have b1 := AmB (w.alloc (.cells #[fv] 239)) (.cells #[.slice none 0 0] 33)
    have b2 := AmB ((w.alloc (.cells #[fv] 239)).alloc (.cells #[.slice none 0 0] 33)) (.cells #[.bool false] 4)
    have b3 := AmB (((w.alloc (.cells #[fv] 239)).alloc (.cells #[.slice none 0 0] 33)).alloc (.cells #[.bool false] 4)) (.cells #[.slice A pg.length cap] 33)
    simp only [AmJ] at b1 b2 b3
    rw [hW0]
    refine ⟨⟨.slice none 0 0, ?_, ⟨rfl, .inl ⟨rfl, rfl⟩⟩⟩, ?_, ?_, b3, hW0 ▸ hx0⟩
    · exact (Below.heap_alloc _ _ _ (by simp only [AmJ]; omega)).trans ((Below.heap_alloc _ _ _ (by simp only [AmJ]; omega)).trans b1)
    · exact (Below.heap_alloc _ _ _ (by simp only [AmJ]; omega)).trans b2
    · exact (Below.heap_alloc _ _ _ (by simp only [AmJ]; omega)).trans ((Below.heap_alloc _ _ _ (by simp only [AmJ]; omega)).trans ((Below.heap_alloc _ _ _ (by simp only [AmJ]; omega)).trans b0))
  rw [Mr] at hW0 Hr
  refine (callsIn_wide (n := 4)).1 ?_
  refine callsIn_of_wp_marks Tryz.func183 rfl trivial ?_ rfl
  simp only [Tryz.ntmps183, List.size_toArray, List.length_cons, List.length_nil, Nat.reduceAdd, Nat.reduceSub, Array.replicate_succ, Array.replicate_zero, List.push_toArray, List.append_toArray, List.nil_append, List.cons_append]
  gi_wp2
  refine ⟨trivial, ?_⟩
  refine (ip Fence.wide 3 trivial rfl A pg.length cap _).mono ?_
  rintro e W3 ⟨rfl, rfl⟩
  gi_wp2
  rw [← hW0]
  rw [← Mr] at Hr
  have BQ := Ab (o := 0) Hr.box rfl
  refine wpIn_rangeFunc_ownH rfl (by omega) (gf := 256) (lb := #[.pointer (some ⟨w.heap.size + 3, 0, none⟩)]) rfl trivial (enters_of Tryz.func256 (by kernel_rfl) rfl)
    (iq (fun x : Nc (Al a b) => x.1) 3 (by omega) (w.heap.size + 3) w.heap.size A cap pg g hg W0 (by omega) (by omega) (by omega) BQ ⟨w, hr, AmC _, hx0⟩)
    (fun h k => h.trans k) (BA.put (by omega) (by omega)) (Below.refl _ _) (fun _ => rfl)
    (O3 (Al a b) w fv (.slice A pg.length cap)) (fun _ _ _ => False)
    (O3.own (by omega)) (fun _ _ _ _ _ hs _ _ => hs) Hr
    (fun x a' W => ∃ Fy Fz, kU x.1 Fy Fz W ∧ a' = { tmps := #[.slice A pg.length cap, .func (.func 184) #[] #[.pointer (some ⟨Ba, 0, none⟩), .pointer (some ⟨Bb, 0, none⟩)], undef, .pointer (some ⟨w.heap.size, 0, none⟩), .slice none 0 0, .pointer (some ⟨w.heap.size + 1, 0, none⟩), .pointer (some ⟨w.heap.size + 2, 0, none⟩), .pointer (some ⟨Fy, 0, none⟩), .pointer (some ⟨Fz, 0, none⟩), undef, undef, undef, undef, .slice A pg.length cap, .func (.func 256) #[] #[.pointer (some ⟨w.heap.size + 3, 0, none⟩)], Ak x.1.1, Ak x.1.2, undef, undef, undef, undef, undef, undef, undef, undef, undef, undef, undef, undef, undef, undef, undef, undef, undef, undef, undef, undef, undef, undef, undef, undef, undef, undef, undef, undef, undef, undef, undef, undef, undef, undef, undef, undef, undef, undef, undef, undef, undef, undef, undef, undef, undef, undef, undef, undef, undef, undef, undef], defers := [] })
    ?hAx ?assign ?body ?done ?stop
  case hAx =>
    rintro x a' s W W' row ⟨Fy, Fz, ⟨h1, h2⟩, rfl⟩ CZ hr'
    exact ⟨Fy, Fz, ⟨Dt CZ h1 (fun r e => (hr' r e).2), Dt CZ h2 (fun r e => (hr' r e).2)⟩, rfl⟩
  case assign =>
    intro l pre x W K hi hK
    have hi : Bo w fv (.slice A pg.length cap) (Gv (Al a b) (Ek pre)) (Iq (Al a b) (Ek pre)) W := hi
    have M6 := hi.size
    have e1 := AmB W (.cells #[S (R x.1.1.x), S (R x.1.1.y)] 92)
    have e2 := AmB (W.alloc (.cells #[S (R x.1.1.x), S (R x.1.1.y)] 92)) (.cells #[S (R x.1.2.x), S (R x.1.2.y)] 92)
    have X := ((Aa.refl W).alloc (.cells #[S (R x.1.1.x), S (R x.1.1.y)] 92)).alloc (.cells #[S (R x.1.2.x), S (R x.1.2.y)] 92)
    rw [AmJ] at e2
    unfold Ak
    gi_wp2
    exact hK _ _ (GR X) (BA.of_ext X (by omega) (by omega)) (hi.ext X) ⟨_, _, ⟨(Below.heap_alloc _ _ _ (by simp only [AmJ]; omega)).trans e1, e2⟩, rfl⟩
  case body =>
    rintro l pre x a' W hl Aer hI ⟨Fy, Fz, ⟨e1, e2⟩, rfl⟩ hlen
    subst Mr
    gi_wp2
    obtain ⟨z1, z2, hno⟩ := x.2
    have hs := Bo.size hI
    have C7 : An W := hw.ext (Bo.below hI)
    have Zb := (Below.block (Bo.below hI) _ (AmA Za)).trans Za
    have Zd := (Below.block (Bo.below hI) _ (AmA Zc)).trans Zc
    obtain ⟨p1, p2, P2, Sv⟩ : ∃ p1 p2, p1 = x.1.1 ∧ p2 = x.1.2 := ⟨_, _, rfl, rfl⟩
    have hpre : Ek (pre ++ [x]) = Ek pre ++ [p1] := by unfold Ek; rw [List.map_append, P2]; rfl
    rw [← P2] at z1
    rw [← Sv] at z2
    rw [← P2, ← Sv] at hno
    have Md : ∀ W', O3 (Al a b) w (.func (.func 184) #[] #[.pointer (some ⟨Ba, 0, none⟩), .pointer (some ⟨Bb, 0, none⟩)]) (.slice A pg.length cap) (pre ++ [x]) W' ↔ Bo w (.func (.func 184) #[] #[.pointer (some ⟨Ba, 0, none⟩), .pointer (some ⟨Bb, 0, none⟩)]) (.slice A pg.length cap) (Gv (Al a b) (Ek pre) ++ (if 0 ≤ Al a b p1 then [p1] else [])) (Iq (Al a b) (Ek pre) || decide (0 < Al a b p1)) W' := fun W' => by unfold O3; rw [hpre, Af0, AiW]
    have hI : Bo w (.func (.func 184) #[] #[.pointer (some ⟨Ba, 0, none⟩), .pointer (some ⟨Bb, 0, none⟩)]) (.slice A pg.length cap) (Gv (Al a b) (Ek pre)) (Iq (Al a b) (Ek pre)) W := hI
    rw [← P2, ← Sv]
    rw [← P2] at e1
    rw [← Sv] at e2
    have Cm : (Gv (Al a b) (Ek pre)).length ≤ 60 := by
      refine AmM (List.length_filter_le _ _) ?_
      unfold Ek; rw [List.length_map]; omega
    obtain ⟨ks, IL⟩ := Am8 (Gv (Al a b) (Ek pre))
    obtain ⟨sm, hsm⟩ := Am8 (Iq (Al a b) (Ek pre))
    rw [← IL] at hI Cm Md
    rw [← hsm] at hI Md
    have q0 : ∀ q : Af W, q.w.cell? ⟨w.heap.size, 0, none⟩ = some (.func (.func 184) #[] #[.pointer (some ⟨Ba, 0, none⟩), .pointer (some ⟨Bb, 0, none⟩)]) := Af.cell (Ab hI.fn rfl)
    have q1 : ∀ q : Af W, q.w.cell? ⟨Fy, 0, none⟩ = some (S (R p1.x)) := Af.cell (Ab e1 rfl)
    have q2 : ∀ q : Af W, q.w.cell? ⟨Fy, 1, none⟩ = some (S (R p1.y)) := Af.cell (Ab e1 rfl)
    have q3 : ∀ q : Af W, q.w.cell? ⟨Fz, 0, none⟩ = some (S (R p2.x)) := Af.cell (Ab e2 rfl)
    have q4 : ∀ q : Af W, q.w.cell? ⟨Fz, 1, none⟩ = some (S (R p2.y)) := Af.cell (Ab e2 rfl)
    have ct := fun (q : Af W) (p : Pt) (hp : Ar 200 p) => Afm a b p ha hb hp Ba Bb q.w (C7.ext q.h) (q.h.cellS (Ab (o := 0) Zb rfl)) (q.h.cellS (Ab (o := 1) Zb rfl)) (q.h.cellS (Ab (o := 0) Zd rfl)) (q.h.cellS (Ab (o := 1) Zd rfl))
    have k1 := fun (q : Af W) => ct q p1 z1
    have k2 := fun (q : Af W) => ct q p2 z2
    unfold Ak at k1 k2
    have Jn := Am9 Md
    clear ct hpre Md P2 Sv IL hsm Zb Zd
    refine Aiq (by kernel_rfl) (by kernel_rfl) (by kernel_rfl) (by rintro ⟨_, _, h⟩; exact h) ?_
    repeat (go_big_quiet_step (first | with_reducible exact pP (k1 _) | with_reducible exact pP (k2 _)))
    refine wpQuiet_nil ?_
    rintro W7 ⟨q, hq⟩
    have AB : Aa W W7 := hq ▸ q.h
    clear hq q q0 q1 q2 q3 q4 k1 k2
    have DW := Bo.ext hI AB
    obtain ⟨r1, hr1⟩ := Am8 (Al a b p1)
    obtain ⟨r2, hr2⟩ := Am8 (Al a b p2)
    rw [← hr1, ← hr2] at hno
    have Md := Jn.out
    rw [← hr1] at Md
    rw [← hr1, ← hr2]
    have cs1 := fun (V : World) => Qe r1 V
    have Us := fun (V : World) => Qe r2 V
    obtain ⟨i0, hi, hz0, hz1, hz2⟩ := info_parts Tryz.infoPt
    have OO := (AB.block _ (AmA e1)).trans e1
    have hs2 := Qk r2
    obtain ⟨s2, xQ⟩ := Am8 (AD r2)
    rw [← xQ] at Us hno hs2
    have hs7 := Bo.size DW
    have Xn := Am9 Md
    clear Jn hr1 hr2 xQ Md e1 e2 hI Za Zc z1 z2
    rcases Agb r1 with Mx | JI | Cc
    · have Gs := j7 Mx
      have So : ¬ 0 ≤ r1 := Rat.not_le.2 Mx
      have Gn : ¬ 0 < r1 := fun h => So (Rat.le_of_lt h)
      rw [Gs] at cs1 hno
      have Da : ¬ 0 < s2 := by omega
      gi_wp2
      refine ⟨trivial, ?_⟩
      refine (CallsIn.inRound l (callsIn_wide.2 (cs1 _))).mono ?_
      rintro e W8 ⟨rfl, Bn⟩
      gi_wp2
      refine ⟨trivial, ?_⟩
      refine (CallsIn.inRound l (callsIn_wide.2 (cs1 _))).mono ?_
      rintro e Wa ⟨rfl, AA⟩
      gi_wp2
      refine ⟨trivial, ?_⟩
      refine (CallsIn.inRound l (callsIn_wide.2 (Us _))).mono ?_
      rintro e Wb ⟨rfl, hxb⟩
      gi_wp2
      have X := (AB.trans Bn).trans (AA.trans hxb)
      refine ⟨GR X, BA.of_ext X (by omega) (by omega), (Xn.out _).2 ?_⟩
      rw [if_neg So, decide_eq_false Gn, List.append_nil, Bool.or_false]
      exact Bo.ext DW (Bn.trans (AA.trans hxb))
    · have Gs : AD r1 = 0 := by rw [JI]; rfl
      have hle : 0 ≤ r1 := by rw [JI]; decide
      have My : ¬ 0 < r1 := by rw [JI]; decide
      have AS : (R r1 == [48]) = true := by rw [beq_iff_eq]; exact kY.2 JI
      have Bt : (R r1 != [48]) = false := by rw [bne, AS]; rfl
      clear JI
      rw [Gs] at cs1 hno
      gi_wp2
      refine ⟨trivial, ?_⟩
      refine (CallsIn.inRound l (callsIn_wide.2 (cs1 _))).mono ?_
      rintro e W8 ⟨rfl, Bn⟩
      have J6 := Bo.ext DW Bn
      have xJ := Bo.size J6
      obtain ⟨v, hv, ho⟩ := J6.out
      obtain ⟨vA, vc, rfl⟩ := fL (by omega) ho
      have f1 := (cell_of_box hv).1
      have Ra := (Bn.block _ (AmA OO)).trans OO
      have f2 := Ab (o := 0) Ra rfl
      have f3 := Ab (o := 1) Ra rfl
      have X8 := AB.trans Bn
      clear OO DW AB Bn
      cases sm
      all_goals (
        gi_wp2_with (gi_at_builtin; refine wpListIn_append_own _ rfl _ _ 33 rfl w.heap.size 92 i0 (.agg #[S [], S []]) 2 32 Tryz.underlying33 hi hz0 hz1 hz2 rfl (by decide) _ _ _ rfl (ho.alloc _) ⟨W8.heap.size, 0, none⟩ 1 1 [S (R p1.x), S (R p1.y)] rfl rfl (Yy _ _ _ _) (by simp [Value.oneCell']) (by unfold maxLen; omega) (by omega) (by simp; omega) ?_; intro v' w3 hown' hg3 hnil3
                     obtain ⟨RE, ZI, ZJ, ⟨u3, hc3⟩, hf3, hd3, Ad2⟩ := Bo.app (x := p1) (Bo.ext J6 ((Aa.refl W8).alloc (.cells #[S (R p1.x), S (R p1.y)] 92))) (ho.alloc _) hown' hg3
                     obtain ⟨g', cap', dB⟩ : ∃ g' cap', v' = .slice (some ⟨g', 0, none⟩) (ks.length + 1) cap' := by
                       rcases hown'.2 with ⟨_, h0⟩ | ⟨g', cap', _, h', _⟩
                       · exact absurd h0 (by omega)
                       · exact ⟨g', cap', h'⟩
                     subst dB
                     clear hown' hg3 hnil3
                     go_frame)
        refine ⟨trivial, ?_⟩
        refine (CallsIn.inRound l (callsIn_wide.2 (cs1 _))).mono ?_
        rintro e Wa ⟨rfl, AA⟩
        gi_wp2
        refine ⟨trivial, ?_⟩
        refine (CallsIn.inRound l (callsIn_wide.2 (Us _))).mono ?_
        rintro e Wb ⟨rfl, hxb⟩
        gi_wp2
        have hP := fun b => Bo.put RE b
        have hsP := Bo.size RE
        have X := AA.trans hxb
        refine ⟨((GR (X8.alloc _)).trans ((ZI.trans (KeepsOthers.setCell _ _ _)).from _)).trans (GR X), (((BA.of_ext (Bs := w.heap.size + 3) (X8.alloc _) (by omega) (by omega)).trans ZJ).trans (zO _)).trans (BA.of_ext X (by rw [World.size_setCell]; omega) (by rw [World.size_setCell]; omega)), (Xn.out _).2 ?_⟩
        rw [if_pos hle]
        simp only [decide_eq_false My, Bool.or_false]
        exact Bo.ext (hP _) X)
    · have Gs := iC Cc
      have hle : 0 ≤ r1 := Rat.le_of_lt Cc
      have Da : ¬ s2 < 0 := by
        intro h
        rw [Gs] at hno
        omega
      have AS : (R r1 == [48]) = false := D2 (fun e => by rw [e] at Cc; exact absurd Cc (by decide))
      have Bt : (R r1 != [48]) = true := by rw [bne, AS]; rfl
      rw [Gs] at cs1 hno
      gi_wp2
      refine ⟨trivial, ?_⟩
      refine (CallsIn.inRound l (callsIn_wide.2 (cs1 _))).mono ?_
      rintro e W8 ⟨rfl, Bn⟩
      have J6 := Bo.ext DW Bn
      have xJ := Bo.size J6
      obtain ⟨v, hv, ho⟩ := J6.out
      obtain ⟨vA, vc, rfl⟩ := fL (by omega) ho
      have f1 := (cell_of_box hv).1
      have Ra := (Bn.block _ (AmA OO)).trans OO
      have f2 := Ab (o := 0) Ra rfl
      have f3 := Ab (o := 1) Ra rfl
      have X8 := AB.trans Bn
      clear OO DW AB Bn
      cases sm
      all_goals (
        gi_wp2_with (gi_at_builtin; refine wpListIn_append_own _ rfl _ _ 33 rfl w.heap.size 92 i0 (.agg #[S [], S []]) 2 32 Tryz.underlying33 hi hz0 hz1 hz2 rfl (by decide) _ _ _ rfl (ho.alloc _) ⟨W8.heap.size, 0, none⟩ 1 1 [S (R p1.x), S (R p1.y)] rfl rfl (Yy _ _ _ _) (by simp [Value.oneCell']) (by unfold maxLen; omega) (by omega) (by simp; omega) ?_; intro v' w3 hown' hg3 hnil3
                     obtain ⟨RE, ZI, ZJ, ⟨u3, hc3⟩, hf3, hd3, Ad2⟩ := Bo.app (x := p1) (Bo.ext J6 ((Aa.refl W8).alloc (.cells #[S (R p1.x), S (R p1.y)] 92))) (ho.alloc _) hown' hg3
                     obtain ⟨g', cap', dB⟩ : ∃ g' cap', v' = .slice (some ⟨g', 0, none⟩) (ks.length + 1) cap' := by
                       rcases hown'.2 with ⟨_, h0⟩ | ⟨g', cap', _, h', _⟩
                       · exact absurd h0 (by omega)
                       · exact ⟨g', cap', h'⟩
                     subst dB
                     clear hown' hg3 hnil3
                     go_frame)
        refine ⟨trivial, ?_⟩
        refine (CallsIn.inRound l (callsIn_wide.2 (cs1 _))).mono ?_
        rintro e Wa ⟨rfl, AA⟩
        gi_wp2
        refine ⟨trivial, ?_⟩
        refine (CallsIn.inRound l (callsIn_wide.2 (Us _))).mono ?_
        rintro e Wb ⟨rfl, hxb⟩
        gi_wp2
        have hP := fun b => Bo.put RE b
        have hsP := Bo.size RE
        have X := AA.trans hxb
        refine ⟨((GR (X8.alloc _)).trans ((ZI.trans (KeepsOthers.setCell _ _ _)).from _)).trans (GR X), (((BA.of_ext (Bs := w.heap.size + 3) (X8.alloc _) (by omega) (by omega)).trans ZJ).trans (zO _)).trans (BA.of_ext X (by rw [World.size_setCell]; omega) (by rw [World.size_setCell]; omega)), (Xn.out _).2 ?_⟩
        rw [if_pos hle]
        simp only [decide_eq_true Cc, Bool.or_true]
        exact Bo.ext (hP _) X)
  case done =>
    rintro D ys W hD rfl hI hK
    have hI : Bo w fv (.slice A pg.length cap) (Gv (Al a b) (Ek (upto g pg.length))) (Iq (Al a b) (Ek (upto g pg.length))) W := hI
    rw [show Ek (upto g pg.length) = pg from Agy hg] at hI
    have xJ := Bo.size hI
    obtain ⟨v, hv, ho⟩ := hI.out
    obtain ⟨vA, vc, rfl⟩ := fL (by omega) ho
    have f1 := (cell_of_box hv).1
    have f2 := (cell_of_box hI.som).1
    have BY := Bo.below hI
    obtain ⟨sm, hsm⟩ := Am8 (Iq (Al a b) pg)
    rw [← hsm] at f2
    have tK : Aa w (W.putObj D (.deferred none)) := BY.trans (belowK_b (w := w) (AmC _) W D _ _ (by omega) hK rfl rfl)
    have ho2 := ho.kept (grownBy_putObj W D (.deferred none)) (ownsRow_ne ho hK (fun cur e => by cases e))
    obtain ⟨A2, c2, hv2, IU, hc1, hc2⟩ := Ae.of_own' (by omega) ho2
    simp only [Value.slice.injEq, true_and] at hv2
    obtain ⟨rfl, rfl⟩ := hv2
    have hk0 : sm = false → Le (Al a b) pg = [] := fun h => by unfold Le; rw [← hsm, h]; rfl
    have Cb : sm = true → Le (Al a b) pg = Gv (Al a b) pg := fun h => by unfold Le; rw [← hsm, if_pos h]
    have hnil : sm = true → Gv (Al a b) pg = [] → vA = none ∧ vc = 0 := fun h e => by
      exfalso
      rw [hsm] at h
      unfold Iq at h
      rw [List.any_eq_true] at h
      obtain ⟨p, hp, h⟩ := h
      have : p ∈ Gv (Al a b) pg := List.mem_filter.2 ⟨hp, decide_eq_true (Rat.le_of_lt (of_decide_eq_true h))⟩
      rw [e] at this
      cases this
    clear hI hsm
    cases sm
    · gi_wp2
      refine ⟨by simp, .inl ⟨_, _, rfl, run_takeDeferred hK, ?_⟩⟩
      refine ⟨_, results_tmp rfl _ _ _, ?_⟩
      exact ⟨none, 0, rfl, ⟨fun h => by simp [flat, Ao] at h⟩, AmC _, by omega, fun _ => ⟨rfl, rfl⟩, tK⟩
    · gi_wp2
      refine ⟨by simp, .inl ⟨_, _, rfl, run_takeDeferred hK, ?_⟩⟩
      refine ⟨_, results_tmp rfl _ _ _, ?_⟩
      exact ⟨vA, vc, rfl, IU, hc1, hc2, hnil trivial, tK⟩
  case stop =>
    rintro D c pre W _ _ h _
    exact h.elim
end
section
attribute [local go_sem] Oper.semAt_some
theorem Aau(p q:List Pt)(hp:Nl p)(hq:Nl q)(MG:∀x∈p,Ar 200 x)(SE:∀x∈q,Ar 200 x)(A B:Option Addr)(c d blk:Nat)(w:World)(hw:An w)
  (hA:Ae w A (flat (Ao p))) (hB:Ae w B (flat (Ao q))) (hc:p.length<=c) (hc2:c<=9223372036854775807) (hd:q.length<=d) (Ep:d<=9223372036854775807)
  (c0:w.cell? ⟨blk,0,none⟩=some (.slice A p.length c)) (c1:w.cell? ⟨blk,1,none⟩=some (.slice B q.length d)) :
  Calls Tryz.prog 181 #[.slice (some ⟨blk,0,none⟩) 2 2] w (Az 0 w):=by
 have k1:=fun (W:World) (hx:Aa w W)=>fR p hp MG (by omega) (by omega) A c W (hw.ext hx) (hA.ext hx) hc hc2;have k2:=fun (W:World) (hx:Aa w W)=>fR q hq SE (by omega) (by omega) B d W (hw.ext hx) (hB.ext hx) hd Ep;clear hp hq MG SE hA hB;go_enter Tryz.func181,Tryz.ntmps181;go_wp2
 go_loopw [8] (fun i wr=>(i=.int .i64 0∨i=.int .i64 1∨i=.int .i64 2)/\Aa w wr) (fun i _=>2-(intOf i).toNat)
 case atStart=>exact⟨.inl rfl,Aa.refl _⟩
 case round=>
  obtain⟨h,hx⟩:=hrel;have d0:=hx.cellS c0;have d1:=hx.cellS c1
  rcases h with rfl|rfl|rfl
  ·have k:=k1 wr hx;clear k1 k2 c0 c1;(go_wp2_with fail);(with_reducible refine k.mono ?_);rintro e w2 ⟨rfl,hx2⟩;go_wp2;go_roundw
   case rel=>exact⟨.inr (.inl rfl),hx.trans hx2⟩
   case measure=>simp [intOf]
  ·have k:=k2 wr hx;clear k1 k2 c0 c1;(go_wp2_with fail);(with_reducible refine k.mono ?_);rintro e w2 ⟨rfl,hx2⟩;go_wp2;go_roundw
   case rel=>exact⟨.inr (.inr rfl),hx.trans hx2⟩
   case measure=>simp [intOf]
  ·clear k1 k2 c0 c1;go_wp2;go_ret;exact⟨rfl,hx⟩
theorem Ae.keptM{W W':World}{row:Option Nat}{A:Option Addr}{cs:List Value}(h:Ae W A cs)(hg:W.grownBy W' row)(hr:∀r,row=some r→∃o:Obj,W.heap[r]?=some o/\o.isCells=false):Ae W' A cs:=
 ⟨fun h0=>by
  obtain⟨b,o,e,hc⟩:=h.ad h0
  exact⟨b,o,e,fun j hj=>cell_kept (hc j hj) hg hr⟩⟩
def Lt(p:List Pt)(s:Pt×Pt):Prop:=(∀x∈p,0<=Al s.1 s.2 x)/\∃x∈p,0<Al s.1 s.2 x
def JS(p:List Pt)(s:Pt×Pt):Prop:=∀x∈p,Al s.1 s.2 x<=0
abbrev Sd(p:List Pt):={s:Pt×Pt // Ar 200 s.1/\Ar 200 s.2/\(Lt p s∨JS p s)}
theorem AiJ(p q:List Pt)(h0:0<q.length)(hz:∀x∈q,Ar 200 x)(hs:∀k,k<q.length→Lt p (By q k)∨JS p (By q k)):∃g:Nat→Sd p,∀k,k<q.length→(g k).1=By q k:=by
 have hm:∀k,Ar 200 (q.getD (k%q.length) ⟨0,0⟩):=fun k=>by have:k%q.length<q.length:=Nat.mod_lt _ h0;rw [List.getD_eq_getElem?_getD,AmH this];exact hz _ (AmD this)
 have h2:∀k,k<q.length→Ar 200 (By q k).1/\Ar 200 (By q k).2/\(Lt p (By q k)∨JS p (By q k)):=fun k hk=>⟨by have:=hm k;rwa [Nat.mod_eq_of_lt hk]at this,hm (k+1),hs k hk⟩;exact⟨fun k=>if h:k<q.length then ⟨By q k,h2 k h⟩else ⟨By q 0,h2 0 h0⟩,fun k hk=>by simp [hk]⟩
theorem WP{p:List Pt}{k:Nat}(hk:k<p.length):(By p k).1∈p/\(By p k).2∈p:=by
 have h2:(k+1)%p.length<p.length:=Nat.mod_lt _ (by omega);unfold By;rw [List.getD_eq_getElem?_getD,AmH hk,List.getD_eq_getElem?_getD,AmH h2];exact⟨AmD hk,AmD h2⟩
theorem j9{r:Rat}(h:0<=r):0<=AD r:=by
 unfold AD;rw [if_neg (Rat.not_lt.2 h)];split<;>omega
theorem kf{r:Rat}(h:r<=0):AD r<=0:=by
 unfold AD;by_cases h0:r=0
 ·rw [if_pos h0];omega
 ·rw [if_neg h0,if_pos ((Rat.le_iff_lt_or_eq.1 h).resolve_right h0)];omega
theorem Afu{p:List Pt}{s:Pt×Pt}(h:Lt p s):Le (Al s.1 s.2) p=p:=by
 unfold Le;rw [if_pos]
 ·exact List.filter_eq_self.2 fun x hx=>decide_eq_true (h.1 x hx)
 ·obtain⟨x,hx,h0⟩:=h.2;exact List.any_eq_true.2 ⟨x,hx,decide_eq_true h0⟩
theorem Aft{p:List Pt}{s:Pt×Pt}(h:JS p s):Le (Al s.1 s.2) p = []:=by
 unfold Le;rw [if_neg];intro h2;obtain⟨x,hx,h0⟩:=List.any_eq_true.1 h2;exact Rat.not_lt.2 (h x hx) (of_decide_eq_true h0)
theorem Ag7{p:List Pt}{s:Pt×Pt}(h:Lt p s):∀k,k<p.length→¬AD (Al s.1 s.2 (By p k).1)*AD (Al s.1 s.2 (By p k).2)<0:=fun k hk=>by
 have h1:=j9 (h.1 _ (WP hk).1);have h2:=j9 (h.1 _ (WP hk).2);exact Int.not_lt.2 (Int.mul_nonneg h1 h2)
theorem Ag6{p:List Pt}{s:Pt×Pt}(h:JS p s):∀k,k<p.length→¬AD (Al s.1 s.2 (By p k).1)*AD (Al s.1 s.2 (By p k).2)<0:=fun k hk=>by
 have h1:=kf (h _ (WP hk).1);have h2:=kf (h _ (WP hk).2);exact Int.not_lt.2 (Int.mul_nonneg_of_nonpos_of_nonpos h1 h2)
theorem Aac{w:World}{b o:Nat}{cs:Array Value}{t:TypeId}{fz:Nat×Nat}{v:Value}(h:w.heap[b]?=some (.cells cs t fz))(hc:w.cell? ⟨b,o,none⟩=some v):cs[o]?=some v:=by
 cases e:cs[o]? with
 | some u=>
  have h2:=hc;simp [World.cell?,h,e]at h2;rw [←h2]
 | none=>simp [World.cell?,h,e]at hc
structure EF(w:World)(bo:Nat)(p:List Pt)(sv:Value)(W:World):Prop where
 c4:∃v,W.heap[w.heap.size]?=some (.cells #[v] 33 (0,0))
 c5:∃v,W.heap[w.heap.size+1]?=some (.cells #[v] 4 (0,0))
 c6:∃v,W.heap[w.heap.size+2]?=some (.cells #[v] 27 (0,0))
 out:∃A c,W.heap[bo]?=some (.cells #[.slice A p.length c] 33 (0,0))/\Ae W A (flat (Ao p))/\p.length<=c/\c<=9223372036854775807
 box:W.heap[bo+1]?=some (.cells #[sv] 33 (0,0))
 below:Below w.heap.size w W
def vt(w:World)(bo:Nat)(p:List Pt)(sv:Value)(pre:List (Sd p))(W:World):Prop:=EF w bo p sv W/\∀s∈pre,Lt p s.1
theorem EF.own{w:World}{bo:Nat}{p:List Pt}{sv:Value}{W W':World}{row:Option Nat}{B:Nat}(hB:w.heap.size<=B)(h:EF w bo p sv W)(hg:W.grownBy W' row)(hr:∀r,row=some r→B<=r/\∃o:Obj,W.heap[r]?=some o/\o.isCells=false):EF w bo p sv W':=by
 have hr':∀r,row=some r→∃o:Obj,W.heap[r]?=some o/\o.isCells=false:=fun r e=>(hr r e).2;obtain⟨v4,h4⟩:=h.c4;obtain⟨v5,h5⟩:=h.c5;obtain⟨v6,h6⟩:=h.c6;obtain⟨A,c,ho,AP,h1,h2⟩:=h.out;exact⟨⟨v4,Dt hg h4 hr'⟩,⟨v5,Dt hg h5 hr'⟩,⟨v6,Dt hg h6 hr'⟩,⟨A,c,Dt hg ho hr',AP.keptM hg hr',h1,h2⟩,Dt hg h.box hr',h.below.grown hg h.below.size (fun k e=>AmM hB (hr k e).1)⟩
theorem EF.ext{w:World}{bo:Nat}{p:List Pt}{sv:Value}{W W':World}(h:EF w bo p sv W)(hx:Aa W W'):EF w bo p sv W':=by
 obtain⟨v4,h4⟩:=h.c4;obtain⟨v5,h5⟩:=h.c5;obtain⟨v6,h6⟩:=h.c6;obtain⟨A,c,ho,AP,h1,h2⟩:=h.out;exact⟨⟨v4,(hx.block _ (AmA h4)).trans h4⟩,⟨v5,(hx.block _ (AmA h5)).trans h5⟩,⟨v6,(hx.block _ (AmA h6)).trans h6⟩,⟨A,c,(hx.block _ (AmA ho)).trans ho,AP.ext hx,h1,h2⟩,(hx.block _ (AmA h.box)).trans h.box,h.below.trans (Below.mono hx h.below.size)⟩
theorem EF.put{w:World}{bo:Nat}{p:List Pt}{sv:Value}{W:World}(h:EF w bo p sv W)(K3:w.heap.size+3<=bo){A:Option Addr}{c:Nat}(AP:Ae W A (flat (Ao p)))(hne:∀x,A=some x→x.block≠bo)(h1:p.length<=c)(h2:c<=9223372036854775807) :
  EF w bo p sv (W.setCell ⟨bo,0,none⟩ (.slice A p.length c))/\BA w.heap.size (bo+1) W (W.setCell ⟨bo,0,none⟩ (.slice A p.length c)):=by
 obtain⟨v4,h4⟩:=h.c4;obtain⟨v5,h5⟩:=h.c5;obtain⟨v6,h6⟩:=h.c6;obtain⟨A0,c0,ho,-,-,-⟩:=h.out;have K:∀k,k≠bo→(W.setCell ⟨bo,0,none⟩ (.slice A p.length c)).heap[k]?=W.heap[k]?:=fun k hk=>Below.heap_setCell W _ _ k hk;have hb:=(Below.refl w.heap.size W).setCell (p:=⟨bo,0,none⟩) (by show w.heap.size<=bo;omega) (.slice A p.length c);refine⟨⟨⟨v4,(K _ (by omega)).trans h4⟩,⟨v5,(K _ (by omega)).trans h5⟩,⟨v6,(K _ (by omega)).trans h6⟩,⟨A,c,heap_setCell_box _ ho,⟨fun h0=>?_⟩,h1,h2⟩,(K _ (by omega)).trans h.box,h.below.trans hb⟩,hb,K _ (by omega)⟩;obtain⟨b,o,e,hc⟩:=AP.ad h0;exact⟨b,o,e,fun j hj=>(World.cell?_of_block (a:=⟨b,o+j,none⟩) (K b (hne _ e))).trans (hc j hj)⟩
def vu(w:World)(c:Code)(W:World):Prop:=c=.ret/\W.heap[w.heap.size]?=some (.cells #[.slice none 0 0] 33 (0,0))/\W.heap[w.heap.size+1]?=some (.cells #[.bool false] 4 (0,0))/\W.heap[w.heap.size+2]?=some (.cells #[.int .i64 0] 27 (0,0))/\Below w.heap.size w W
def TP(p:List Pt)(w:World)(c:Code)(_:List (Sd p))(W:World):Prop:=vu w c W
theorem TP.own{p:List Pt}{w:World}{c:Code}{B:Nat}(hB:w.heap.size<=B):OwnFrom B (TP p w c):=by
 rintro s W W' row ⟨rfl,h4,h5,h6,hb⟩ hg hr;have hr':∀r,row=some r→∃o:Obj,W.heap[r]?=some o/\o.isCells=false:=fun r e=>(hr r e).2;exact⟨rfl,Dt hg h4 hr',Dt hg h5 hr',Dt hg h6 hr',hb.grown hg hb.size (fun k e=>AmM hB (hr k e).1)⟩
def xg(w:World)(e:Ending)(w':World):Prop:=e=.returned (.tuple #[.slice none 0 0,.bool false,.int .i64 0])/\Aa w w'
theorem Afn(p q:List Pt)(hp:Nl p)(hq:Nl q)(MG:∀x∈p,Ar 200 x)(SE:∀x∈q,Ar 200 x)(hs:∀k,k<q.length→Lt p (By q k)∨JS p (By q k))(Ade:∃k,k<q.length/\JS p (By q k))
  (A B:Option Addr) (c d:Nat) (w:World) (hw:An w) (hA:Ae w A (flat (Ao p))) (hB:Ae w B (flat (Ao q))) (hc:p.length<=c) (hc2:c<=9223372036854775807) (hd:q.length<=d) (Ep:d<=9223372036854775807) :
  Calls Tryz.prog 102 #[.slice A p.length c,.slice B q.length d] w (xg w):=by
 have bQ:=hp.n3;have wK:=hp.n60;have Sw:=hq.n3;have AlT:=hq.n60;obtain⟨g,hg⟩:=AiJ p q (by omega) SE hs;have X0:=((((Aa.refl w).alloc (.cells #[.slice none 0 0] 33)).alloc (.cells #[.bool false] 4)).alloc (.cells #[.int .i64 0] 27)).alloc (.cells #[.slice A p.length c,.slice B q.length d] 33);have b0:=AmB w (.cells #[.slice none 0 0] 33);have b1:=AmB (w.alloc (.cells #[.slice none 0 0] 33)) (.cells #[.bool false] 4);have b2:=AmB ((w.alloc (.cells #[.slice none 0 0] 33)).alloc (.cells #[.bool false] 4)) (.cells #[.int .i64 0] 27);have b3:=AmB (((w.alloc (.cells #[.slice none 0 0] 33)).alloc (.cells #[.bool false] 4)).alloc (.cells #[.int .i64 0] 27)) (.cells #[.slice A p.length c,.slice B q.length d] 33);simp only [AmJ]at b1 b2 b3;have ck:=Aau p q hp hq MG SE A B c d (w.heap.size+1+1+1) _ (hw.ext X0) (hA.ext X0) (hB.ext X0) hc hc2 hd Ep (Ab (o:=0) b3 rfl) (Ab (o:=1) b3 rfl);have B0:=(Below.heap_alloc ((w.alloc (.cells #[.slice none 0 0] 33)).alloc (.cells #[.bool false] 4)) (.cells #[.int .i64 0] 27) w.heap.size (by simp only [AmJ];omega)).trans ((Below.heap_alloc _ _ _ (by simp only [AmJ];omega)).trans b0);have B1:=(Below.heap_alloc ((w.alloc (.cells #[.slice none 0 0] 33)).alloc (.cells #[.bool false] 4)) (.cells #[.int .i64 0] 27) (w.heap.size+1) (by simp only [AmJ];omega)).trans b1;obtain⟨V,hV⟩:=Am8 (((w.alloc (.cells #[.slice none 0 0] 33)).alloc (.cells #[.bool false] 4)).alloc (.cells #[.int .i64 0] 27));have xM:V.heap.size=w.heap.size+3:=(by rw [hV];simp only [AmJ]);rw [←hV]at X0 ck B0 B1 b2;have EV:=(Aa.refl V).alloc (.cells #[.slice A p.length c,.slice B q.length d] 33);refine(callsIn_wide (n:=4)).1 ?_;refine callsIn_of_wp_marks Tryz.func102 rfl trivial ?_ rfl;simp only [Tryz.ntmps102,List.size_toArray,List.length_cons,List.length_nil,Nat.reduceAdd,Nat.reduceSub,Array.replicate_succ,Array.replicate_zero,List.push_toArray,List.append_toArray,List.nil_append,List.cons_append];gi_wp2;refine⟨trivial,?_⟩;rw [←hV];refine(callsIn_wide.2 ck).mono ?_;rintro e w1 ⟨rfl,hx1⟩;have TZ:=X0.trans hx1;have hs1:=(EV.trans hx1).size;have d0:=((EV.trans hx1).block _ (by omega)).trans B0;have d1:=((EV.trans hx1).block _ (by omega)).trans B1;have d2:=((EV.trans hx1).block _ (by omega)).trans b2;have ua:=Am9 xM;have Ae0:w.heap.size+3<=w1.heap.size:=(by omega);clear hV xM b0 b1 b2 b3 ck B0 B1 EV hx1 hs1 X0;gi_wp2;refine⟨trivial,?_⟩;refine(ip Fence.wide 3 trivial rfl B q.length d _).mono ?_;rintro e W3 ⟨rfl,rfl⟩;gi_wp2;obtain⟨bo,K3⟩:=Am8 w1.heap.size;have E2:=((Aa.refl w1).alloc (.cells #[.slice A p.length c] 33)).alloc (.cells #[.slice B q.length d] 33);have g1:=AmB w1 (.cells #[.slice A p.length c] 33);have g2:=AmB (w1.alloc (.cells #[.slice A p.length c] 33)) (.cells #[.slice B q.length d] 33);have hs2:((w1.alloc (.cells #[.slice A p.length c] 33)).alloc (.cells #[.slice B q.length d] 33)).heap.size=w1.heap.size+2:=(by simp only [AmJ]);replace g1:=(Below.heap_alloc (w1.alloc (.cells #[.slice A p.length c] 33)) (.cells #[.slice B q.length d] 33) _ (by simp only [AmJ];omega)).trans g1
 rw [AmJ]at g2;rw [←K3]at g1 g2 ⊢;have hlt:=fun (k:Nat) (o:Obj) (h:w1.heap[k]?=some o)=>(E2.block k (AmA h)).trans h
 have Hr:EF w bo p (.slice B q.length d) ((w1.alloc (.cells #[.slice A p.length c] 33)).alloc (.cells #[.slice B q.length d] 33)):=
  ⟨⟨_,hlt _ _ d0⟩,⟨_,hlt _ _ d1⟩,⟨_,hlt _ _ d2⟩,⟨A,c,g1,hA.ext (TZ.trans E2),hc,hc2⟩,g2,TZ.trans E2⟩
 have hxA:=TZ.trans E2;generalize (w1.alloc (.cells #[.slice A p.length c] 33)).alloc (.cells #[.slice B q.length d] 33)=W0 at *;have hs0:bo+2<=W0.heap.size:=(by omega);have Adi:w.heap.size+3<=bo:=(by omega);clear hs2 g1 d0 d1 d2 hlt E2 TZ Ae0 K3 ua;have BQ:=Ab (o:=0) g2 rfl
 refine wpIn_rangeFunc_ownH rfl (by omega) (gf:=256) (lb:=#[.pointer (some ⟨bo+1,0,none⟩)]) rfl trivial (enters_of Tryz.func256 (by kernel_rfl) rfl)
  (iq (fun x:Sd p=>x.1) 3 (by omega) (bo+1) w.heap.size B d q g hg W0 (by omega) (by omega) (by omega) BQ ⟨w,hB,AmC _,hxA⟩)
  (fun h k=>h.trans k) (BA.put (by omega) (by omega)) (Below.refl _ _) (fun _=>rfl)
  (vt w bo p (.slice B q.length d)) (TP p w)
  (fun s W W' row h CZ hr'=>⟨EF.own (by omega) h.1 CZ hr',h.2⟩) (fun _=>TP.own (by omega)) ⟨Hr,fun s hs=>by cases hs⟩
  (fun x a' W=>∃Fy Fz,kU x.1 Fy Fz W/\a' = {tmps:=#[.slice A p.length c,.slice B q.length d,undef,undef,.pointer (some ⟨w.heap.size,0,none⟩),.pointer (some ⟨w.heap.size+1,0,none⟩),.pointer (some ⟨w.heap.size+2,0,none⟩),.int .i64 0,.pointer (some ⟨bo,0,none⟩),.pointer (some ⟨Fy,0,none⟩),.pointer (some ⟨Fz,0,none⟩),.slice A p.length c,.slice B q.length d,.slice (some ⟨w.heap.size+3,0,none⟩) 2 2,.int .i64 0,.int .i64 0,.bool false,undef,.slice A p.length c,.slice B q.length d,.func (.func 256) #[] #[.pointer (some ⟨bo+1,0,none⟩)],Ak x.1.1,Ak x.1.2,undef,undef,undef,undef,undef,undef,undef,undef,undef,undef,undef,undef,undef,undef],defers:=[]})
  ?hAx ?assign ?body ?done ?stop
 case hAx=>rintro x a' s W W' row ⟨Fy,Fz,⟨h1,h2⟩,rfl⟩ CZ hr';exact⟨Fy,Fz,⟨Dt CZ h1 (fun r e=>(hr' r e).2),Dt CZ h2 (fun r e=>(hr' r e).2)⟩,rfl⟩
 case assign=>intro l pre x W K hi hK;have M6:bo+1<W.heap.size:=AmA hi.1.box;have e1:=AmB W (.cells #[S (R x.1.1.x),S (R x.1.1.y)] 92);have e2:=AmB (W.alloc (.cells #[S (R x.1.1.x),S (R x.1.1.y)] 92)) (.cells #[S (R x.1.2.x),S (R x.1.2.y)] 92);have X:=((Aa.refl W).alloc (.cells #[S (R x.1.1.x),S (R x.1.1.y)] 92)).alloc (.cells #[S (R x.1.2.x),S (R x.1.2.y)] 92);rw [AmJ]at e2;unfold Ak;gi_wp2;exact hK _ _ (GR X) (BA.of_ext X (by omega) (by omega)) ⟨EF.ext hi.1 X,hi.2⟩ ⟨_,_,⟨(Below.heap_alloc _ _ _ (by simp only [AmJ];omega)).trans e1,e2⟩,rfl⟩
 case body=>
  rintro l pre x a' W hl Aer ⟨hI,KG⟩ ⟨Fy,Fz,⟨e1,e2⟩,rfl⟩ hlen;obtain⟨z1,z2,hgb⟩:=x.2;obtain⟨A1,c1,ho,AP,h1,h2⟩:=hI.out;have C7:An W:=hw.ext hI.below;have f0:=(cell_of_box ho).1;have f1:=(cell_of_box ho).2;have M6:bo+1<W.heap.size:=AmA hI.box
  rcases hgb with hgd|tI
  ·have kp:=zJ x.1.1 x.1.2 z1 z2 p MG (by omega) wK (Ag7 hgd) A1 c1 Fy Fz W C7 AP h1 h2 e1 e2;rw [Afu hgd]at kp;clear e1 e2 ho;gi_wp2;refine⟨trivial,?_⟩;refine(CallsIn.inRound l (callsIn_wide.2 kp)).mono ?_;rintro e W2 ⟨A2,c2,rfl,IU,h3,h4,-,hx2⟩;obtain⟨b2,o2,rfl,hcs⟩:=IU.ad (by rw [flat_length];simp [Ao];omega);have Mb:=EF.ext hI hx2;have g0:=hx2.cellS f0;have gf:W2.frozen? ⟨bo,0,none⟩=false:=(hx2.frozen (p:=⟨bo,0,none⟩) (by show bo<W.heap.size;omega)).trans f1
   have hne:∀y,some (⟨b2,o2,none⟩:Addr)=some y→y.block≠bo:=by
    intro y hy hh
    cases hy;have hh:b2=bo:=hh;subst hh;obtain⟨A0,c0,ho0,-⟩:=Mb.out;obtain⟨b3,o3,e3,qT,Ro⟩:=Cu IU (show 0<p.length by omega);simp only [AmG,Addr.mk.injEq,and_true]at e3;obtain⟨rfl,rfl⟩:=e3;have hb3:=Aac ho0 qT
    rcases Nat.eq_zero_or_pos (o2+0*2)with h0|h0
    ·rw [h0]at hb3;simp at hb3
    ·rw [Array.getElem?_eq_none (by simp;omega)]at hb3
     cases hb3
   obtain⟨hP,hKp⟩:=Mb.put Adi IU hne h3 h4;clear hcs kp;have hq:=fun W=>Lib.run_eql_slice_nil (P:=Tryz.prog) W 33 92 (some (⟨b2,o2,none⟩:Addr)) p.length c2 0 0 Tryz.underlying33;gi_wp2;refine⟨(GR hx2).trans ((KeepsOthers.setCell _ _ _).from _),(BA.of_ext (Bs:=bo+1) hx2 (by have:=hI.below.size;omega) M6).trans hKp,hP,?_⟩;intro s hs'
   rcases List.mem_append.1 hs' with h|h
   ·exact KG s h
   ·rw [List.mem_singleton.1 h];exact hgd
  ·have kp:=zJ x.1.1 x.1.2 z1 z2 p MG (by omega) wK (Ag6 tI) A1 c1 Fy Fz W C7 AP h1 h2 e1 e2;rw [Aft tI]at kp;clear e1 e2 ho;gi_wp2;refine⟨trivial,?_⟩;refine(CallsIn.inRound l (callsIn_wide.2 kp)).mono ?_;rintro e W2 ⟨A2,c2,rfl,IU,h3,h4,hnl,hx2⟩;obtain⟨rfl,rfl⟩:=hnl rfl;obtain⟨v4,k4⟩:=(EF.ext hI hx2).c4;obtain⟨v5,k5⟩:=(EF.ext hI hx2).c5;obtain⟨v6,k6⟩:=(EF.ext hI hx2).c6;have g0:=hx2.cellS f0;have gf:W2.frozen? ⟨bo,0,none⟩=false:=(hx2.frozen (p:=⟨bo,0,none⟩) (by show bo<W.heap.size;omega)).trans f1;obtain⟨m4,n4⟩:=cell_of_box k4;obtain⟨m5,n5⟩:=cell_of_box k5;obtain⟨m6,n6⟩:=cell_of_box k6;have hb2:=hI.below.trans (Below.mono hx2 hI.below.size);have Vz:bo≠w.heap.size:=(by omega);have bG:bo≠w.heap.size+1:=(by omega);have EU:bo≠w.heap.size+2:=(by omega);clear kp hI;have hq:=fun W=>Lib.run_eql_slice_nil (P:=Tryz.prog) W 33 92 none 0 0 0 0 Tryz.underlying33;gi_wp2;have S0:∀(V:World) (q:Nat) (u:Value) (k:Nat),k≠q→(V.setCell ⟨q,0,none⟩ u).heap[k]?=V.heap[k]?:=fun V q u k hk=>Below.heap_setCell V _ _ k hk;refine⟨(GR hx2).trans (((((KeepsOthers.setCell _ _ _).trans (KeepsOthers.setCell _ _ _)).trans (KeepsOthers.setCell _ _ _)).trans (KeepsOthers.setCell _ _ _)).from _),rfl,?_,?_,?_,?_⟩
   ·rw [S0 _ _ _ _ (by omega),S0 _ _ _ _ (by omega)];exact heap_setCell_box _ ((S0 _ _ _ _ (by omega)).trans k4)
   ·rw [S0 _ _ _ _ (by omega)];exact heap_setCell_box _ ((S0 _ _ _ _ (by omega)).trans ((S0 _ _ _ _ (by omega)).trans k5))
   ·exact heap_setCell_box _ ((S0 _ _ _ _ (by omega)).trans ((S0 _ _ _ _ (by omega)).trans ((S0 _ _ _ _ (by omega)).trans k6)))
   ·exact(((hb2.setCell (p:=⟨bo,0,none⟩) (by show w.heap.size<=bo;omega) _).setCell (p:=⟨w.heap.size,0,none⟩) (AmC _) _).setCell (p:=⟨w.heap.size+1,0,none⟩) (by show w.heap.size<=w.heap.size+1;omega) _).setCell (p:=⟨w.heap.size+2,0,none⟩) (by show w.heap.size<=w.heap.size+2;omega) _
 case done=>
  rintro D ys W hD rfl ⟨hI,KG⟩ hK
  exfalso
  obtain⟨k,hk,hb⟩:=Ade;have h1:=KG (g k) (List.mem_map_of_mem (List.mem_range.2 hk));rw [hg k hk]at h1;obtain⟨x,hx,h2⟩:=h1.2;exact Rat.not_lt.2 (hb x hx) h2
 case stop=>rintro D cc pre W hD _ ⟨rfl,h4,h5,h6,BY⟩ hK;have m4:=(cell_of_box h4).1;have m5:=(cell_of_box h5).1;have m6:=(cell_of_box h6).1;gi_wp2;refine⟨by simp,.inl ⟨_,_,rfl,run_takeDeferred hK,?_⟩⟩;have K:∀k:Nat,k≠D→(W.putObj D (.deferred none)).heap[k]?=W.heap[k]?:=fun k hk=>World.putObj_heap_other hk;have u4:=(cell_of_box ((K _ (by omega)).trans h4)).1;have u5:=(cell_of_box ((K _ (by omega)).trans h5)).1;have u6:=(cell_of_box ((K _ (by omega)).trans h6)).1;refine⟨.tuple #[.slice none 0 0,.bool false,.int .i64 0],?_,rfl,BY.trans (belowK_b (w:=w) (AmC _) W D _ _ (by omega) hK rfl rfl)⟩;simp [results,Tryz.f102,go_sem,u4,u5,u6]
end
end Go.Proofs.YtjalkoacphhgdaaGreatDoor
namespace Go.Proofs.YtjalkoacphhgdaaGreatDoor
open Go.RowKit Kl
structure Pz where
 b:Nat
 pts:List Pt
 u:Bs
def fY(e:Pz):List Value:=[.slice (some ⟨e.b,0,none⟩) e.pts.length e.pts.length,S e.u,.slice none 0 0]
def Dl(l:List Pz):List Value:=l.flatMap fY
theorem i7(l:List Pz):(Dl l).length=l.length*3:=by
 induction l with
 | nil=>rfl
 | cons h l ih=>simp [Dl,fY]at ih ⊢;omega
theorem iz:∀(l:List Pz) (j:Nat) (h:j<l.length),(Dl l)[j*3]?=some (.slice (some ⟨l[j].b,0,none⟩) l[j].pts.length l[j].pts.length)/\(Dl l)[j*3+1]?=some (S l[j].u)/\(Dl l)[j*3+2]?=some (.slice none 0 0)
 | e::l,0,_=>⟨rfl,rfl,rfl⟩
 | e::l,j+1,h=>by
  have ih:=iz l j (by simpa using h);have e0:Dl (e::l)=.slice (some ⟨e.b,0,none⟩) e.pts.length e.pts.length::S e.u :: .slice none 0 0::Dl l:=rfl;rw [e0];have e1:(j+1)*3=j*3+1+1+1:=(by omega);rw [e1]
  simpa using ih
theorem AhK(x:Pz)(n:Nat)(hn:x.pts.length=n):(Dl [x]).toArray=#[.slice (some ⟨x.b,0,none⟩) n n,.string ⟨x.u.toArray⟩,.slice none 0 0]:=by subst hn;rfl
structure Jw(w:World)(e:Pz):Prop where
 blk:w.heap[e.b]?=some (.cells (flat (Ao e.pts)).toArray 92)
 sh:∀p∈e.pts,EJ p
 le:e.pts.length<=4
theorem Jw.ext{w w':World}{e:Pz}(h:Jw w e)(hx:Aa w w'):Jw w' e:=⟨(hx.block _ (AmA h.blk)).trans h.blk,h.sh,h.le⟩
theorem Ae.blk{w:World}{b:Nat}{cs:List Value}{t:TypeId}(h:w.heap[b]?=some (.cells cs.toArray t)):Ae w (some ⟨b,0,none⟩) cs:=
 ⟨fun _=>⟨b,0,rfl,fun j hj=>by rw [Nat.zero_add];exact Ab h (by simp [hj])⟩⟩
def Jb(l:List Pz):List (List Pt×Bs):=l.map fun e=>(e.pts,e.u)
theorem iy(l:List Pz):(Jb l).length=l.length:=by simp [Jb]
theorem Ahu{w:World}{A:Option Addr}{c:Nat}{l:List Pz}(hr:Ae w A (Dl l))(Aj:∀e∈l,Jw w e)(h1:l.length<=c)(h2:c<=9223372036854775807):Jv w A c (Jb l):=by
 refine⟨by simpa [Jb]using h1,h2,fun j hj=>?_⟩;have hj':j<l.length:=(by simpa [Jb]using hj);have hl:=i7 l;obtain⟨b,o,e,hcs⟩:=hr.ad (by omega);obtain⟨f1,f2,f3⟩:=iz l j hj';have g1:=hcs (j*3) (by omega);have g2:=hcs (j*3+1) (by omega);have g3:=hcs (j*3+2) (by omega);rw [AmH (by omega),AmG]at f1 f2 f3;rw [f1]at g1;rw [f2,←Nat.add_assoc]at g2;rw [f3,←Nat.add_assoc]at g3;have hk:=Aj l[j] (AmD hj');have he:(Jb l)[j]=(l[j].pts,l[j].u):=(by simp [Jb]);rw [he];have:=hk.le;exact⟨b,o,some ⟨l[j].b,0,none⟩,l[j].pts.length,e,g1,g2,g3,Ae.blk hk.blk,AmC _,by omega⟩
theorem AhJ{wN w':World}{base n:Nat}{v:Value}{l d:List Pz}(hown:wN.ownsRow base 95 3 v n (Dl l))(hg:wN.grownBy w' v.ownBlock)(Aj:∀e∈l,Jw wN e)(hd:∀e∈d,Jw wN e) :
  ∀e∈l++d,Jw w' e:=by
 intro e he
 have h:Jw wN e:=by
  rcases List.mem_append.1 he with k|k
  ·exact Aj e k
  ·exact hd e k
 exact⟨(hg.block _ (AmA h.blk) (fun k=>Bp hown h.blk (by decide) k.symm)).trans h.blk,h.sh,h.le⟩
section
variable {ops : Array Oper} {rest : List Oper} {o : Oper} {a : Act} {K : Act → World → Prop} {Q : Exit → Act → World → Prop}
theorem Akw(s x:Operand)(ho:o.op=.call {callee:=.builtin .append,args:=#[s,x],argTypes:=#[90,90]})
  (wN:World) (base:Nat) (v:Value) (n:Nat) (l d:List Pz) (hs:a.eval s=v) (hown:wN.ownsRow base 95 3 v n (Dl l)) (hn:n<200000) (hd:d.length<=10)
  (g m:Nat) (hm:d.length=m) (hb:wN.heap[g]?=some (.cells (Dl d).toArray 95)) (hx:a.eval x=.slice (some ⟨g,0,none⟩) m m) (hbase:base<=wN.heap.size)
  (h:∀v' w',w'.ownsRow base 95 3 v' (n+m) (Dl (l++d))→(∀w0,Aa w0 wN→w0.heap.size<=base→Aa w0 w')→wN.grownBy w' v.ownBlock→K (a.put o.dst v') w') :
  o.wp Tryz.prog a wN K Q:=by
 subst hm;obtain⟨i0,hi,hz0,hz1,hz2⟩:=info_parts Tryz.infoPc;refine iY s x 90 ho 95 i0 _ 3 64 d.length Tryz.underlying90 hi hz0 hz1 hz2 rfl (by omega) (by omega) hd wN base v n _ hs hown hn g _ hb (by simp [i7]) ?_ hx hbase ?_
 ·intro u hu;simp only [Dl,fY,List.mem_flatMap,List.mem_cons,AmN,or_false]at hu;obtain⟨y,_,hu⟩:=hu
  rcases hu with rfl|rfl|rfl<;>rfl
 ·intro v' w' h1 h2 h3;refine h v' w' ?_ h2 h3;have:Dl (l++d)=Dl l++(Dl d).toArray.toList:=(by simp [Dl]);rw [this];exact h1
theorem yf(hgd:o.guard=none)(s x:Operand)(ho:o.op=.call {callee:=.builtin .append,args:=#[s,x],argTypes:=#[90,90]})
  (wN:World) (base:Nat) (v:Value) (n:Nat) (l d:List Pz) (hs:a.eval s=v) (hown:wN.ownsRow base 95 3 v n (Dl l)) (hn:n<200000) (hd:d.length<=10)
  (g m:Nat) (hm:d.length=m) (hb:wN.heap[g]?=some (.cells (Dl d).toArray 95)) (hx:a.eval x=.slice (some ⟨g,0,none⟩) m m) (hbase:base<=wN.heap.size)
  (h:∀v' w',w'.ownsRow base 95 3 v' (n+m) (Dl (l++d))→(∀w0,Aa w0 wN→w0.heap.size<=base→Aa w0 w')→wN.grownBy w' v.ownBlock→wpList Tryz.prog ops Q rest (a.put o.dst v') w') :
  wpList Tryz.prog ops Q (o::rest) a wN:=
 wpList_plain hgd fun _ hK=>Akw s x ho wN base v n l d hs hown hn hd g m hm hb hx hbase fun v' w' h1 h2 h3=>hK _ _ (h v' w' h1 h2 h3)
end
end Go.Proofs.YtjalkoacphhgdaaGreatDoor
