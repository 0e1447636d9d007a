/- I28: ShBN ShBO ShD9 ShGG1 ShGG2 ShGG3 ShGG4 ShGG5 ShGG6 ShGG7. -/
import Derived.Test.YtnddllipjippnaaGreatDoorI27
set_option maxRecDepth 100000
set_option maxHeartbeats 8000000
namespace Go.Proofs.YtnddllipjippnaaGreatDoor
open Go.RowKit Kl Go.Shelf
section
attribute [local go_sem] Oper.semAt_some
theorem AnQ{P:Program}{id k n:Nat}{Q:Exit→Act→World→Prop}{a:Act}{W:World}{l:List Oper}(hm:P.follows .mixedOrders=true)(hB:Region.lexB .any l.toArray=true)(hd:Aau l=true)(hlo:¬LetsOut Q)
  (h:wpQuiet P l.toArray (fun w'=>∃p:Ac W,w'=p.w) (fun a'=>∀w',(∃p:Ac W,w'=p.w)→Q .normal a' w') l a):(Code.region id l.toArray true).wpIn (Fence.wide.inRound k) n P Q a W:=by
 simp only [Region.lexB,Bool.and_eq_true]at hB;refine wpIn_region_any hm (AcK (Aav hd) hlo _ _ _ _ (wpAny_of_quiet (C:=fun w'=>∃p:Ac W,w'=p.w) (Q:=fun a'=>∀w',(∃p:Ac W,w'=p.w)→Q .normal a' w') (fun _ w' hw' h=>h w' hw') _ _ _ _ ⟨⟨W.drew,(Ab.refl W).drew⟩,rfl⟩ ?_));have:=wpAnyQ_lex (C:=fun w'=>∃p:Ac W,w'=p.w) (md:=.any) hB.1 l 0 (Array.replicate l.toArray.size false) a (by simp) (by simpa using hB.2) h
 simpa using this
theorem AkI(a b p:Pt)(ha:Aw 1 a)(hb:Aw 1 b)(hp:Aw 1 p)(Ba Bb:Nat)(w:World)(hw:Aj w)
  (c0:w.cell? ⟨Ba,0,none⟩=some (S (R a.x))) (c1:w.cell? ⟨Ba,1,none⟩=some (S (R a.y))) (c2:w.cell? ⟨Bb,0,none⟩=some (S (R b.x))) (c3:w.cell? ⟨Bb,1,none⟩=some (S (R b.y))) :
  Calls Tryz.prog 132 #[Af p,.pointer (some ⟨Ba,0,none⟩),.pointer (some ⟨Bb,0,none⟩)] w (BW (R (Am a b p)) w):=by
 have E:=(Ab.refl w).alloc (.cells #[S (R p.x),S (R p.y)] 24);have Ap:=Asz w (.cells #[S (R p.x),S (R p.y)] 24);have ar:=uU a b p ha hb hp (by omega) (by omega) _ (hw.ext E);replace c0:=E.cellS c0;replace c1:=E.cellS c1;replace c2:=E.cellS c2;replace c3:=E.cellS c3;have c4:=Aa (o:=0) Ap rfl;have c5:=Aa (o:=1) Ap rfl;unfold Af S at ar;go_enter Tryz.func132,Tryz.ntmps132;unfold Af;(go_wp2_with fail);(with_reducible refine ar.mono ?_);rintro e w1 ⟨rfl,hx1⟩;go_wp2;go_ret;exact⟨rfl,E.trans hx1⟩
theorem Al9(r:Rat):r<0∨r=0∨0<r:=by
 by_cases h:r<0
 ·exact .inl h
 ·by_cases h0:r=0
  ·exact .inr (.inl h0)
  ·exact .inr (.inr ((Rat.le_iff_lt_or_eq.1 (Rat.not_lt.1 h)).resolve_right fun e=>h0 e.symm))
def Ia(f:Pt→Rat)(l:List Pt):List Pt:=l.filter (fun p=>decide (0<=f p))
def Jw(f:Pt→Rat)(l:List Pt):Bool:=l.any (fun p=>decide (0<f p))
theorem Alj(f:Pt→Rat)(l:List Pt)(p:Pt):Ia f (l ++ [p])=Ia f l++(if 0<=f p then [p] else []):=by
 unfold Ia;rw [List.filter_append];congr 1;simp [List.filter_cons]
theorem AoA(f:Pt→Rat)(l:List Pt)(p:Pt):Jw f (l ++ [p])=(Jw f l||decide (0<f p)):=by simp [Jw]
abbrev Nc(f:Pt→Rat):={s:Pt×Pt // Aw 1 s.1/\Aw 1 s.2/\¬AN (f s.1)*AN (f s.2)<0}
structure Bw(w:World)(fv sv:Value)(ks:List Pt)(sm:Bool)(W:World):Prop where
 out:∃v,W.heap[w.heap.size+1]?=some (.cells #[v] 31 (0,0))/\W.ownsRow w.heap.size 24 2 v ks.length (FX ks)
 som:W.heap[w.heap.size+2]?=some (.cells #[.bool sm] 4 (0,0))
 fn:W.heap[w.heap.size]?=some (.cells #[fv] 204 (0,0))
 box:W.heap[w.heap.size+3]?=some (.cells #[sv] 31 (0,0))
 below:Below w.heap.size w W
theorem Bw.size{w:World}{fv sv:Value}{ks:List Pt}{sm:Bool}{W:World}(h:Bw w fv sv ks sm W):w.heap.size+4<=W.heap.size:=by
 have:=(Array.getElem?_eq_some_iff.1 h.box).1;omega
theorem Bw.ext{w:World}{fv sv:Value}{ks:List Pt}{sm:Bool}{W W':World}(h:Bw w fv sv ks sm W)(hx:Ab W W'):Bw w fv sv ks sm W':=by
 obtain⟨v,hv,ho⟩:=h.out;have hs:=h.size;exact⟨⟨v,(hx.block _ (by omega)).trans hv,An ho hx⟩,(hx.block _ (by omega)).trans h.som,(hx.block _ (by omega)).trans h.fn,(hx.block _ (by omega)).trans h.box,h.below.trans (Below.mono hx h.below.size)⟩
theorem Bw.own{w:World}{fv sv:Value}{ks:List Pt}{sm:Bool}{W W':World}{row:Option Nat}{B:Nat}(hB:w.heap.size<=B)(h:Bw w fv sv ks sm W)(hg:W.grownBy W' row)(hr:∀r,row=some r→B<=r/\∃o:Obj,W.heap[r]?=some o/\o.isCells=false):Bw w fv sv ks sm W':=by
 have hr':∀r,row=some r→∃o:Obj,W.heap[r]?=some o/\o.isCells=false:=fun r e=>(hr r e).2;obtain⟨v,hv,ho⟩:=h.out;refine⟨⟨v,Gp hg hv hr',ho.kept hg ?_⟩,Gp hg h.som hr',Gp hg h.fn hr',Gp hg h.box hr',h.below.grown hg h.below.size (fun k e=>AsA hB (hr k e).1)⟩
 rcases ho.2 with⟨rfl,_⟩|⟨g,cap,cur,rfl,_,hgb,_⟩
 ·exact .inl rfl
 ·refine .inr fun e=>?_;obtain⟨o,h1,h2⟩:=hr' g e.symm;rw [hgb]at h1
  cases h1
  cases h2
theorem pC{w:World}{B:Nat}{e:TypeId}{s n:Nat}{v:Value}{xs:List Value}(hs:0<s)(h:w.ownsRow B e s v n xs):∃A c,v=.slice A n c:=by
 obtain⟨A,c,h1,-,-,-⟩:=Ad.of_own' hs h;exact⟨A,c,h1⟩
theorem oC:31≠24:=by decide
theorem ne4:4≠24:=by decide
theorem AlQ:204≠24:=by decide
theorem Bw.put{w:World}{fv sv:Value}{ks:List Pt}{sm:Bool}{W:World}(h:Bw w fv sv ks sm W)(b:Bool):Bw w fv sv ks b (W.setCell ⟨w.heap.size+2,0,none⟩ (.bool b)):=by
 obtain⟨v,hv,ho⟩:=h.out;have K:∀k,k≠w.heap.size+2→(W.setCell ⟨w.heap.size+2,0,none⟩ (.bool b)).heap[k]?=W.heap[k]?:=fun k hk=>Below.heap_setCell W _ _ k hk;refine⟨⟨v,(K _ (by omega)).trans hv,?_⟩,one_setCell h.som,(K _ (by omega)).trans h.fn,(K _ (by omega)).trans h.box,h.below.setCell (by show w.heap.size<=w.heap.size+2;omega) _⟩;refine ownsRow_setCell_other ho ?_ _;intro e
 rcases ownsRow_ne ho h.som (fun cur e=>by first|cases e|exact ne4 (Obj.cells.inj e).2.1)with e'|e'
 ·rw [e']at e;cases e
 ·exact e' e
theorem yn{w W:World}(b:Bool):C3 w.heap.size (w.heap.size+3) W (W.setCell ⟨w.heap.size+2,0,none⟩ (.bool b)):=
 ⟨(Below.refl _ W).setCell (p:=⟨w.heap.size+2,0,none⟩) (by show w.heap.size<=w.heap.size+2;omega) _,Below.heap_setCell W _ _ _ (by show w.heap.size+3≠w.heap.size+2;omega)⟩
theorem Bw.app{w:World}{fv sv:Value}{ks:List Pt}{sm:Bool}{W w3:World}{v v':Value}{x:Pt}(h:Bw w fv sv ks sm W)(ho:W.ownsRow w.heap.size 24 2 v ks.length (FX ks))
  (hown:w3.ownsRow w.heap.size 24 2 v' (ks.length+1) (FX ks ++ [S (R x.x),S (R x.y)])) (hg:W.grownBy w3 v.ownBlock) :
  Bw w fv sv (ks ++ [x]) sm (w3.setCell ⟨w.heap.size+1,0,none⟩ v')/\KeepsOthers W (w3.setCell ⟨w.heap.size+1,0,none⟩ v')/\C3 w.heap.size (w.heap.size+3) W (w3.setCell ⟨w.heap.size+1,0,none⟩ v')/\(∃u,w3.cell? ⟨w.heap.size+1,0,none⟩=some u)/\w3.frozen? ⟨w.heap.size+1,0,none⟩=false/\w3.cell? ⟨w.heap.size+2,0,none⟩=some (.bool sm)/\w3.frozen? ⟨w.heap.size+2,0,none⟩=false:=by
 obtain⟨v0,hv,-⟩:=h.out;have hs:=h.size
 have ne_of:∀{j:Nat} {o:Obj},W.heap[j]?=some o→(∀cur,o≠.cells cur 24 (0,0))→some j≠v.ownBlock:=fun hj hno=>by
  rcases ownsRow_ne ho hj hno with e|e
  ·rw [e];simp
  ·exact fun e'=>e e'.symm
 have k1:=(hg.block (w.heap.size+1) (by omega) (ne_of hv (fun cur e=>by first|cases e|exact oC (Obj.cells.inj e).2.1))).trans hv;have k2:=(hg.block (w.heap.size+2) (by omega) (ne_of h.som (fun cur e=>by first|cases e|exact ne4 (Obj.cells.inj e).2.1))).trans h.som;have k0:=(hg.block (w.heap.size) (by omega) (ne_of h.fn (fun cur e=>by first|cases e|exact AlQ (Obj.cells.inj e).2.1))).trans h.fn;have k3:=(hg.block (w.heap.size+3) (by omega) (ne_of h.box (fun cur e=>by first|cases e|exact oC (Obj.cells.inj e).2.1))).trans h.box;have K:∀k,k≠w.heap.size+1→(w3.setCell ⟨w.heap.size+1,0,none⟩ v').heap[k]?=w3.heap[k]?:=fun k hk=>Below.heap_setCell w3 _ _ k hk;have hb3:Below w.heap.size W w3:=(Below.refl _ W).grown hg (by omega) (fun k e=>(ho.lt k e).1);have hb4:=hb3.setCell (p:=⟨w.heap.size+1,0,none⟩) (by show w.heap.size<=w.heap.size+1;omega) v';refine⟨⟨⟨v',heap_setCell_box _ k1,?_⟩,(K _ (by omega)).trans k2,(K _ (by omega)).trans k0,(K _ (by omega)).trans k3,h.below.trans hb4⟩,?_,⟨hb4,(K _ (by omega)).trans (k3.trans h.box.symm)⟩,⟨_,(cell_of_box k1).1⟩,(cell_of_box k1).2,(cell_of_box k2).1,(cell_of_box k2).2⟩
 ·rw [List.length_append,AaW];refine ownsRow_setCell_other hown ?_ _;intro e
  rcases ownsRow_ne hown k1 (fun cur e=>by first|cases e|exact oC (Obj.cells.inj e).2.1)with e'|e'
  ·rw [e']at e;cases e
  ·exact e' e
 ·refine(KeepsOthers.of_grownBy hg fun j o e hj=>?_).trans (KeepsOthers.setCell _ _ _)
  rcases ho.2 with⟨rfl,_⟩|⟨g,cap,cur,rfl,_,hgb,_⟩
  ·cases e
  ·simp only [Value.ownBlock,As4]at e;subst e;rw [hgb]at hj
   cases hj
   rfl
def M5(f:Pt→Rat)(l:List Pt):List Pt:=if Jw f l=true then Ia f l else []
def AeH(l:List Pt)(w:World)(e:Ending)(w':World):Prop:=
 ∃A' c',e=.returned (.slice A' l.length c')/\Ad w' A' (flat (Ag l))/\l.length<=c'/\c'<=9223372036854775807/\(l = []→A'=none/\c'=0)/\Ab w w'
theorem AlP(f:Pt→Rat)(pg:List Pt)(h0:0<pg.length)(hz:∀p∈pg,Aw 1 p)(hcut:∀k,k<pg.length→¬AN (f (BE pg k).1)*AN (f (BE pg k).2)<0):∃g:Nat→Nc f,∀k,k<pg.length→(g k).1=BE pg k:=by
 have hm:∀k,Aw 1 (pg.getD (k%pg.length) ⟨0,0⟩):=fun k=>by have:k%pg.length<pg.length:=Nat.mod_lt _ h0;rw [List.getD_eq_getElem?_getD,As5 this];exact hz _ (As1 this)
 have h2:∀k,k<pg.length→Aw 1 (BE pg k).1/\Aw 1 (BE pg k).2/\¬AN (f (BE pg k).1)*AN (f (BE pg k).2)<0:=fun k hk=>⟨by have:=hm k;rwa [Nat.mod_eq_of_lt hk]at this,hm (k+1),hcut k hk⟩;exact⟨fun k=>if h:k<pg.length then ⟨BE pg k,h2 k h⟩else ⟨BE pg 0,h2 0 h0⟩,fun k hk=>by simp [hk]⟩
theorem AlO{f:Pt→Rat}{pg:List Pt}{g:Nat→Nc f}(hg:∀k,k<pg.length→(g k).1=BE pg k):(upto g pg.length).map (·.1.1)=pg:=by
 apply List.ext_getElem
 ·simp [upto]
 ·intro k h1 h2;simp only [upto,List.getElem_map,List.getElem_range];rw [hg k h2];simp [BE,List.getD_eq_getElem?_getD,As5 h2]
def Ft{f:Pt→Rat}(pre:List (Nc f)):List Pt:=pre.map (fun x=>x.1.1)
def Qq(f:Pt→Rat)(w:World)(fv sv:Value)(pre:List (Nc f))(W:World):Prop:=Bw w fv sv (Ia f (Ft pre)) (Jw f (Ft pre)) W
theorem Qq.own{f:Pt→Rat}{w:World}{fv sv:Value}{B:Nat}(hB:w.heap.size<=B):OwnFrom B (Qq f w fv sv):=fun _ _ _ _ h hg hr=>Bw.own hB h hg hr
def tQ(x:Pt×Pt)(Ba Bb:Nat)(W:World):Prop:=W.heap[Ba]?=some (.cells #[S (R x.1.x),S (R x.1.y)] 24 (0,0))/\W.heap[Bb]?=some (.cells #[S (R x.2.x),S (R x.2.y)] 24 (0,0))
theorem yg (a b : Pt) (ha : Aw 1 a) (hb : Aw 1 b) (pg : List Pt) (hz : ∀ p ∈ pg, Aw 1 p) (Dp : 0 < pg.length) (GO : pg.length ≤ 60) (hcut : ∀ k, k < pg.length → ¬ AN (Am a b (BE pg k).1) * AN (Am a b (BE pg k).2) < 0)
    (A : Option Addr) (cap : Nat) (Ba Bb : Nat) (w : World) (hw : Aj w) (hr : Ad w A (flat (Ag pg))) (_ : pg.length ≤ cap) (_ : cap ≤ 9223372036854775807)
    (eZ : w.heap[Ba]? = some (.cells #[S (R a.x), S (R a.y)] 24 (0, 0))) (fD : w.heap[Bb]? = some (.cells #[S (R b.x), S (R b.y)] 24 (0, 0))) :
    Calls Tryz.prog 131 #[.slice A pg.length cap, .func (.func 132) #[] #[.pointer (some ⟨Ba, 0, none⟩), .pointer (some ⟨Bb, 0, none⟩)]] w (AeH (M5 (Am a b) pg) w) := by
  obtain ⟨g, hg⟩ := AlP (Am a b) pg Dp hz hcut
  obtain ⟨fv, NQ⟩ := Asw (Value.func (.func 132) #[] #[.pointer (some ⟨Ba, 0, none⟩), .pointer (some ⟨Bb, 0, none⟩)])
  obtain ⟨W0, hW0⟩ := Asw ((((w.alloc (.cells #[fv] 204)).alloc (.cells #[.slice none 0 0] 31)).alloc (.cells #[.bool false] 4)).alloc (.cells #[.slice A pg.length cap] 31))
  have hs0 : W0.heap.size = w.heap.size + 4 := by rw [hW0]; simp
  have hx0 : Ab w W0 := by rw [hW0]; exact ((((Ab.refl w).alloc _).alloc _).alloc _).alloc _
  have Jd : Bw w fv (.slice A pg.length cap) [] false W0 := by
    have b0 := Asz w (.cells #[fv] 204)
    have b1 := Asz (w.alloc (.cells #[fv] 204)) (.cells #[.slice none 0 0] 31)
    have b2 := Asz ((w.alloc (.cells #[fv] 204)).alloc (.cells #[.slice none 0 0] 31)) (.cells #[.bool false] 4)
    have b3 := Asz (((w.alloc (.cells #[fv] 204)).alloc (.cells #[.slice none 0 0] 31)).alloc (.cells #[.bool false] 4)) (.cells #[.slice A pg.length cap] 31)
    simp only [As7] at b1 b2 b3
    rw [hW0]
    refine ⟨⟨.slice none 0 0, ?_, ⟨rfl, .inl ⟨rfl, rfl⟩⟩⟩, ?_, ?_, b3, hW0 ▸ hx0⟩
    · exact (Below.heap_alloc _ _ _ (by simp only [As7]; omega)).trans ((Below.heap_alloc _ _ _ (by simp only [As7]; omega)).trans b1)
    · exact (Below.heap_alloc _ _ _ (by simp only [As7]; omega)).trans b2
    · exact (Below.heap_alloc _ _ _ (by simp only [As7]; omega)).trans ((Below.heap_alloc _ _ _ (by simp only [As7]; omega)).trans ((Below.heap_alloc _ _ _ (by simp only [As7]; omega)).trans b0))
  rw [NQ] at hW0 Jd
  refine (callsIn_wide (n := 4)).1 ?_
  refine callsIn_of_wp_marks Tryz.func131 rfl trivial ?_ rfl
  simp only [Tryz.ntmps131, List.size_toArray, List.length_cons, List.length_nil, Nat.reduceAdd, Nat.reduceSub, Array.replicate_succ, Array.replicate_zero, List.push_toArray, List.append_toArray, List.nil_append, List.cons_append]
  gi_wp2
  refine ⟨trivial, ?_⟩
  refine (Abf Fence.wide 3 trivial rfl A pg.length cap _).mono ?_
  rintro e W3 ⟨rfl, rfl⟩
  gi_wp2
  rw [← hW0]
  rw [← NQ] at Jd
  have CX := Aa (o := 0) Jd.box rfl
  refine wpIn_rangeFunc_ownH rfl (by omega) (gf := 177) (lb := #[.pointer (some ⟨w.heap.size + 3, 0, none⟩)]) rfl trivial (enters_of Tryz.func177 (by kernel_rfl) rfl)
    (Abg (fun x : Nc (Am a b) => x.1) 3 (by omega) (w.heap.size + 3) w.heap.size A cap pg g hg W0 (by omega) (by omega) (by omega) CX ⟨w, hr, As0 _, hx0⟩)
    (fun h k => h.trans k) (C3.put (by omega) (by omega)) (Below.refl _ _) (fun _ => rfl)
    (Qq (Am a b) w fv (.slice A pg.length cap)) (fun _ _ _ => False)
    (Qq.own (by omega)) (fun _ _ _ _ _ hs _ _ => hs) Jd
    (fun x a' W => ∃ G2 G3, tQ x.1 G2 G3 W ∧ a' = { tmps := #[.slice A pg.length cap, .func (.func 132) #[] #[.pointer (some ⟨Ba, 0, none⟩), .pointer (some ⟨Bb, 0, none⟩)], undef, .pointer (some ⟨w.heap.size, 0, none⟩), .slice none 0 0, .pointer (some ⟨w.heap.size + 1, 0, none⟩), .pointer (some ⟨w.heap.size + 2, 0, none⟩), .pointer (some ⟨G2, 0, none⟩), .pointer (some ⟨G3, 0, none⟩), undef, undef, undef, undef, .slice A pg.length cap, .func (.func 177) #[] #[.pointer (some ⟨w.heap.size + 3, 0, none⟩)], Af x.1.1, Af x.1.2, undef, undef, undef, undef, undef, undef, undef, undef, undef, undef, undef, undef, undef, undef, undef, undef, undef, undef, undef, undef, undef, undef, undef, undef, undef, undef, undef, undef, undef, undef, undef, undef, undef, undef, undef, undef, undef, undef, undef, undef, undef, undef, undef, undef, undef, undef, undef, undef, undef, undef, undef], defers := [] })
    ?hAx ?assign ?body ?done ?stop
  case hAx =>
    rintro x a' s W W' row ⟨G2, G3, ⟨h1, h2⟩, rfl⟩ Pq hr'
    exact ⟨G2, G3, ⟨Gp Pq h1 (fun r e => (hr' r e).2), Gp Pq h2 (fun r e => (hr' r e).2)⟩, rfl⟩
  case assign =>
    intro l pre x W K hi hK
    have hi : Bw w fv (.slice A pg.length cap) (Ia (Am a b) (Ft pre)) (Jw (Am a b) (Ft pre)) W := hi
    have Oe := hi.size
    have e1 := Asz W (.cells #[S (R x.1.1.x), S (R x.1.1.y)] 24)
    have e2 := Asz (W.alloc (.cells #[S (R x.1.1.x), S (R x.1.1.y)] 24)) (.cells #[S (R x.1.2.x), S (R x.1.2.y)] 24)
    have X := ((Ab.refl W).alloc (.cells #[S (R x.1.1.x), S (R x.1.1.y)] 24)).alloc (.cells #[S (R x.1.2.x), S (R x.1.2.y)] 24)
    rw [As7] at e2
    unfold Af
    gi_wp2
    exact hK _ _ (M6 X) (C3.of_ext X (by omega) (by omega)) (hi.ext X) ⟨_, _, ⟨(Below.heap_alloc _ _ _ (by simp only [As7]; omega)).trans e1, e2⟩, rfl⟩
  case body =>
    rintro l pre x a' W hl AjT hI ⟨G2, G3, ⟨e1, e2⟩, rfl⟩ hlen
    subst NQ
    gi_wp2
    obtain ⟨z1, z2, hno⟩ := x.2
    have hs := Bw.size hI
    have C0 : Aj W := hw.ext (Bw.below hI)
    have fC := (Below.block (Bw.below hI) _ (Asy eZ)).trans eZ
    have fE := (Below.block (Bw.below hI) _ (Asy fD)).trans fD
    obtain ⟨p1, p2, Ry, UW⟩ : ∃ p1 p2, p1 = x.1.1 ∧ p2 = x.1.2 := ⟨_, _, rfl, rfl⟩
    have hpre : Ft (pre ++ [x]) = Ft pre ++ [p1] := by unfold Ft; rw [List.map_append, Ry]; rfl
    rw [← Ry] at z1
    rw [← UW] at z2
    rw [← Ry, ← UW] at hno
    have N8 : ∀ W', Qq (Am a b) w (.func (.func 132) #[] #[.pointer (some ⟨Ba, 0, none⟩), .pointer (some ⟨Bb, 0, none⟩)]) (.slice A pg.length cap) (pre ++ [x]) W' ↔ Bw w (.func (.func 132) #[] #[.pointer (some ⟨Ba, 0, none⟩), .pointer (some ⟨Bb, 0, none⟩)]) (.slice A pg.length cap) (Ia (Am a b) (Ft pre) ++ (if 0 ≤ Am a b p1 then [p1] else [])) (Jw (Am a b) (Ft pre) || decide (0 < Am a b p1)) W' := fun W' => by unfold Qq; rw [hpre, Alj, AoA]
    have hI : Bw w (.func (.func 132) #[] #[.pointer (some ⟨Ba, 0, none⟩), .pointer (some ⟨Bb, 0, none⟩)]) (.slice A pg.length cap) (Ia (Am a b) (Ft pre)) (Jw (Am a b) (Ft pre)) W := hI
    rw [← Ry, ← UW]
    rw [← Ry] at e1
    rw [← UW] at e2
    have C6 : (Ia (Am a b) (Ft pre)).length ≤ 60 := by
      refine AsA (List.length_filter_le _ _) ?_
      unfold Ft; rw [List.length_map]; omega
    obtain ⟨ks, JX⟩ := Asw (Ia (Am a b) (Ft pre))
    obtain ⟨sm, hsm⟩ := Asw (Jw (Am a b) (Ft pre))
    rw [← JX] at hI C6 N8
    rw [← hsm] at hI N8
    have q0 : ∀ q : Ac W, q.w.cell? ⟨w.heap.size, 0, none⟩ = some (.func (.func 132) #[] #[.pointer (some ⟨Ba, 0, none⟩), .pointer (some ⟨Bb, 0, none⟩)]) := Ac.cell (Aa hI.fn rfl)
    have q1 : ∀ q : Ac W, q.w.cell? ⟨G2, 0, none⟩ = some (S (R p1.x)) := Ac.cell (Aa e1 rfl)
    have q2 : ∀ q : Ac W, q.w.cell? ⟨G2, 1, none⟩ = some (S (R p1.y)) := Ac.cell (Aa e1 rfl)
    have q3 : ∀ q : Ac W, q.w.cell? ⟨G3, 0, none⟩ = some (S (R p2.x)) := Ac.cell (Aa e2 rfl)
    have q4 : ∀ q : Ac W, q.w.cell? ⟨G3, 1, none⟩ = some (S (R p2.y)) := Ac.cell (Aa e2 rfl)
    have ct := fun (q : Ac W) (p : Pt) (hp : Aw 1 p) => AkI a b p ha hb hp Ba Bb q.w (C0.ext q.h) (q.h.cellS (Aa (o := 0) fC rfl)) (q.h.cellS (Aa (o := 1) fC rfl)) (q.h.cellS (Aa (o := 0) fE rfl)) (q.h.cellS (Aa (o := 1) fE rfl))
    have k1 := fun (q : Ac W) => ct q p1 z1
    have k2 := fun (q : Ac W) => ct q p2 z2
    unfold Af at k1 k2
    have K1 := Asx N8
    clear ct hpre N8 Ry UW JX hsm fC fE
    refine AnQ (by kernel_rfl) (by kernel_rfl) (by kernel_rfl) (by rintro ⟨_, _, h⟩; exact h) ?_
    repeat (go_big_quiet_step (first | with_reducible exact LN (k1 _) | with_reducible exact LN (k2 _)))
    refine wpQuiet_nil ?_
    rintro W7 ⟨q, hq⟩
    have Az : Ab W W7 := hq ▸ q.h
    clear hq q q0 q1 q2 q3 q4 k1 k2
    have EO := Bw.ext hI Az
    obtain ⟨r1, hr1⟩ := Asw (Am a b p1)
    obtain ⟨r2, hr2⟩ := Asw (Am a b p2)
    rw [← hr1, ← hr2] at hno
    have N8 := K1.out
    rw [← hr1] at N8
    rw [← hr1, ← hr2]
    have cs1 := fun (V : World) => PU r1 V
    have Xo := fun (V : World) => PU r2 V
    obtain ⟨i0, hi, hz0, hz1, hz2⟩ := info_parts Tryz.infoPt
    have Q9 := (Az.block _ (Asy e1)).trans e1
    have hs2 := Ss r2
    obtain ⟨s2, uf⟩ := Asw (AN r2)
    rw [← uf] at Xo hno hs2
    have hs7 := Bw.size EO
    have aT := Asx N8
    clear K1 hr1 hr2 uf N8 e1 e2 hI eZ fD z1 z2
    rcases Al9 r1 with Ld | Vq | C7
    · have D4 := AbJ Ld
      have UO : ¬ 0 ≤ r1 := Rat.not_le.2 Ld
      have JY : ¬ 0 < r1 := fun h => UO (Rat.le_of_lt h)
      rw [D4] at cs1 hno
      have Ci : ¬ 0 < s2 := by omega
      gi_wp2
      refine ⟨trivial, ?_⟩
      refine (CallsIn.inRound l (callsIn_wide.2 (cs1 _))).mono ?_
      rintro e W8 ⟨rfl, Be⟩
      gi_wp2
      refine ⟨trivial, ?_⟩
      refine (CallsIn.inRound l (callsIn_wide.2 (cs1 _))).mono ?_
      rintro e Wa ⟨rfl, FC⟩
      gi_wp2
      refine ⟨trivial, ?_⟩
      refine (CallsIn.inRound l (callsIn_wide.2 (Xo _))).mono ?_
      rintro e Wb ⟨rfl, hxb⟩
      gi_wp2
      have X := (Az.trans Be).trans (FC.trans hxb)
      refine ⟨M6 X, C3.of_ext X (by omega) (by omega), (aT.out _).2 ?_⟩
      rw [if_neg UO, decide_eq_false JY, List.append_nil, Bool.or_false]
      exact Bw.ext EO (Be.trans (FC.trans hxb))
    · have D4 : AN r1 = 0 := by rw [Vq]; rfl
      have hle : 0 ≤ r1 := by rw [Vq]; decide
      have Ka : ¬ 0 < r1 := by rw [Vq]; decide
      have Bl : (R r1 == [48]) = true := by rw [beq_iff_eq]; exact tU.2 Vq
      have Bp : (R r1 != [48]) = false := by rw [bne, Bl]; rfl
      clear Vq
      rw [D4] at cs1 hno
      gi_wp2
      refine ⟨trivial, ?_⟩
      refine (CallsIn.inRound l (callsIn_wide.2 (cs1 _))).mono ?_
      rintro e W8 ⟨rfl, Be⟩
      have KR := Bw.ext EO Be
      have td := Bw.size KR
      obtain ⟨v, hv, ho⟩ := KR.out
      obtain ⟨vA, vc, rfl⟩ := pC (by omega) ho
      have f1 := (cell_of_box hv).1
      have TI := (Be.block _ (Asy Q9)).trans Q9
      have f2 := Aa (o := 0) TI rfl
      have f3 := Aa (o := 1) TI rfl
      have X8 := Az.trans Be
      clear Q9 EO Az Be
      cases sm
      all_goals (
        gi_wp2_with (gi_at_builtin; refine wpListIn_append_own _ rfl _ _ 31 rfl w.heap.size 24 i0 (.agg #[S [], S []]) 2 32 Tryz.underlying31 hi hz0 hz1 hz2 rfl (by decide) _ _ _ rfl (ho.alloc _) ⟨W8.heap.size, 0, none⟩ 1 1 [S (R p1.x), S (R p1.y)] rfl rfl (dR _ _ _ _) (by simp [Value.oneCell']) (by unfold maxLen; omega) (by omega) (by simp; omega) ?_; intro v' w3 hown' hg3 hnil3
                     obtain ⟨Uo, iS, iT, ⟨u3, hc3⟩, hf3, ku, Ajc⟩ := Bw.app (x := p1) (Bw.ext KR ((Ab.refl W8).alloc (.cells #[S (R p1.x), S (R p1.y)] 24))) (ho.alloc _) hown' hg3
                     obtain ⟨g', cap', mO⟩ : ∃ g' cap', v' = .slice (some ⟨g', 0, none⟩) (ks.length + 1) cap' := by
                       rcases hown'.2 with ⟨_, h0⟩ | ⟨g', cap', _, h', _⟩
                       · exact absurd h0 (by omega)
                       · exact ⟨g', cap', h'⟩
                     subst mO
                     clear hown' hg3 hnil3
                     go_frame)
        refine ⟨trivial, ?_⟩
        refine (CallsIn.inRound l (callsIn_wide.2 (cs1 _))).mono ?_
        rintro e Wa ⟨rfl, FC⟩
        gi_wp2
        refine ⟨trivial, ?_⟩
        refine (CallsIn.inRound l (callsIn_wide.2 (Xo _))).mono ?_
        rintro e Wb ⟨rfl, hxb⟩
        gi_wp2
        have hP := fun b => Bw.put Uo b
        have Vb := Bw.size Uo
        have X := FC.trans hxb
        refine ⟨((M6 (X8.alloc _)).trans ((iS.trans (KeepsOthers.setCell _ _ _)).from _)).trans (M6 X), (((C3.of_ext (Bs := w.heap.size + 3) (X8.alloc _) (by omega) (by omega)).trans iT).trans (yn _)).trans (C3.of_ext X (by rw [World.size_setCell]; omega) (by rw [World.size_setCell]; omega)), (aT.out _).2 ?_⟩
        rw [if_pos hle]
        simp only [decide_eq_false Ka, Bool.or_false]
        exact Bw.ext (hP _) X)
    · have D4 := qA C7
      have hle : 0 ≤ r1 := Rat.le_of_lt C7
      have Ci : ¬ s2 < 0 := by
        intro h
        rw [D4] at hno
        omega
      have Bl : (R r1 == [48]) = false := Ip (fun e => by rw [e] at C7; exact absurd C7 (by decide))
      have Bp : (R r1 != [48]) = true := by rw [bne, Bl]; rfl
      rw [D4] at cs1 hno
      gi_wp2
      refine ⟨trivial, ?_⟩
      refine (CallsIn.inRound l (callsIn_wide.2 (cs1 _))).mono ?_
      rintro e W8 ⟨rfl, Be⟩
      have KR := Bw.ext EO Be
      have td := Bw.size KR
      obtain ⟨v, hv, ho⟩ := KR.out
      obtain ⟨vA, vc, rfl⟩ := pC (by omega) ho
      have f1 := (cell_of_box hv).1
      have TI := (Be.block _ (Asy Q9)).trans Q9
      have f2 := Aa (o := 0) TI rfl
      have f3 := Aa (o := 1) TI rfl
      have X8 := Az.trans Be
      clear Q9 EO Az Be
      cases sm
      all_goals (
        gi_wp2_with (gi_at_builtin; refine wpListIn_append_own _ rfl _ _ 31 rfl w.heap.size 24 i0 (.agg #[S [], S []]) 2 32 Tryz.underlying31 hi hz0 hz1 hz2 rfl (by decide) _ _ _ rfl (ho.alloc _) ⟨W8.heap.size, 0, none⟩ 1 1 [S (R p1.x), S (R p1.y)] rfl rfl (dR _ _ _ _) (by simp [Value.oneCell']) (by unfold maxLen; omega) (by omega) (by simp; omega) ?_; intro v' w3 hown' hg3 hnil3
                     obtain ⟨Uo, iS, iT, ⟨u3, hc3⟩, hf3, ku, Ajc⟩ := Bw.app (x := p1) (Bw.ext KR ((Ab.refl W8).alloc (.cells #[S (R p1.x), S (R p1.y)] 24))) (ho.alloc _) hown' hg3
                     obtain ⟨g', cap', mO⟩ : ∃ g' cap', v' = .slice (some ⟨g', 0, none⟩) (ks.length + 1) cap' := by
                       rcases hown'.2 with ⟨_, h0⟩ | ⟨g', cap', _, h', _⟩
                       · exact absurd h0 (by omega)
                       · exact ⟨g', cap', h'⟩
                     subst mO
                     clear hown' hg3 hnil3
                     go_frame)
        refine ⟨trivial, ?_⟩
        refine (CallsIn.inRound l (callsIn_wide.2 (cs1 _))).mono ?_
        rintro e Wa ⟨rfl, FC⟩
        gi_wp2
        refine ⟨trivial, ?_⟩
        refine (CallsIn.inRound l (callsIn_wide.2 (Xo _))).mono ?_
        rintro e Wb ⟨rfl, hxb⟩
        gi_wp2
        have hP := fun b => Bw.put Uo b
        have Vb := Bw.size Uo
        have X := FC.trans hxb
        refine ⟨((M6 (X8.alloc _)).trans ((iS.trans (KeepsOthers.setCell _ _ _)).from _)).trans (M6 X), (((C3.of_ext (Bs := w.heap.size + 3) (X8.alloc _) (by omega) (by omega)).trans iT).trans (yn _)).trans (C3.of_ext X (by rw [World.size_setCell]; omega) (by rw [World.size_setCell]; omega)), (aT.out _).2 ?_⟩
        rw [if_pos hle]
        simp only [decide_eq_true C7, Bool.or_true]
        exact Bw.ext (hP _) X)
  case done =>
    rintro D ys W hD rfl hI hK
    have hI : Bw w fv (.slice A pg.length cap) (Ia (Am a b) (Ft (upto g pg.length))) (Jw (Am a b) (Ft (upto g pg.length))) W := hI
    rw [show Ft (upto g pg.length) = pg from AlO hg] at hI
    have td := Bw.size hI
    obtain ⟨v, hv, ho⟩ := hI.out
    obtain ⟨vA, vc, rfl⟩ := pC (by omega) ho
    have f1 := (cell_of_box hv).1
    have f2 := (cell_of_box hI.som).1
    have Mf := Bw.below hI
    obtain ⟨sm, hsm⟩ := Asw (Jw (Am a b) pg)
    rw [← hsm] at f2
    have ir : Ab w (W.putObj D (.deferred none)) := Mf.trans (belowK_b (w := w) (As0 _) W D _ _ (by omega) hK rfl rfl)
    have ho2 := ho.kept (grownBy_putObj W D (.deferred none)) (ownsRow_ne ho hK (fun cur e => by cases e))
    obtain ⟨A2, c2, hv2, Kc, hc1, hc2⟩ := Ad.of_own' (by omega) ho2
    simp only [Value.slice.injEq, true_and] at hv2
    obtain ⟨rfl, rfl⟩ := hv2
    have hk0 : sm = false → M5 (Am a b) pg = [] := fun h => by unfold M5; rw [← hsm, h]; rfl
    have D3 : sm = true → M5 (Am a b) pg = Ia (Am a b) pg := fun h => by unfold M5; rw [← hsm, if_pos h]
    have hnil : sm = true → Ia (Am a b) pg = [] → vA = none ∧ vc = 0 := fun h e => by
      exfalso
      rw [hsm] at h
      unfold Jw at h
      rw [List.any_eq_true] at h
      obtain ⟨p, hp, h⟩ := h
      have : p ∈ Ia (Am a b) pg := List.mem_filter.2 ⟨hp, decide_eq_true (Rat.le_of_lt (of_decide_eq_true h))⟩
      rw [e] at this
      cases this
    clear hI hsm
    cases sm
    · gi_wp2
      refine ⟨by simp, .inl ⟨_, _, rfl, run_takeDeferred hK, ?_⟩⟩
      refine ⟨_, results_tmp rfl _ _ _, ?_⟩
      exact ⟨none, 0, rfl, ⟨fun h => by simp [flat, Ag] at h⟩, As0 _, by omega, fun _ => ⟨rfl, rfl⟩, ir⟩
    · gi_wp2
      refine ⟨by simp, .inl ⟨_, _, rfl, run_takeDeferred hK, ?_⟩⟩
      refine ⟨_, results_tmp rfl _ _ _, ?_⟩
      exact ⟨vA, vc, rfl, Kc, hc1, hc2, hnil trivial, ir⟩
  case stop =>
    rintro D c pre W _ _ h _
    exact h.elim
end
section
attribute [local go_sem] Oper.semAt_some
theorem Agh(p q:List Pt)(hp:OK p)(hq:OK q)(RI:∀x∈p,Aw 1 x)(M3:∀x∈q,Aw 1 x)(A B:Option Addr)(c d blk:Nat)(w:World)(hw:Aj w)
  (hA:Ad w A (flat (Ag p))) (hB:Ad w B (flat (Ag q))) (hc:p.length<=c) (hc2:c<=9223372036854775807) (hd:q.length<=d) (Hv:d<=9223372036854775807)
  (c0:w.cell? ⟨blk,0,none⟩=some (.slice A p.length c)) (c1:w.cell? ⟨blk,1,none⟩=some (.slice B q.length d)) :
  Calls Tryz.prog 129 #[.slice (some ⟨blk,0,none⟩) 2 2] w (AI 0 w):=by
 have k1:=fun (W:World) (hx:Ab w W)=>pH p hp RI (by omega) (by omega) A c W (hw.ext hx) (hA.ext hx) hc hc2;have k2:=fun (W:World) (hx:Ab w W)=>pH q hq M3 (by omega) (by omega) B d W (hw.ext hx) (hB.ext hx) hd Hv;clear hp hq RI M3 hA hB;go_enter Tryz.func129,Tryz.ntmps129;go_wp2
 go_loopw [8] (fun i wr=>(i=.int .i64 0∨i=.int .i64 1∨i=.int .i64 2)/\Ab w wr) (fun i _=>2-(intOf i).toNat)
 case atStart=>exact⟨.inl rfl,Ab.refl _⟩
 case round=>
  obtain⟨h,hx⟩:=hrel;have d0:=hx.cellS c0;have d1:=hx.cellS c1
  rcases h with rfl|rfl|rfl
  ·have k:=k1 wr hx;clear k1 k2 c0 c1;(go_wp2_with fail);(with_reducible refine k.mono ?_);rintro e w2 ⟨rfl,hx2⟩;go_wp2;go_roundw
   case rel=>exact⟨.inr (.inl rfl),hx.trans hx2⟩
   case measure=>simp [intOf]
  ·have k:=k2 wr hx;clear k1 k2 c0 c1;(go_wp2_with fail);(with_reducible refine k.mono ?_);rintro e w2 ⟨rfl,hx2⟩;go_wp2;go_roundw
   case rel=>exact⟨.inr (.inr rfl),hx.trans hx2⟩
   case measure=>simp [intOf]
  ·clear k1 k2 c0 c1;go_wp2;go_ret;exact⟨rfl,hx⟩
theorem Ad.keptM{W W':World}{row:Option Nat}{A:Option Addr}{cs:List Value}(h:Ad W A cs)(hg:W.grownBy W' row)(hr:∀r,row=some r→∃o:Obj,W.heap[r]?=some o/\o.isCells=false):Ad W' A cs:=
 ⟨fun h0=>by
  obtain⟨b,o,e,hc⟩:=h.ad h0
  exact⟨b,o,e,fun j hj=>cell_kept (hc j hj) hg hr⟩⟩
def MJ(p:List Pt)(s:Pt×Pt):Prop:=(∀x∈p,0<=Am s.1 s.2 x)/\∃x∈p,0<Am s.1 s.2 x
def Lu(p:List Pt)(s:Pt×Pt):Prop:=∀x∈p,Am s.1 s.2 x<=0
abbrev Sd(p:List Pt):={s:Pt×Pt // Aw 1 s.1/\Aw 1 s.2/\(MJ p s∨Lu p s)}
theorem Aos(p q:List Pt)(h0:0<q.length)(hz:∀x∈q,Aw 1 x)(hs:∀k,k<q.length→MJ p (BE q k)∨Lu p (BE q k)):∃g:Nat→Sd p,∀k,k<q.length→(g k).1=BE q k:=by
 have hm:∀k,Aw 1 (q.getD (k%q.length) ⟨0,0⟩):=fun k=>by have:k%q.length<q.length:=Nat.mod_lt _ h0;rw [List.getD_eq_getElem?_getD,As5 this];exact hz _ (As1 this)
 have h2:∀k,k<q.length→Aw 1 (BE q k).1/\Aw 1 (BE q k).2/\(MJ p (BE q k)∨Lu p (BE q k)):=fun k hk=>⟨by have:=hm k;rwa [Nat.mod_eq_of_lt hk]at this,hm (k+1),hs k hk⟩;exact⟨fun k=>if h:k<q.length then ⟨BE q k,h2 k h⟩else ⟨BE q 0,h2 0 h0⟩,fun k hk=>by simp [hk]⟩
theorem ZN{p:List Pt}{k:Nat}(hk:k<p.length):(BE p k).1∈p/\(BE p k).2∈p:=by
 have h2:(k+1)%p.length<p.length:=Nat.mod_lt _ (by omega);unfold BE;rw [List.getD_eq_getElem?_getD,As5 hk,List.getD_eq_getElem?_getD,As5 h2];exact⟨As1 hk,As1 h2⟩
theorem AbL{r:Rat}(h:0<=r):0<=AN r:=by
 unfold AN;rw [if_neg (Rat.not_lt.2 h)];split<;>omega
theorem AbM{r:Rat}(h:r<=0):AN r<=0:=by
 unfold AN;by_cases h0:r=0
 ·rw [if_pos h0];omega
 ·rw [if_neg h0,if_pos ((Rat.le_iff_lt_or_eq.1 h).resolve_right h0)];omega
theorem Ald{p:List Pt}{s:Pt×Pt}(h:MJ p s):M5 (Am s.1 s.2) p=p:=by
 unfold M5;rw [if_pos]
 ·exact List.filter_eq_self.2 fun x hx=>decide_eq_true (h.1 x hx)
 ·obtain⟨x,hx,h0⟩:=h.2;exact List.any_eq_true.2 ⟨x,hx,decide_eq_true h0⟩
theorem Alc{p:List Pt}{s:Pt×Pt}(h:Lu p s):M5 (Am s.1 s.2) p = []:=by
 unfold M5;rw [if_neg];intro h2;obtain⟨x,hx,h0⟩:=List.any_eq_true.1 h2;exact Rat.not_lt.2 (h x hx) (of_decide_eq_true h0)
theorem AlZ{p:List Pt}{s:Pt×Pt}(h:MJ p s):∀k,k<p.length→¬AN (Am s.1 s.2 (BE p k).1)*AN (Am s.1 s.2 (BE p k).2)<0:=fun k hk=>by
 have h1:=AbL (h.1 _ (ZN hk).1);have h2:=AbL (h.1 _ (ZN hk).2);exact Int.not_lt.2 (Int.mul_nonneg h1 h2)
theorem AlY{p:List Pt}{s:Pt×Pt}(h:Lu p s):∀k,k<p.length→¬AN (Am s.1 s.2 (BE p k).1)*AN (Am s.1 s.2 (BE p k).2)<0:=fun k hk=>by
 have h1:=AbM (h _ (ZN hk).1);have h2:=AbM (h _ (ZN hk).2);exact Int.not_lt.2 (Int.mul_nonneg_of_nonpos_of_nonpos h1 h2)
theorem AfO{w:World}{b o:Nat}{cs:Array Value}{t:TypeId}{fz:Nat×Nat}{v:Value}(h:w.heap[b]?=some (.cells cs t fz))(hc:w.cell? ⟨b,o,none⟩=some v):cs[o]?=some v:=by
 cases e:cs[o]? with
 | some u=>
  have h2:=hc;simp [World.cell?,h,e]at h2;rw [←h2]
 | none=>simp [World.cell?,h,e]at hc
structure FM(w:World)(bo:Nat)(p:List Pt)(sv:Value)(W:World):Prop where
 c4:∃v,W.heap[w.heap.size]?=some (.cells #[v] 31 (0,0))
 c5:∃v,W.heap[w.heap.size+1]?=some (.cells #[v] 4 (0,0))
 c6:∃v,W.heap[w.heap.size+2]?=some (.cells #[v] 29 (0,0))
 out:∃A c,W.heap[bo]?=some (.cells #[.slice A p.length c] 31 (0,0))/\Ad W A (flat (Ag p))/\p.length<=c/\c<=9223372036854775807
 box:W.heap[bo+1]?=some (.cells #[sv] 31 (0,0))
 below:Below w.heap.size w W
def InJ(w:World)(bo:Nat)(p:List Pt)(sv:Value)(pre:List (Sd p))(W:World):Prop:=FM w bo p sv W/\∀s∈pre,MJ p s.1
theorem FM.own{w:World}{bo:Nat}{p:List Pt}{sv:Value}{W W':World}{row:Option Nat}{B:Nat}(hB:w.heap.size<=B)(h:FM w bo p sv W)(hg:W.grownBy W' row)(hr:∀r,row=some r→B<=r/\∃o:Obj,W.heap[r]?=some o/\o.isCells=false):FM w bo p sv W':=by
 have hr':∀r,row=some r→∃o:Obj,W.heap[r]?=some o/\o.isCells=false:=fun r e=>(hr r e).2;obtain⟨v4,h4⟩:=h.c4;obtain⟨v5,h5⟩:=h.c5;obtain⟨v6,h6⟩:=h.c6;obtain⟨A,c,ho,Bi,h1,h2⟩:=h.out;exact⟨⟨v4,Gp hg h4 hr'⟩,⟨v5,Gp hg h5 hr'⟩,⟨v6,Gp hg h6 hr'⟩,⟨A,c,Gp hg ho hr',Bi.keptM hg hr',h1,h2⟩,Gp hg h.box hr',h.below.grown hg h.below.size (fun k e=>AsA hB (hr k e).1)⟩
theorem FM.ext{w:World}{bo:Nat}{p:List Pt}{sv:Value}{W W':World}(h:FM w bo p sv W)(hx:Ab W W'):FM w bo p sv W':=by
 obtain⟨v4,h4⟩:=h.c4;obtain⟨v5,h5⟩:=h.c5;obtain⟨v6,h6⟩:=h.c6;obtain⟨A,c,ho,Bi,h1,h2⟩:=h.out;exact⟨⟨v4,(hx.block _ (Asy h4)).trans h4⟩,⟨v5,(hx.block _ (Asy h5)).trans h5⟩,⟨v6,(hx.block _ (Asy h6)).trans h6⟩,⟨A,c,(hx.block _ (Asy ho)).trans ho,Bi.ext hx,h1,h2⟩,(hx.block _ (Asy h.box)).trans h.box,h.below.trans (Below.mono hx h.below.size)⟩
theorem FM.put{w:World}{bo:Nat}{p:List Pt}{sv:Value}{W:World}(h:FM w bo p sv W)(DI:w.heap.size+3<=bo){A:Option Addr}{c:Nat}(Bi:Ad W A (flat (Ag p)))(hne:∀x,A=some x→x.block≠bo)(h1:p.length<=c)(h2:c<=9223372036854775807) :
  FM w bo p sv (W.setCell ⟨bo,0,none⟩ (.slice A p.length c))/\C3 w.heap.size (bo+1) W (W.setCell ⟨bo,0,none⟩ (.slice A p.length c)):=by
 obtain⟨v4,h4⟩:=h.c4;obtain⟨v5,h5⟩:=h.c5;obtain⟨v6,h6⟩:=h.c6;obtain⟨A0,c0,ho,-,-,-⟩:=h.out;have K:∀k,k≠bo→(W.setCell ⟨bo,0,none⟩ (.slice A p.length c)).heap[k]?=W.heap[k]?:=fun k hk=>Below.heap_setCell W _ _ k hk;have hb:=(Below.refl w.heap.size W).setCell (p:=⟨bo,0,none⟩) (by show w.heap.size<=bo;omega) (.slice A p.length c);refine⟨⟨⟨v4,(K _ (by omega)).trans h4⟩,⟨v5,(K _ (by omega)).trans h5⟩,⟨v6,(K _ (by omega)).trans h6⟩,⟨A,c,heap_setCell_box _ ho,⟨fun h0=>?_⟩,h1,h2⟩,(K _ (by omega)).trans h.box,h.below.trans hb⟩,hb,K _ (by omega)⟩;obtain⟨b,o,e,hc⟩:=Bi.ad h0;exact⟨b,o,e,fun j hj=>(World.cell?_of_block (a:=⟨b,o+j,none⟩) (K b (hne _ e))).trans (hc j hj)⟩
def InX(w:World)(c:Code)(W:World):Prop:=c=.ret/\W.heap[w.heap.size]?=some (.cells #[.slice none 0 0] 31 (0,0))/\W.heap[w.heap.size+1]?=some (.cells #[.bool false] 4 (0,0))/\W.heap[w.heap.size+2]?=some (.cells #[.int .i64 0] 29 (0,0))/\Below w.heap.size w W
def WL(p:List Pt)(w:World)(c:Code)(_:List (Sd p))(W:World):Prop:=InX w c W
theorem WL.own{p:List Pt}{w:World}{c:Code}{B:Nat}(hB:w.heap.size<=B):OwnFrom B (WL p w c):=by
 rintro s W W' row ⟨rfl,h4,h5,h6,hb⟩ hg hr;have hr':∀r,row=some r→∃o:Obj,W.heap[r]?=some o/\o.isCells=false:=fun r e=>(hr r e).2;exact⟨rfl,Gp hg h4 hr',Gp hg h5 hr',Gp hg h6 hr',hb.grown hg hb.size (fun k e=>AsA hB (hr k e).1)⟩
def AeI(w:World)(e:Ending)(w':World):Prop:=e=.returned (.tuple #[.slice none 0 0,.bool false,.int .i64 0])/\Ab w w'
theorem AkJ(p q:List Pt)(hp:OK p)(hq:OK q)(RI:∀x∈p,Aw 1 x)(M3:∀x∈q,Aw 1 x)(hs:∀k,k<q.length→MJ p (BE q k)∨Lu p (BE q k))(jC:∃k,k<q.length/\Lu p (BE q k))
  (A B:Option Addr) (c d:Nat) (w:World) (hw:Aj w) (hA:Ad w A (flat (Ag p))) (hB:Ad w B (flat (Ag q))) (hc:p.length<=c) (hc2:c<=9223372036854775807) (hd:q.length<=d) (Hv:d<=9223372036854775807) :
  Calls Tryz.prog 80 #[.slice A p.length c,.slice B q.length d] w (AeI w):=by
 have ra:=hp.n3;have rb:=hp.n60;have rq:=hq.n3;have Ary:=hq.n60;obtain⟨g,hg⟩:=Aos p q (by omega) M3 hs;have X0:=((((Ab.refl w).alloc (.cells #[.slice none 0 0] 31)).alloc (.cells #[.bool false] 4)).alloc (.cells #[.int .i64 0] 29)).alloc (.cells #[.slice A p.length c,.slice B q.length d] 31);have b0:=Asz w (.cells #[.slice none 0 0] 31);have b1:=Asz (w.alloc (.cells #[.slice none 0 0] 31)) (.cells #[.bool false] 4);have b2:=Asz ((w.alloc (.cells #[.slice none 0 0] 31)).alloc (.cells #[.bool false] 4)) (.cells #[.int .i64 0] 29);have b3:=Asz (((w.alloc (.cells #[.slice none 0 0] 31)).alloc (.cells #[.bool false] 4)).alloc (.cells #[.int .i64 0] 29)) (.cells #[.slice A p.length c,.slice B q.length d] 31);simp only [As7]at b1 b2 b3;have ck:=Agh p q hp hq RI M3 A B c d (w.heap.size+1+1+1) _ (hw.ext X0) (hA.ext X0) (hB.ext X0) hc hc2 hd Hv (Aa (o:=0) b3 rfl) (Aa (o:=1) b3 rfl);have B0:=(Below.heap_alloc ((w.alloc (.cells #[.slice none 0 0] 31)).alloc (.cells #[.bool false] 4)) (.cells #[.int .i64 0] 29) w.heap.size (by simp only [As7];omega)).trans ((Below.heap_alloc _ _ _ (by simp only [As7];omega)).trans b0);have B1:=(Below.heap_alloc ((w.alloc (.cells #[.slice none 0 0] 31)).alloc (.cells #[.bool false] 4)) (.cells #[.int .i64 0] 29) (w.heap.size+1) (by simp only [As7];omega)).trans b1;obtain⟨V,hV⟩:=Asw (((w.alloc (.cells #[.slice none 0 0] 31)).alloc (.cells #[.bool false] 4)).alloc (.cells #[.int .i64 0] 29));have tq:V.heap.size=w.heap.size+3:=(by rw [hV];simp only [As7]);rw [←hV]at X0 ck B0 B1 b2;have EV:=(Ab.refl V).alloc (.cells #[.slice A p.length c,.slice B q.length d] 31);refine(callsIn_wide (n:=4)).1 ?_;refine callsIn_of_wp_marks Tryz.func80 rfl trivial ?_ rfl;simp only [Tryz.ntmps80,List.size_toArray,List.length_cons,List.length_nil,Nat.reduceAdd,Nat.reduceSub,Array.replicate_succ,Array.replicate_zero,List.push_toArray,List.append_toArray,List.nil_append,List.cons_append];gi_wp2;refine⟨trivial,?_⟩;rw [←hV];refine(callsIn_wide.2 ck).mono ?_;rintro e w1 ⟨rfl,hx1⟩;have WU:=X0.trans hx1;have hs1:=(EV.trans hx1).size;have d0:=((EV.trans hx1).block _ (by omega)).trans B0;have d1:=((EV.trans hx1).block _ (by omega)).trans B1;have d2:=((EV.trans hx1).block _ (by omega)).trans b2;have HSV:=Asx tq;have Akc:w.heap.size+3<=w1.heap.size:=(by omega);clear hV tq b0 b1 b2 b3 ck B0 B1 EV hx1 hs1 X0;gi_wp2;refine⟨trivial,?_⟩;refine(Abf Fence.wide 3 trivial rfl B q.length d _).mono ?_;rintro e W3 ⟨rfl,rfl⟩;gi_wp2;obtain⟨bo,DI⟩:=Asw w1.heap.size;have E2:=((Ab.refl w1).alloc (.cells #[.slice A p.length c] 31)).alloc (.cells #[.slice B q.length d] 31);have g1:=Asz w1 (.cells #[.slice A p.length c] 31);have g2:=Asz (w1.alloc (.cells #[.slice A p.length c] 31)) (.cells #[.slice B q.length d] 31);have hs2:((w1.alloc (.cells #[.slice A p.length c] 31)).alloc (.cells #[.slice B q.length d] 31)).heap.size=w1.heap.size+2:=(by simp only [As7]);replace g1:=(Below.heap_alloc (w1.alloc (.cells #[.slice A p.length c] 31)) (.cells #[.slice B q.length d] 31) _ (by simp only [As7];omega)).trans g1
 rw [As7]at g2;rw [←DI]at g1 g2 ⊢;have hlt:=fun (k:Nat) (o:Obj) (h:w1.heap[k]?=some o)=>(E2.block k (Asy h)).trans h
 have Jd:FM w bo p (.slice B q.length d) ((w1.alloc (.cells #[.slice A p.length c] 31)).alloc (.cells #[.slice B q.length d] 31)):=
  ⟨⟨_,hlt _ _ d0⟩,⟨_,hlt _ _ d1⟩,⟨_,hlt _ _ d2⟩,⟨A,c,g1,hA.ext (WU.trans E2),hc,hc2⟩,g2,WU.trans E2⟩
 have hxA:=WU.trans E2;generalize (w1.alloc (.cells #[.slice A p.length c] 31)).alloc (.cells #[.slice B q.length d] 31)=W0 at *;have hs0:bo+2<=W0.heap.size:=(by omega);have AiO:w.heap.size+3<=bo:=(by omega);clear hs2 g1 d0 d1 d2 hlt E2 WU Akc DI HSV;have CX:=Aa (o:=0) g2 rfl
 refine wpIn_rangeFunc_ownH rfl (by omega) (gf:=177) (lb:=#[.pointer (some ⟨bo+1,0,none⟩)]) rfl trivial (enters_of Tryz.func177 (by kernel_rfl) rfl)
  (Abg (fun x:Sd p=>x.1) 3 (by omega) (bo+1) w.heap.size B d q g hg W0 (by omega) (by omega) (by omega) CX ⟨w,hB,As0 _,hxA⟩)
  (fun h k=>h.trans k) (C3.put (by omega) (by omega)) (Below.refl _ _) (fun _=>rfl)
  (InJ w bo p (.slice B q.length d)) (WL p w)
  (fun s W W' row h Pq hr'=>⟨FM.own (by omega) h.1 Pq hr',h.2⟩) (fun _=>WL.own (by omega)) ⟨Jd,fun s hs=>by cases hs⟩
  (fun x a' W=>∃G2 G3,tQ x.1 G2 G3 W/\a' = {tmps:=#[.slice A p.length c,.slice B q.length d,undef,undef,.pointer (some ⟨w.heap.size,0,none⟩),.pointer (some ⟨w.heap.size+1,0,none⟩),.pointer (some ⟨w.heap.size+2,0,none⟩),.int .i64 0,.pointer (some ⟨bo,0,none⟩),.pointer (some ⟨G2,0,none⟩),.pointer (some ⟨G3,0,none⟩),.slice A p.length c,.slice B q.length d,.slice (some ⟨w.heap.size+3,0,none⟩) 2 2,.int .i64 0,.int .i64 0,.bool false,undef,.slice A p.length c,.slice B q.length d,.func (.func 177) #[] #[.pointer (some ⟨bo+1,0,none⟩)],Af x.1.1,Af x.1.2,undef,undef,undef,undef,undef,undef,undef,undef,undef,undef,undef,undef,undef,undef],defers:=[]})
  ?hAx ?assign ?body ?done ?stop
 case hAx=>rintro x a' s W W' row ⟨G2,G3,⟨h1,h2⟩,rfl⟩ Pq hr';exact⟨G2,G3,⟨Gp Pq h1 (fun r e=>(hr' r e).2),Gp Pq h2 (fun r e=>(hr' r e).2)⟩,rfl⟩
 case assign=>intro l pre x W K hi hK;have Oe:bo+1<W.heap.size:=Asy hi.1.box;have e1:=Asz W (.cells #[S (R x.1.1.x),S (R x.1.1.y)] 24);have e2:=Asz (W.alloc (.cells #[S (R x.1.1.x),S (R x.1.1.y)] 24)) (.cells #[S (R x.1.2.x),S (R x.1.2.y)] 24);have X:=((Ab.refl W).alloc (.cells #[S (R x.1.1.x),S (R x.1.1.y)] 24)).alloc (.cells #[S (R x.1.2.x),S (R x.1.2.y)] 24);rw [As7]at e2;unfold Af;gi_wp2;exact hK _ _ (M6 X) (C3.of_ext X (by omega) (by omega)) ⟨FM.ext hi.1 X,hi.2⟩ ⟨_,_,⟨(Below.heap_alloc _ _ _ (by simp only [As7];omega)).trans e1,e2⟩,rfl⟩
 case body=>
  rintro l pre x a' W hl AjT ⟨hI,kJ⟩ ⟨G2,G3,⟨e1,e2⟩,rfl⟩ hlen;obtain⟨z1,z2,hgb⟩:=x.2;obtain⟨A1,c1,ho,Bi,h1,h2⟩:=hI.out;have C0:Aj W:=hw.ext hI.below;have f0:=(cell_of_box ho).1;have f1:=(cell_of_box ho).2;have Oe:bo+1<W.heap.size:=Asy hI.box
  rcases hgb with hgd|ip
  ·have kp:=yg x.1.1 x.1.2 z1 z2 p RI (by omega) rb (AlZ hgd) A1 c1 G2 G3 W C0 Bi h1 h2 e1 e2;rw [Ald hgd]at kp;clear e1 e2 ho;gi_wp2;refine⟨trivial,?_⟩;refine(CallsIn.inRound l (callsIn_wide.2 kp)).mono ?_;rintro e W2 ⟨A2,c2,rfl,Kc,h3,h4,-,hx2⟩;obtain⟨b2,o2,rfl,hcs⟩:=Kc.ad (by rw [flat_length];simp [Ag];omega);have N6:=FM.ext hI hx2;have g0:=hx2.cellS f0;have gf:W2.frozen? ⟨bo,0,none⟩=false:=(hx2.frozen (p:=⟨bo,0,none⟩) (by show bo<W.heap.size;omega)).trans f1
   have hne:∀y,some (⟨b2,o2,none⟩:Addr)=some y→y.block≠bo:=by
    intro y hy hh
    cases hy;have hh:b2=bo:=hh;subst hh;obtain⟨A0,c0,ho0,-⟩:=N6.out;obtain⟨b3,o3,e3,zN,zO⟩:=BN Kc (show 0<p.length by omega);simp only [As4,Addr.mk.injEq,and_true]at e3;obtain⟨rfl,rfl⟩:=e3;have hb3:=AfO ho0 zN
    rcases Nat.eq_zero_or_pos (o2+0*2)with h0|h0
    ·rw [h0]at hb3;simp at hb3
    ·rw [Array.getElem?_eq_none (by simp;omega)]at hb3
     cases hb3
   obtain⟨hP,hKp⟩:=N6.put AiO Kc hne h3 h4;clear hcs kp;have hq:=fun W=>Lib.run_eql_slice_nil (P:=Tryz.prog) W 31 24 (some (⟨b2,o2,none⟩:Addr)) p.length c2 0 0 Tryz.underlying31;gi_wp2;refine⟨(M6 hx2).trans ((KeepsOthers.setCell _ _ _).from _),(C3.of_ext (Bs:=bo+1) hx2 (by have:=hI.below.size;omega) Oe).trans hKp,hP,?_⟩;intro s hs'
   rcases List.mem_append.1 hs' with h|h
   ·exact kJ s h
   ·rw [List.mem_singleton.1 h];exact hgd
  ·have kp:=yg x.1.1 x.1.2 z1 z2 p RI (by omega) rb (AlY ip) A1 c1 G2 G3 W C0 Bi h1 h2 e1 e2;rw [Alc ip]at kp;clear e1 e2 ho;gi_wp2;refine⟨trivial,?_⟩;refine(CallsIn.inRound l (callsIn_wide.2 kp)).mono ?_;rintro e W2 ⟨A2,c2,rfl,Kc,h3,h4,hnl,hx2⟩;obtain⟨rfl,rfl⟩:=hnl rfl;obtain⟨v4,k4⟩:=(FM.ext hI hx2).c4;obtain⟨v5,k5⟩:=(FM.ext hI hx2).c5;obtain⟨v6,k6⟩:=(FM.ext hI hx2).c6;have g0:=hx2.cellS f0;have gf:W2.frozen? ⟨bo,0,none⟩=false:=(hx2.frozen (p:=⟨bo,0,none⟩) (by show bo<W.heap.size;omega)).trans f1;obtain⟨m4,n4⟩:=cell_of_box k4;obtain⟨m5,n5⟩:=cell_of_box k5;obtain⟨m6,n6⟩:=cell_of_box k6;have hb2:=hI.below.trans (Below.mono hx2 hI.below.size);have Rv:bo≠w.heap.size:=(by omega);have lB:bo≠w.heap.size+1:=(by omega);have H5:bo≠w.heap.size+2:=(by omega);clear kp hI;have hq:=fun W=>Lib.run_eql_slice_nil (P:=Tryz.prog) W 31 24 none 0 0 0 0 Tryz.underlying31;gi_wp2;have S0:∀(V:World) (q:Nat) (u:Value) (k:Nat),k≠q→(V.setCell ⟨q,0,none⟩ u).heap[k]?=V.heap[k]?:=fun V q u k hk=>Below.heap_setCell V _ _ k hk;refine⟨(M6 hx2).trans (((((KeepsOthers.setCell _ _ _).trans (KeepsOthers.setCell _ _ _)).trans (KeepsOthers.setCell _ _ _)).trans (KeepsOthers.setCell _ _ _)).from _),rfl,?_,?_,?_,?_⟩
   ·rw [S0 _ _ _ _ (by omega),S0 _ _ _ _ (by omega)];exact heap_setCell_box _ ((S0 _ _ _ _ (by omega)).trans k4)
   ·rw [S0 _ _ _ _ (by omega)];exact heap_setCell_box _ ((S0 _ _ _ _ (by omega)).trans ((S0 _ _ _ _ (by omega)).trans k5))
   ·exact heap_setCell_box _ ((S0 _ _ _ _ (by omega)).trans ((S0 _ _ _ _ (by omega)).trans ((S0 _ _ _ _ (by omega)).trans k6)))
   ·exact(((hb2.setCell (p:=⟨bo,0,none⟩) (by show w.heap.size<=bo;omega) _).setCell (p:=⟨w.heap.size,0,none⟩) (As0 _) _).setCell (p:=⟨w.heap.size+1,0,none⟩) (by show w.heap.size<=w.heap.size+1;omega) _).setCell (p:=⟨w.heap.size+2,0,none⟩) (by show w.heap.size<=w.heap.size+2;omega) _
 case done=>
  rintro D ys W hD rfl ⟨hI,kJ⟩ hK
  exfalso
  obtain⟨k,hk,hb⟩:=jC;have h1:=kJ (g k) (List.mem_map_of_mem (List.mem_range.2 hk));rw [hg k hk]at h1;obtain⟨x,hx,h2⟩:=h1.2;exact Rat.not_lt.2 (hb x hx) h2
 case stop=>rintro D cc pre W hD _ ⟨rfl,h4,h5,h6,Mf⟩ hK;have m4:=(cell_of_box h4).1;have m5:=(cell_of_box h5).1;have m6:=(cell_of_box h6).1;gi_wp2;refine⟨by simp,.inl ⟨_,_,rfl,run_takeDeferred hK,?_⟩⟩;have K:∀k:Nat,k≠D→(W.putObj D (.deferred none)).heap[k]?=W.heap[k]?:=fun k hk=>World.putObj_heap_other hk;have u4:=(cell_of_box ((K _ (by omega)).trans h4)).1;have u5:=(cell_of_box ((K _ (by omega)).trans h5)).1;have u6:=(cell_of_box ((K _ (by omega)).trans h6)).1;refine⟨.tuple #[.slice none 0 0,.bool false,.int .i64 0],?_,rfl,Mf.trans (belowK_b (w:=w) (As0 _) W D _ _ (by omega) hK rfl rfl)⟩;simp [results,Tryz.f80,go_sem,u4,u5,u6]
end
end Go.Proofs.YtnddllipjippnaaGreatDoor
namespace Go.Proofs.YtnddllipjippnaaGreatDoor
open Go.RowKit Kl
theorem pJ{pts:List Pt}{x:Int}(h0:0<=x)(h1:x<(pts.length:Int)):EJ pts x=pts[x.toNat]'(by omega):=by
 unfold EJ;rw [List.getD_eq_getElem?_getD,As5 (by omega)];rfl
theorem Abh{pts:List Pt}{x:Int}(h0:0<=x)(h1:x<(pts.length:Int)):EJ pts x∈pts:=by
 rw [pJ h0 h1];exact As1 _
theorem pK{pts:List Pt}(h:Cr [] pts=0){x y:Int}(hx:0<=x)(hx1:x<(pts.length:Int))(hy:0<=y)(hy1:y<(pts.length:Int))(he:EJ pts x=EJ pts y):x=y:=by
 rw [pJ hx hx1,pJ hy hy1]at he
 have main:∀i j,(hi:i<pts.length)→(hj:j<pts.length)→i<j→pts[i]≠pts[j]:=by intro i j hi hj Bj e;have h2:=wL h j hj;rw [List.nil_append,List.any_eq_false]at h2;have h3:=h2 pts[i] (by rw [List.mem_take_iff_getElem];exact⟨i,by omega,rfl⟩);exact h3 (Ca.2 e.symm)
 rcases Nat.lt_trichotomy x.toNat y.toNat with k|k|k
 ·exact absurd he (main _ _ (by omega) (by omega) k)
 ·omega
 ·exact absurd he.symm (main _ _ (by omega) (by omega) k)
theorem VS{s t:Sg}(h:s≠t):AU s t=false:=by
 rw [Bool.eq_false_iff];exact fun k=>h (IG.1 k)
theorem TJ{pts:List Pt}{l:List EdZ}{nf:Nat}(h1:Cr [] pts=0)(h2:DC pts.length nf [] l=0):O9 pts l:=by
 have hr:∀j (h:j<l.length),0<=l[j].f/\0<=l[j].t/\l[j].f<(pts.length:Int)/\l[j].t<(pts.length:Int)/\l[j].f≠l[j].t/\(l.take j).any (Gk · l[j])=false:=by intro j hj;have:=T8 (Q0 (l:=l) h2 j hj);rw [List.nil_append]at this;exact⟨this.1,this.2.1,this.2.2.1,this.2.2.2.1,this.2.2.2.2.1,this.2.2.2.2.2.1⟩
 refine⟨?_,?_,?_⟩
 ·intro e he;obtain⟨j,hj,rfl⟩:=List.getElem_of_mem he;obtain⟨a,b,c,d,-,-⟩:=hr j hj;exact⟨a,b,c,d⟩
 ·intro e he;obtain⟨j,hj,rfl⟩:=List.getElem_of_mem he;obtain⟨a,b,c,d,e,-⟩:=hr j hj;refine VS fun k=>e ?_;have k2:=congrArg Sg.b k;exact pK h1 a c b d k2
 ·intro j hj e he;obtain⟨a,b,c,d,-,g⟩:=hr j hj;rw [List.mem_take_iff_getElem]at he;obtain⟨i,hi,rfl⟩:=he;obtain⟨a',b',c',d',-,-⟩:=hr i (by omega);rw [List.any_eq_false]at g;have g1:=g l[i] (by rw [List.mem_take_iff_getElem];exact⟨i,by omega,rfl⟩)
  have g2:¬(l[i].f=l[j].f/\l[i].t=l[j].t)/\¬(l[i].f=l[j].t/\l[i].t=l[j].f):=by
   constructor
   ·rintro⟨x,y⟩;exact g1 (by simp [Gk,x,y])
   ·rintro⟨x,y⟩;exact g1 (by simp [Gk,x,y])
  have f1:∀{x y x' y':Int},0<=x→x<(pts.length:Int)→0<=y→y<(pts.length:Int)→0<=x'→x'<(pts.length:Int)→0<=y'→y'<(pts.length:Int)→(⟨EJ pts x,EJ pts y⟩:Sg)=⟨EJ pts x',EJ pts y'⟩→x'=x/\y'=y:=by intro x y x' y' h3 h4 h5 h6 h7 h8 h9 h10 k;simp only [Sg.mk.injEq]at k;exact⟨(pK h1 h3 h4 h7 h8 k.1).symm,(pK h1 h5 h6 h9 h10 k.2).symm⟩
  refine⟨VS fun k=>g2.1 ?_,VS fun k=>g2.2 ?_,VS fun k=>g2.2 ?_,VS fun k=>g2.1 ?_⟩
  ·exact f1 a c b d a' c' b' d' k
  ·have:=f1 a c b d b' d' a' c' k;exact⟨this.2,this.1⟩
  ·have:=f1 b d a c a' c' b' d' k;exact⟨this.1,this.2⟩
  ·have:=f1 b d a c b' d' a' c' k;exact⟨this.2,this.1⟩
theorem oD{pts:List Pt}{l:List EdZ}{x:Sg×Int}(h:x∈AD pts l):∃e∈l,(x.1=Br pts e/\x.2=e.l)∨(x.1=Bg (Br pts e)/\x.2=e.r):=by
 unfold AD at h;rw [List.mem_flatMap]at h;obtain⟨e,he,hx⟩:=h;simp only [List.mem_cons,AsB,or_false]at hx
 rcases hx with rfl|rfl
 ·exact⟨e,he,.inl ⟨rfl,rfl⟩⟩
 ·exact⟨e,he,.inr ⟨rfl,rfl⟩⟩
theorem Vz{pts:List Pt}{l:List EdZ}(h:O9 pts l)(hg:∀p∈pts,Ce p):∀s∈(AD pts l).map (·.1),G5 s:=by
 intro s hs;rw [List.mem_map]at hs;obtain⟨x,hx,rfl⟩:=hs;obtain⟨e,he,k⟩:=oD hx;obtain⟨a,b,c,d⟩:=h.rng e he;have h1:=hg _ (Abh a c);have h2:=hg _ (Abh b d)
 rcases k with⟨k,-⟩|⟨k,-⟩
 ·rw [k];exact⟨h1,h2⟩
 ·rw [k];exact⟨h2,h1⟩
theorem Zo{pts:List Pt}{l:List EdZ}(h:O9 pts l)(hg:∀p∈pts,Ce p)(h3:Ey pts [] l=0):Qw ((AD pts l).map (·.1)):=by
 refine⟨Ap6 pts l h3,fun s hs=>(Vz h hg s hs).sz (by omega),?_⟩;intro s hs;rw [List.mem_map]at hs;obtain⟨x,hx,rfl⟩:=hs;obtain⟨e,he,k⟩:=oD hx;have hn:=h.ne e he;intro hab
 have:Bg (Br pts e)=Br pts e:=by
  rcases k with⟨k,-⟩|⟨k,-⟩
  ·rw [k]at hab;exact ZJ hab.symm hab
  ·rw [k]at hab;exact ZJ hab hab.symm
 rw [IG.2 this]at hn
 cases hn
theorem Aas{pts:List Pt}{l:List EdZ}{nf:Nat}(h2:DC pts.length nf [] l=0):∀x∈AD pts l,-1<=x.2/\x.2<(nf:Int):=by
 intro x hx;obtain⟨e,he,k⟩:=oD hx;obtain⟨j,hj,rfl⟩:=List.getElem_of_mem he;have h:=T8 (Q0 (l:=l) h2 j hj);have s1:=h.2.2.2.2.2.2.1;have s2:=h.2.2.2.2.2.2.2;unfold Fg at s1 s2;simp only [Bool.and_eq_true,decide_eq_true_eq]at s1 s2
 rcases k with⟨-,k⟩|⟨-,k⟩
 ·rw [k];exact s1
 ·rw [k];first|exact s2|exact s2.1
theorem RU(pts:List Pt)(l:List EdZ):(AD pts l).length=2*l.length:=by
 induction l with
 | nil=>rfl
 | cons e l ih=>simp [AD]at ih ⊢;omega
end Go.Proofs.YtnddllipjippnaaGreatDoor
namespace Go.Proofs.YtnddllipjippnaaGreatDoor
end Go.Proofs.YtnddllipjippnaaGreatDoor
