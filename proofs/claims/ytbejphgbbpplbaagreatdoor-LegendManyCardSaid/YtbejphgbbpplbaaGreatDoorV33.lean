/- V33: BN BO T2. -/
import Derived.Test.YtbejphgbbpplbaaGreatDoorV32
set_option maxRecDepth 100000
set_option maxHeartbeats 8000000
namespace Go.Proofs.YtbejphgbbpplbaaGreatDoor
open Go.RowKit Kl Go.Shelf
section
attribute [local go_sem] Oper.semAt_some
theorem AiG{P:Program}{id k n:Nat}{Q:Exit→Act→World→Prop}{a:Act}{W:World}{l:List Oper}(hm:P.follows .mixedOrders=true)(hB:Region.lexB .any l.toArray=true)(hd:fl l=true)(hlo:¬LetsOut Q)
  (h:wpQuiet P l.toArray (fun w'=>∃p:Af W,w'=p.w) (fun a'=>∀w',(∃p:Af W,w'=p.w)→Q .normal a' w') l a):(Code.region id l.toArray true).wpIn (Fence.wide.inRound k) n P Q a W:=by
 simp only [Region.lexB,Bool.and_eq_true]at hB;refine wpIn_region_any hm (qq (fE hd) hlo _ _ _ _ (wpAny_of_quiet (C:=fun w'=>∃p:Af W,w'=p.w) (Q:=fun a'=>∀w',(∃p:Af W,w'=p.w)→Q .normal a' w') (fun _ w' hw' h=>h w' hw') _ _ _ _ ⟨⟨W.drew,(Aa.refl W).drew⟩,rfl⟩ ?_));have:=wpAnyQ_lex (C:=fun w'=>∃p:Af W,w'=p.w) (md:=.any) hB.1 l 0 (Array.replicate l.toArray.size false) a (by simp) (by simpa using hB.2) h
 simpa using this
theorem AfC(a b p:Pt)(ha:Ar 200 a)(hb:Ar 200 b)(hp:Ar 200 p)(Ba Bb:Nat)(w:World)(hw:An w)
  (c0:w.cell? ⟨Ba,0,none⟩=some (S (R a.x))) (c1:w.cell? ⟨Ba,1,none⟩=some (S (R a.y))) (c2:w.cell? ⟨Bb,0,none⟩=some (S (R b.x))) (c3:w.cell? ⟨Bb,1,none⟩=some (S (R b.y))) :
  Calls Tryz.prog 175 #[Ak p,.pointer (some ⟨Ba,0,none⟩),.pointer (some ⟨Bb,0,none⟩)] w (Bc (R (Al a b p)) w):=by
 have E:=(Aa.refl w).alloc (.cells #[S (R p.x),S (R p.y)] 94);have Bu:=AmW w (.cells #[S (R p.x),S (R p.y)] 94);have ar:=mM a b p ha hb hp (by omega) (by omega) _ (hw.ext E);replace c0:=E.cellS c0;replace c1:=E.cellS c1;replace c2:=E.cellS c2;replace c3:=E.cellS c3;have c4:=Ab (o:=0) Bu rfl;have c5:=Ab (o:=1) Bu rfl;unfold Ak S at ar;go_enter Tryz.func175,Tryz.ntmps175;unfold Ak;(go_wp2_with fail);(with_reducible refine ar.mono ?_);rintro e w1 ⟨rfl,hx1⟩;go_wp2;go_ret;exact⟨rfl,E.trans hx1⟩
theorem Agw(r:Rat):r<0∨r=0∨0<r:=by
 by_cases h:r<0
 ·exact .inl h
 ·by_cases h0:r=0
  ·exact .inr (.inl h0)
  ·exact .inr (.inr ((Rat.le_iff_lt_or_eq.1 (Rat.not_lt.1 h)).resolve_right fun e=>h0 e.symm))
def G2(f:Pt→Rat)(l:List Pt):List Pt:=l.filter (fun p=>decide (0<=f p))
def Ir(f:Pt→Rat)(l:List Pt):Bool:=l.any (fun p=>decide (0<f p))
theorem AfO(f:Pt→Rat)(l:List Pt)(p:Pt):G2 f (l ++ [p])=G2 f l++(if 0<=f p then [p] else []):=by
 unfold G2;rw [List.filter_append];congr 1;simp [List.filter_cons]
theorem Aju(f:Pt→Rat)(l:List Pt)(p:Pt):Ir f (l ++ [p])=(Ir f l||decide (0<f p)):=by simp [Ir]
abbrev Nc(f:Pt→Rat):={s:Pt×Pt // Ar 200 s.1/\Ar 200 s.2/\¬AD (f s.1)*AD (f s.2)<0}
structure Bj(w:World)(fv sv:Value)(ks:List Pt)(sm:Bool)(W:World):Prop where
 out:∃v,W.heap[w.heap.size+1]?=some (.cells #[v] 33 (0,0))/\W.ownsRow w.heap.size 94 2 v ks.length (Fc ks)
 som:W.heap[w.heap.size+2]?=some (.cells #[.bool sm] 4 (0,0))
 fn:W.heap[w.heap.size]?=some (.cells #[fv] 234 (0,0))
 box:W.heap[w.heap.size+3]?=some (.cells #[sv] 33 (0,0))
 below:Below w.heap.size w W
theorem Bj.size{w:World}{fv sv:Value}{ks:List Pt}{sm:Bool}{W:World}(h:Bj w fv sv ks sm W):w.heap.size+4<=W.heap.size:=by
 have:=(Array.getElem?_eq_some_iff.1 h.box).1;omega
theorem Bj.ext{w:World}{fv sv:Value}{ks:List Pt}{sm:Bool}{W W':World}(h:Bj w fv sv ks sm W)(hx:Aa W W'):Bj w fv sv ks sm W':=by
 obtain⟨v,hv,ho⟩:=h.out;have hs:=h.size;exact⟨⟨v,(hx.block _ (by omega)).trans hv,AH ho hx⟩,(hx.block _ (by omega)).trans h.som,(hx.block _ (by omega)).trans h.fn,(hx.block _ (by omega)).trans h.box,h.below.trans (Below.mono hx h.below.size)⟩
theorem Bj.own{w:World}{fv sv:Value}{ks:List Pt}{sm:Bool}{W W':World}{row:Option Nat}{B:Nat}(hB:w.heap.size<=B)(h:Bj w fv sv ks sm W)(hg:W.grownBy W' row)(hr:∀r,row=some r→B<=r/\∃o:Obj,W.heap[r]?=some o/\o.isCells=false):Bj w fv sv ks sm W':=by
 have hr':∀r,row=some r→∃o:Obj,W.heap[r]?=some o/\o.isCells=false:=fun r e=>(hr r e).2;obtain⟨v,hv,ho⟩:=h.out;refine⟨⟨v,Dv hg hv hr',ho.kept hg ?_⟩,Dv hg h.som hr',Dv hg h.fn hr',Dv hg h.box hr',h.below.grown hg h.below.size (fun k e=>Ani hB (hr k e).1)⟩
 rcases ho.2 with⟨rfl,_⟩|⟨g,cap,cur,rfl,_,hgb,_⟩
 ·exact .inl rfl
 ·refine .inr fun e=>?_;obtain⟨o,h1,h2⟩:=hr' g e.symm;rw [hgb]at h1
  cases h1
  cases h2
theorem gC{w:World}{B:Nat}{e:TypeId}{s n:Nat}{v:Value}{xs:List Value}(hs:0<s)(h:w.ownsRow B e s v n xs):∃A c,v=.slice A n c:=by
 obtain⟨A,c,h1,-,-,-⟩:=Ae.of_own' hs h;exact⟨A,c,h1⟩
theorem eW:33≠94:=by decide
theorem ep:4≠94:=by decide
theorem AgW:234≠94:=by decide
theorem Bj.put{w:World}{fv sv:Value}{ks:List Pt}{sm:Bool}{W:World}(h:Bj w fv sv ks sm W)(b:Bool):Bj w fv sv ks b (W.setCell ⟨w.heap.size+2,0,none⟩ (.bool b)):=by
 obtain⟨v,hv,ho⟩:=h.out;have K:∀k,k≠w.heap.size+2→(W.setCell ⟨w.heap.size+2,0,none⟩ (.bool b)).heap[k]?=W.heap[k]?:=fun k hk=>Below.heap_setCell W _ _ k hk;refine⟨⟨v,(K _ (by omega)).trans hv,?_⟩,one_setCell h.som,(K _ (by omega)).trans h.fn,(K _ (by omega)).trans h.box,h.below.setCell (by show w.heap.size<=w.heap.size+2;omega) _⟩;refine ownsRow_setCell_other ho ?_ _;intro e
 rcases ownsRow_ne ho h.som (fun cur e=>by first|cases e|exact ep (Obj.cells.inj e).2.1)with e'|e'
 ·rw [e']at e;cases e
 ·exact e' e
theorem br{w W:World}(b:Bool):BB w.heap.size (w.heap.size+3) W (W.setCell ⟨w.heap.size+2,0,none⟩ (.bool b)):=
 ⟨(Below.refl _ W).setCell (p:=⟨w.heap.size+2,0,none⟩) (by show w.heap.size<=w.heap.size+2;omega) _,Below.heap_setCell W _ _ _ (by show w.heap.size+3≠w.heap.size+2;omega)⟩
theorem Bj.app{w:World}{fv sv:Value}{ks:List Pt}{sm:Bool}{W w3:World}{v v':Value}{x:Pt}(h:Bj w fv sv ks sm W)(ho:W.ownsRow w.heap.size 94 2 v ks.length (Fc ks))
  (hown:w3.ownsRow w.heap.size 94 2 v' (ks.length+1) (Fc ks ++ [S (R x.x),S (R x.y)])) (hg:W.grownBy w3 v.ownBlock) :
  Bj w fv sv (ks ++ [x]) sm (w3.setCell ⟨w.heap.size+1,0,none⟩ v')/\KeepsOthers W (w3.setCell ⟨w.heap.size+1,0,none⟩ v')/\BB w.heap.size (w.heap.size+3) W (w3.setCell ⟨w.heap.size+1,0,none⟩ v')/\(∃u,w3.cell? ⟨w.heap.size+1,0,none⟩=some u)/\w3.frozen? ⟨w.heap.size+1,0,none⟩=false/\w3.cell? ⟨w.heap.size+2,0,none⟩=some (.bool sm)/\w3.frozen? ⟨w.heap.size+2,0,none⟩=false:=by
 obtain⟨v0,hv,-⟩:=h.out;have hs:=h.size
 have ne_of:∀{j:Nat} {o:Obj},W.heap[j]?=some o→(∀cur,o≠.cells cur 94 (0,0))→some j≠v.ownBlock:=fun hj hno=>by
  rcases ownsRow_ne ho hj hno with e|e
  ·rw [e];simp
  ·exact fun e'=>e e'.symm
 have k1:=(hg.block (w.heap.size+1) (by omega) (ne_of hv (fun cur e=>by first|cases e|exact eW (Obj.cells.inj e).2.1))).trans hv;have k2:=(hg.block (w.heap.size+2) (by omega) (ne_of h.som (fun cur e=>by first|cases e|exact ep (Obj.cells.inj e).2.1))).trans h.som;have k0:=(hg.block (w.heap.size) (by omega) (ne_of h.fn (fun cur e=>by first|cases e|exact AgW (Obj.cells.inj e).2.1))).trans h.fn;have k3:=(hg.block (w.heap.size+3) (by omega) (ne_of h.box (fun cur e=>by first|cases e|exact eW (Obj.cells.inj e).2.1))).trans h.box;have K:∀k,k≠w.heap.size+1→(w3.setCell ⟨w.heap.size+1,0,none⟩ v').heap[k]?=w3.heap[k]?:=fun k hk=>Below.heap_setCell w3 _ _ k hk;have hb3:Below w.heap.size W w3:=(Below.refl _ W).grown hg (by omega) (fun k e=>(ho.lt k e).1);have hb4:=hb3.setCell (p:=⟨w.heap.size+1,0,none⟩) (by show w.heap.size<=w.heap.size+1;omega) v';refine⟨⟨⟨v',heap_setCell_box _ k1,?_⟩,(K _ (by omega)).trans k2,(K _ (by omega)).trans k0,(K _ (by omega)).trans k3,h.below.trans hb4⟩,?_,⟨hb4,(K _ (by omega)).trans (k3.trans h.box.symm)⟩,⟨_,(cell_of_box k1).1⟩,(cell_of_box k1).2,(cell_of_box k2).1,(cell_of_box k2).2⟩
 ·rw [List.length_append,jk];refine ownsRow_setCell_other hown ?_ _;intro e
  rcases ownsRow_ne hown k1 (fun cur e=>by first|cases e|exact eW (Obj.cells.inj e).2.1)with e'|e'
  ·rw [e']at e;cases e
  ·exact e' e
 ·refine(KeepsOthers.of_grownBy hg fun j o e hj=>?_).trans (KeepsOthers.setCell _ _ _)
  rcases ho.2 with⟨rfl,_⟩|⟨g,cap,cur,rfl,_,hgb,_⟩
  ·cases e
  ·simp only [Value.ownBlock,Anb]at e;subst e;rw [hgb]at hj
   cases hj
   rfl
def Ld(f:Pt→Rat)(l:List Pt):List Pt:=if Ir f l=true then G2 f l else []
def yg(l:List Pt)(w:World)(e:Ending)(w':World):Prop:=
 ∃A' c',e=.returned (.slice A' l.length c')/\Ae w' A' (flat (Ao l))/\l.length<=c'/\c'<=9223372036854775807/\(l = []→A'=none/\c'=0)/\Aa w w'
theorem AgT(f:Pt→Rat)(pg:List Pt)(h0:0<pg.length)(hz:∀p∈pg,Ar 200 p)(hcut:∀k,k<pg.length→¬AD (f (Bv pg k).1)*AD (f (Bv pg k).2)<0):∃g:Nat→Nc f,∀k,k<pg.length→(g k).1=Bv pg k:=by
 have hm:∀k,Ar 200 (pg.getD (k%pg.length) ⟨0,0⟩):=fun k=>by have:k%pg.length<pg.length:=Nat.mod_lt _ h0;rw [List.getD_eq_getElem?_getD,Anc this];exact hz _ (AmY this)
 have h2:∀k,k<pg.length→Ar 200 (Bv pg k).1/\Ar 200 (Bv pg k).2/\¬AD (f (Bv pg k).1)*AD (f (Bv pg k).2)<0:=fun k hk=>⟨by have:=hm k;rwa [Nat.mod_eq_of_lt hk]at this,hm (k+1),hcut k hk⟩;exact⟨fun k=>if h:k<pg.length then ⟨Bv pg k,h2 k h⟩else ⟨Bv pg 0,h2 0 h0⟩,fun k hk=>by simp [hk]⟩
theorem AgR{f:Pt→Rat}{pg:List Pt}{g:Nat→Nc f}(hg:∀k,k<pg.length→(g k).1=Bv pg k):(upto g pg.length).map (·.1.1)=pg:=by
 apply List.ext_getElem
 ·simp [upto]
 ·intro k h1 h2;simp only [upto,List.getElem_map,List.getElem_range];rw [hg k h2];simp [Bv,List.getD_eq_getElem?_getD,Anc h2]
def Eo{f:Pt→Rat}(pre:List (Nc f)):List Pt:=pre.map (fun x=>x.1.1)
def O5(f:Pt→Rat)(w:World)(fv sv:Value)(pre:List (Nc f))(W:World):Prop:=Bj w fv sv (G2 f (Eo pre)) (Ir f (Eo pre)) W
theorem O5.own{f:Pt→Rat}{w:World}{fv sv:Value}{B:Nat}(hB:w.heap.size<=B):OwnFrom B (O5 f w fv sv):=fun _ _ _ _ h hg hr=>Bj.own hB h hg hr
def lI(x:Pt×Pt)(Ba Bb:Nat)(W:World):Prop:=W.heap[Ba]?=some (.cells #[S (R x.1.x),S (R x.1.y)] 94 (0,0))/\W.heap[Bb]?=some (.cells #[S (R x.2.x),S (R x.2.y)] 94 (0,0))
theorem aw (a b : Pt) (ha : Ar 200 a) (hb : Ar 200 b) (pg : List Pt) (hz : ∀ p ∈ pg, Ar 200 p) (Bw : 0 < pg.length) (Dx : pg.length ≤ 60) (hcut : ∀ k, k < pg.length → ¬ AD (Al a b (Bv pg k).1) * AD (Al a b (Bv pg k).2) < 0)
    (A : Option Addr) (cap : Nat) (Ba Bb : Nat) (w : World) (hw : An w) (hr : Ae w A (flat (Ao pg))) (_ : pg.length ≤ cap) (_ : cap ≤ 9223372036854775807)
    (Zj : w.heap[Ba]? = some (.cells #[S (R a.x), S (R a.y)] 94 (0, 0))) (Zl : w.heap[Bb]? = some (.cells #[S (R b.x), S (R b.y)] 94 (0, 0))) :
    Calls Tryz.prog 174 #[.slice A pg.length cap, .func (.func 175) #[] #[.pointer (some ⟨Ba, 0, none⟩), .pointer (some ⟨Bb, 0, none⟩)]] w (yg (Ld (Al a b) pg) w) := by
  obtain ⟨g, hg⟩ := AgT (Al a b) pg Bw hz hcut
  obtain ⟨fv, Mo⟩ := AmT (Value.func (.func 175) #[] #[.pointer (some ⟨Ba, 0, none⟩), .pointer (some ⟨Bb, 0, none⟩)])
  obtain ⟨W0, hW0⟩ := AmT ((((w.alloc (.cells #[fv] 234)).alloc (.cells #[.slice none 0 0] 33)).alloc (.cells #[.bool false] 4)).alloc (.cells #[.slice A pg.length cap] 33))
  have hs0 : W0.heap.size = w.heap.size + 4 := by rw [hW0]; simp
  have hx0 : Aa w W0 := by rw [hW0]; exact ((((Aa.refl w).alloc _).alloc _).alloc _).alloc _
  have Hw : Bj w fv (.slice A pg.length cap) [] false W0 := by
    have b0 := AmW w (.cells #[fv] 234)
    have b1 := AmW (w.alloc (.cells #[fv] 234)) (.cells #[.slice none 0 0] 33)
    have b2 := AmW ((w.alloc (.cells #[fv] 234)).alloc (.cells #[.slice none 0 0] 33)) (.cells #[.bool false] 4)
    have b3 := AmW (((w.alloc (.cells #[fv] 234)).alloc (.cells #[.slice none 0 0] 33)).alloc (.cells #[.bool false] 4)) (.cells #[.slice A pg.length cap] 33)
    simp only [Anf] at b1 b2 b3
    rw [hW0]
    refine ⟨⟨.slice none 0 0, ?_, ⟨rfl, .inl ⟨rfl, rfl⟩⟩⟩, ?_, ?_, b3, hW0 ▸ hx0⟩
    · exact (Below.heap_alloc _ _ _ (by simp only [Anf]; omega)).trans ((Below.heap_alloc _ _ _ (by simp only [Anf]; omega)).trans b1)
    · exact (Below.heap_alloc _ _ _ (by simp only [Anf]; omega)).trans b2
    · exact (Below.heap_alloc _ _ _ (by simp only [Anf]; omega)).trans ((Below.heap_alloc _ _ _ (by simp only [Anf]; omega)).trans ((Below.heap_alloc _ _ _ (by simp only [Anf]; omega)).trans b0))
  rw [Mo] at hW0 Hw
  refine (callsIn_wide (n := 4)).1 ?_
  refine callsIn_of_wp_marks Tryz.func174 rfl trivial ?_ rfl
  simp only [Tryz.ntmps174, List.size_toArray, List.length_cons, List.length_nil, Nat.reduceAdd, Nat.reduceSub, Array.replicate_succ, Array.replicate_zero, List.push_toArray, List.append_toArray, List.nil_append, List.cons_append]
  gi_wp2
  refine ⟨trivial, ?_⟩
  refine (jr Fence.wide 3 trivial rfl A pg.length cap _).mono ?_
  rintro e W3 ⟨rfl, rfl⟩
  gi_wp2
  rw [← hW0]
  rw [← Mo] at Hw
  have BO := Ab (o := 0) Hw.box rfl
  refine wpIn_rangeFunc_ownH rfl (by omega) (gf := 252) (lb := #[.pointer (some ⟨w.heap.size + 3, 0, none⟩)]) rfl trivial (enters_of Tryz.func252 (by kernel_rfl) rfl)
    (js (fun x : Nc (Al a b) => x.1) 3 (by omega) (w.heap.size + 3) w.heap.size A cap pg g hg W0 (by omega) (by omega) (by omega) BO ⟨w, hr, AmX _, hx0⟩)
    (fun h k => h.trans k) (BB.put (by omega) (by omega)) (Below.refl _ _) (fun _ => rfl)
    (O5 (Al a b) w fv (.slice A pg.length cap)) (fun _ _ _ => False)
    (O5.own (by omega)) (fun _ _ _ _ _ hs _ _ => hs) Hw
    (fun x a' W => ∃ F7 F8, lI x.1 F7 F8 W ∧ a' = { tmps := #[.slice A pg.length cap, .func (.func 175) #[] #[.pointer (some ⟨Ba, 0, none⟩), .pointer (some ⟨Bb, 0, none⟩)], undef, .pointer (some ⟨w.heap.size, 0, none⟩), .slice none 0 0, .pointer (some ⟨w.heap.size + 1, 0, none⟩), .pointer (some ⟨w.heap.size + 2, 0, none⟩), .pointer (some ⟨F7, 0, none⟩), .pointer (some ⟨F8, 0, none⟩), undef, undef, undef, undef, .slice A pg.length cap, .func (.func 252) #[] #[.pointer (some ⟨w.heap.size + 3, 0, none⟩)], Ak x.1.1, Ak x.1.2, undef, undef, undef, undef, undef, undef, undef, undef, undef, undef, undef, undef, undef, undef, undef, undef, undef, undef, undef, undef, undef, undef, undef, undef, undef, undef, undef, undef, undef, undef, undef, undef, undef, undef, undef, undef, undef, undef, undef, undef, undef, undef, undef, undef, undef, undef, undef, undef, undef, undef, undef], defers := [] })
    ?hAx ?assign ?body ?done ?stop
  case hAx =>
    rintro x a' s W W' row ⟨F7, F8, ⟨h1, h2⟩, rfl⟩ Db hr'
    exact ⟨F7, F8, ⟨Dv Db h1 (fun r e => (hr' r e).2), Dv Db h2 (fun r e => (hr' r e).2)⟩, rfl⟩
  case assign =>
    intro l pre x W K hi hK
    have hi : Bj w fv (.slice A pg.length cap) (G2 (Al a b) (Eo pre)) (Ir (Al a b) (Eo pre)) W := hi
    have M4 := hi.size
    have e1 := AmW W (.cells #[S (R x.1.1.x), S (R x.1.1.y)] 94)
    have e2 := AmW (W.alloc (.cells #[S (R x.1.1.x), S (R x.1.1.y)] 94)) (.cells #[S (R x.1.2.x), S (R x.1.2.y)] 94)
    have X := ((Aa.refl W).alloc (.cells #[S (R x.1.1.x), S (R x.1.1.y)] 94)).alloc (.cells #[S (R x.1.2.x), S (R x.1.2.y)] 94)
    rw [Anf] at e2
    unfold Ak
    gi_wp2
    exact hK _ _ (GU X) (BB.of_ext X (by omega) (by omega)) (hi.ext X) ⟨_, _, ⟨(Below.heap_alloc _ _ _ (by simp only [Anf]; omega)).trans e1, e2⟩, rfl⟩
  case body =>
    rintro l pre x a' W hl AeI hI ⟨F7, F8, ⟨e1, e2⟩, rfl⟩ hlen
    subst Mo
    gi_wp2
    obtain ⟨z1, z2, hno⟩ := x.2
    have hs := Bj.size hI
    have CB : An W := hw.ext (Bj.below hI)
    have Zk := (Below.block (Bj.below hI) _ (AmV Zj)).trans Zj
    have Zm := (Below.block (Bj.below hI) _ (AmV Zl)).trans Zl
    obtain ⟨p1, p2, P3, S1⟩ : ∃ p1 p2, p1 = x.1.1 ∧ p2 = x.1.2 := ⟨_, _, rfl, rfl⟩
    have hpre : Eo (pre ++ [x]) = Eo pre ++ [p1] := by unfold Eo; rw [List.map_append, P3]; rfl
    rw [← P3] at z1
    rw [← S1] at z2
    rw [← P3, ← S1] at hno
    have Mb : ∀ W', O5 (Al a b) w (.func (.func 175) #[] #[.pointer (some ⟨Ba, 0, none⟩), .pointer (some ⟨Bb, 0, none⟩)]) (.slice A pg.length cap) (pre ++ [x]) W' ↔ Bj w (.func (.func 175) #[] #[.pointer (some ⟨Ba, 0, none⟩), .pointer (some ⟨Bb, 0, none⟩)]) (.slice A pg.length cap) (G2 (Al a b) (Eo pre) ++ (if 0 ≤ Al a b p1 then [p1] else [])) (Ir (Al a b) (Eo pre) || decide (0 < Al a b p1)) W' := fun W' => by unfold O5; rw [hpre, AfO, Aju]
    have hI : Bj w (.func (.func 175) #[] #[.pointer (some ⟨Ba, 0, none⟩), .pointer (some ⟨Bb, 0, none⟩)]) (.slice A pg.length cap) (G2 (Al a b) (Eo pre)) (Ir (Al a b) (Eo pre)) W := hI
    rw [← P3, ← S1]
    rw [← P3] at e1
    rw [← S1] at e2
    have Cp : (G2 (Al a b) (Eo pre)).length ≤ 60 := by
      refine Ani (List.length_filter_le _ _) ?_
      unfold Eo; rw [List.length_map]; omega
    obtain ⟨ks, IM⟩ := AmT (G2 (Al a b) (Eo pre))
    obtain ⟨sm, hsm⟩ := AmT (Ir (Al a b) (Eo pre))
    rw [← IM] at hI Cp Mb
    rw [← hsm] at hI Mb
    have q0 : ∀ q : Af W, q.w.cell? ⟨w.heap.size, 0, none⟩ = some (.func (.func 175) #[] #[.pointer (some ⟨Ba, 0, none⟩), .pointer (some ⟨Bb, 0, none⟩)]) := Af.cell (Ab hI.fn rfl)
    have q1 : ∀ q : Af W, q.w.cell? ⟨F7, 0, none⟩ = some (S (R p1.x)) := Af.cell (Ab e1 rfl)
    have q2 : ∀ q : Af W, q.w.cell? ⟨F7, 1, none⟩ = some (S (R p1.y)) := Af.cell (Ab e1 rfl)
    have q3 : ∀ q : Af W, q.w.cell? ⟨F8, 0, none⟩ = some (S (R p2.x)) := Af.cell (Ab e2 rfl)
    have q4 : ∀ q : Af W, q.w.cell? ⟨F8, 1, none⟩ = some (S (R p2.y)) := Af.cell (Ab e2 rfl)
    have ct := fun (q : Af W) (p : Pt) (hp : Ar 200 p) => AfC a b p ha hb hp Ba Bb q.w (CB.ext q.h) (q.h.cellS (Ab (o := 0) Zk rfl)) (q.h.cellS (Ab (o := 1) Zk rfl)) (q.h.cellS (Ab (o := 0) Zm rfl)) (q.h.cellS (Ab (o := 1) Zm rfl))
    have k1 := fun (q : Af W) => ct q p1 z1
    have k2 := fun (q : Af W) => ct q p2 z2
    unfold Ak at k1 k2
    have Jn := AmU Mb
    clear ct hpre Mb P3 S1 IM hsm Zk Zm
    refine AiG (by kernel_rfl) (by kernel_rfl) (by kernel_rfl) (by rintro ⟨_, _, h⟩; exact h) ?_
    repeat (go_big_quiet_step (first | with_reducible exact qN (k1 _) | with_reducible exact qN (k2 _)))
    refine wpQuiet_nil ?_
    rintro W7 ⟨q, hq⟩
    have AG : Aa W W7 := hq ▸ q.h
    clear hq q q0 q1 q2 q3 q4 k1 k2
    have DY := Bj.ext hI AG
    obtain ⟨r1, hr1⟩ := AmT (Al a b p1)
    obtain ⟨r2, hr2⟩ := AmT (Al a b p2)
    rw [← hr1, ← hr2] at hno
    have Mb := Jn.out
    rw [← hr1] at Mb
    rw [← hr1, ← hr2]
    have cs1 := fun (V : World) => Qg r1 V
    have Ux := fun (V : World) => Qg r2 V
    obtain ⟨i0, hi, hz0, hz1, hz2⟩ := info_parts Tryz.infoPt
    have OP := (AG.block _ (AmV e1)).trans e1
    have hs2 := Ql r2
    obtain ⟨s2, yQ⟩ := AmT (AD r2)
    rw [← yQ] at Ux hno hs2
    have hs7 := Bj.size DY
    have Xv := AmU Mb
    clear Jn hr1 hr2 yQ Mb e1 e2 hI Zj Zl z1 z2
    rcases Agw r1 with Mw | JH | BY
    · have Gz := l4 Mw
      have Sr : ¬ 0 ≤ r1 := Rat.not_le.2 Mw
      have Gu : ¬ 0 < r1 := fun h => Sr (Rat.le_of_lt h)
      rw [Gz] at cs1 hno
      have Dc : ¬ 0 < s2 := by omega
      gi_wp2
      refine ⟨trivial, ?_⟩
      refine (CallsIn.inRound l (callsIn_wide.2 (cs1 _))).mono ?_
      rintro e W8 ⟨rfl, Bq⟩
      gi_wp2
      refine ⟨trivial, ?_⟩
      refine (CallsIn.inRound l (callsIn_wide.2 (cs1 _))).mono ?_
      rintro e Wa ⟨rfl, Az⟩
      gi_wp2
      refine ⟨trivial, ?_⟩
      refine (CallsIn.inRound l (callsIn_wide.2 (Ux _))).mono ?_
      rintro e Wb ⟨rfl, hxb⟩
      gi_wp2
      have X := (AG.trans Bq).trans (Az.trans hxb)
      refine ⟨GU X, BB.of_ext X (by omega) (by omega), (Xv.out _).2 ?_⟩
      rw [if_neg Sr, decide_eq_false Gu, List.append_nil, Bool.or_false]
      exact Bj.ext DY (Bq.trans (Az.trans hxb))
    · have Gz : AD r1 = 0 := by rw [JH]; rfl
      have hle : 0 ≤ r1 := by rw [JH]; decide
      have Sx : ¬ 0 < r1 := by rw [JH]; decide
      have AQ : (R r1 == [48]) = true := by rw [beq_iff_eq]; exact lM.2 JH
      have Bp : (R r1 != [48]) = false := by rw [bne, AQ]; rfl
      clear JH
      rw [Gz] at cs1 hno
      gi_wp2
      refine ⟨trivial, ?_⟩
      refine (CallsIn.inRound l (callsIn_wide.2 (cs1 _))).mono ?_
      rintro e W8 ⟨rfl, Bq⟩
      have J6 := Bj.ext DY Bq
      have yK := Bj.size J6
      obtain ⟨v, hv, ho⟩ := J6.out
      obtain ⟨vA, vc, rfl⟩ := gC (by omega) ho
      have f1 := (cell_of_box hv).1
      have Rb := (Bq.block _ (AmV OP)).trans OP
      have f2 := Ab (o := 0) Rb rfl
      have f3 := Ab (o := 1) Rb rfl
      have X8 := AG.trans Bq
      clear OP DY AG Bq
      cases sm
      all_goals (
        gi_wp2_with (gi_at_builtin; refine wpListIn_append_own _ rfl _ _ 33 rfl w.heap.size 94 i0 (.agg #[S [], S []]) 2 32 Tryz.underlying33 hi hz0 hz1 hz2 rfl (by decide) _ _ _ rfl (ho.alloc _) ⟨W8.heap.size, 0, none⟩ 1 1 [S (R p1.x), S (R p1.y)] rfl rfl (YA _ _ _ _) (by simp [Value.oneCell']) (by unfold maxLen; omega) (by omega) (by simp; omega) ?_; intro v' w3 hown' hg3 hnil3
                     obtain ⟨RI, ZS, ZT, ⟨u3, hc3⟩, hf3, hd3, AdT⟩ := Bj.app (x := p1) (Bj.ext J6 ((Aa.refl W8).alloc (.cells #[S (R p1.x), S (R p1.y)] 94))) (ho.alloc _) hown' hg3
                     obtain ⟨g', cap', dN⟩ : ∃ g' cap', v' = .slice (some ⟨g', 0, none⟩) (ks.length + 1) cap' := by
                       rcases hown'.2 with ⟨_, h0⟩ | ⟨g', cap', _, h', _⟩
                       · exact absurd h0 (by omega)
                       · exact ⟨g', cap', h'⟩
                     subst dN
                     clear hown' hg3 hnil3
                     go_frame)
        refine ⟨trivial, ?_⟩
        refine (CallsIn.inRound l (callsIn_wide.2 (cs1 _))).mono ?_
        rintro e Wa ⟨rfl, Az⟩
        gi_wp2
        refine ⟨trivial, ?_⟩
        refine (CallsIn.inRound l (callsIn_wide.2 (Ux _))).mono ?_
        rintro e Wb ⟨rfl, hxb⟩
        gi_wp2
        have hP := fun b => Bj.put RI b
        have hsP := Bj.size RI
        have X := Az.trans hxb
        refine ⟨((GU (X8.alloc _)).trans ((ZS.trans (KeepsOthers.setCell _ _ _)).from _)).trans (GU X), (((BB.of_ext (Bs := w.heap.size + 3) (X8.alloc _) (by omega) (by omega)).trans ZT).trans (br _)).trans (BB.of_ext X (by rw [World.size_setCell]; omega) (by rw [World.size_setCell]; omega)), (Xv.out _).2 ?_⟩
        rw [if_pos hle]
        simp only [decide_eq_false Sx, Bool.or_false]
        exact Bj.ext (hP _) X)
    · have Gz := iS BY
      have hle : 0 ≤ r1 := Rat.le_of_lt BY
      have Dc : ¬ s2 < 0 := by
        intro h
        rw [Gz] at hno
        omega
      have AQ : (R r1 == [48]) = false := D5 (fun e => by rw [e] at BY; exact absurd BY (by decide))
      have Bp : (R r1 != [48]) = true := by rw [bne, AQ]; rfl
      rw [Gz] at cs1 hno
      gi_wp2
      refine ⟨trivial, ?_⟩
      refine (CallsIn.inRound l (callsIn_wide.2 (cs1 _))).mono ?_
      rintro e W8 ⟨rfl, Bq⟩
      have J6 := Bj.ext DY Bq
      have yK := Bj.size J6
      obtain ⟨v, hv, ho⟩ := J6.out
      obtain ⟨vA, vc, rfl⟩ := gC (by omega) ho
      have f1 := (cell_of_box hv).1
      have Rb := (Bq.block _ (AmV OP)).trans OP
      have f2 := Ab (o := 0) Rb rfl
      have f3 := Ab (o := 1) Rb rfl
      have X8 := AG.trans Bq
      clear OP DY AG Bq
      cases sm
      all_goals (
        gi_wp2_with (gi_at_builtin; refine wpListIn_append_own _ rfl _ _ 33 rfl w.heap.size 94 i0 (.agg #[S [], S []]) 2 32 Tryz.underlying33 hi hz0 hz1 hz2 rfl (by decide) _ _ _ rfl (ho.alloc _) ⟨W8.heap.size, 0, none⟩ 1 1 [S (R p1.x), S (R p1.y)] rfl rfl (YA _ _ _ _) (by simp [Value.oneCell']) (by unfold maxLen; omega) (by omega) (by simp; omega) ?_; intro v' w3 hown' hg3 hnil3
                     obtain ⟨RI, ZS, ZT, ⟨u3, hc3⟩, hf3, hd3, AdT⟩ := Bj.app (x := p1) (Bj.ext J6 ((Aa.refl W8).alloc (.cells #[S (R p1.x), S (R p1.y)] 94))) (ho.alloc _) hown' hg3
                     obtain ⟨g', cap', dN⟩ : ∃ g' cap', v' = .slice (some ⟨g', 0, none⟩) (ks.length + 1) cap' := by
                       rcases hown'.2 with ⟨_, h0⟩ | ⟨g', cap', _, h', _⟩
                       · exact absurd h0 (by omega)
                       · exact ⟨g', cap', h'⟩
                     subst dN
                     clear hown' hg3 hnil3
                     go_frame)
        refine ⟨trivial, ?_⟩
        refine (CallsIn.inRound l (callsIn_wide.2 (cs1 _))).mono ?_
        rintro e Wa ⟨rfl, Az⟩
        gi_wp2
        refine ⟨trivial, ?_⟩
        refine (CallsIn.inRound l (callsIn_wide.2 (Ux _))).mono ?_
        rintro e Wb ⟨rfl, hxb⟩
        gi_wp2
        have hP := fun b => Bj.put RI b
        have hsP := Bj.size RI
        have X := Az.trans hxb
        refine ⟨((GU (X8.alloc _)).trans ((ZS.trans (KeepsOthers.setCell _ _ _)).from _)).trans (GU X), (((BB.of_ext (Bs := w.heap.size + 3) (X8.alloc _) (by omega) (by omega)).trans ZT).trans (br _)).trans (BB.of_ext X (by rw [World.size_setCell]; omega) (by rw [World.size_setCell]; omega)), (Xv.out _).2 ?_⟩
        rw [if_pos hle]
        simp only [decide_eq_true BY, Bool.or_true]
        exact Bj.ext (hP _) X)
  case done =>
    rintro D ys W hD rfl hI hK
    have hI : Bj w fv (.slice A pg.length cap) (G2 (Al a b) (Eo (upto g pg.length))) (Ir (Al a b) (Eo (upto g pg.length))) W := hI
    rw [show Eo (upto g pg.length) = pg from AgR hg] at hI
    have yK := Bj.size hI
    obtain ⟨v, hv, ho⟩ := hI.out
    obtain ⟨vA, vc, rfl⟩ := gC (by omega) ho
    have f1 := (cell_of_box hv).1
    have f2 := (cell_of_box hI.som).1
    have BV := Bj.below hI
    obtain ⟨sm, hsm⟩ := AmT (Ir (Al a b) pg)
    rw [← hsm] at f2
    have uI : Aa w (W.putObj D (.deferred none)) := BV.trans (belowK_b (w := w) (AmX _) W D _ _ (by omega) hK rfl rfl)
    have ho2 := ho.kept (grownBy_putObj W D (.deferred none)) (ownsRow_ne ho hK (fun cur e => by cases e))
    obtain ⟨A2, c2, hv2, IU, hc1, hc2⟩ := Ae.of_own' (by omega) ho2
    simp only [Value.slice.injEq, true_and] at hv2
    obtain ⟨rfl, rfl⟩ := hv2
    have hk0 : sm = false → Ld (Al a b) pg = [] := fun h => by unfold Ld; rw [← hsm, h]; rfl
    have Ci : sm = true → Ld (Al a b) pg = G2 (Al a b) pg := fun h => by unfold Ld; rw [← hsm, if_pos h]
    have hnil : sm = true → G2 (Al a b) pg = [] → vA = none ∧ vc = 0 := fun h e => by
      exfalso
      rw [hsm] at h
      unfold Ir at h
      rw [List.any_eq_true] at h
      obtain ⟨p, hp, h⟩ := h
      have : p ∈ G2 (Al a b) pg := List.mem_filter.2 ⟨hp, decide_eq_true (Rat.le_of_lt (of_decide_eq_true h))⟩
      rw [e] at this
      cases this
    clear hI hsm
    cases sm
    · gi_wp2
      refine ⟨by simp, .inl ⟨_, _, rfl, run_takeDeferred hK, ?_⟩⟩
      refine ⟨_, results_tmp rfl _ _ _, ?_⟩
      exact ⟨none, 0, rfl, ⟨fun h => by simp [flat, Ao] at h⟩, AmX _, by omega, fun _ => ⟨rfl, rfl⟩, uI⟩
    · gi_wp2
      refine ⟨by simp, .inl ⟨_, _, rfl, run_takeDeferred hK, ?_⟩⟩
      refine ⟨_, results_tmp rfl _ _ _, ?_⟩
      exact ⟨vA, vc, rfl, IU, hc1, hc2, hnil trivial, uI⟩
  case stop =>
    rintro D c pre W _ _ h _
    exact h.elim
end
section
attribute [local go_sem] Oper.semAt_some
theorem AaN(p q:List Pt)(hp:Nh p)(hq:Nh q)(MD:∀x∈p,Ar 200 x)(SI:∀x∈q,Ar 200 x)(A B:Option Addr)(c d blk:Nat)(w:World)(hw:An w)
  (hA:Ae w A (flat (Ao p))) (hB:Ae w B (flat (Ao q))) (hc:p.length<=c) (hc2:c<=9223372036854775807) (hd:q.length<=d) (Et:d<=9223372036854775807)
  (c0:w.cell? ⟨blk,0,none⟩=some (.slice A p.length c)) (c1:w.cell? ⟨blk,1,none⟩=some (.slice B q.length d)) :
  Calls Tryz.prog 172 #[.slice (some ⟨blk,0,none⟩) 2 2] w (AA 0 w):=by
 have k1:=fun (W:World) (hx:Aa w W)=>gQ p hp MD (by omega) (by omega) A c W (hw.ext hx) (hA.ext hx) hc hc2;have k2:=fun (W:World) (hx:Aa w W)=>gQ q hq SI (by omega) (by omega) B d W (hw.ext hx) (hB.ext hx) hd Et;clear hp hq MD SI hA hB;go_enter Tryz.func172,Tryz.ntmps172;go_wp2
 go_loopw [8] (fun i wr=>(i=.int .i64 0∨i=.int .i64 1∨i=.int .i64 2)/\Aa w wr) (fun i _=>2-(intOf i).toNat)
 case atStart=>exact⟨.inl rfl,Aa.refl _⟩
 case round=>
  obtain⟨h,hx⟩:=hrel;have d0:=hx.cellS c0;have d1:=hx.cellS c1
  rcases h with rfl|rfl|rfl
  ·have k:=k1 wr hx;clear k1 k2 c0 c1;(go_wp2_with fail);(with_reducible refine k.mono ?_);rintro e w2 ⟨rfl,hx2⟩;go_wp2;go_roundw
   case rel=>exact⟨.inr (.inl rfl),hx.trans hx2⟩
   case measure=>simp [intOf]
  ·have k:=k2 wr hx;clear k1 k2 c0 c1;(go_wp2_with fail);(with_reducible refine k.mono ?_);rintro e w2 ⟨rfl,hx2⟩;go_wp2;go_roundw
   case rel=>exact⟨.inr (.inr rfl),hx.trans hx2⟩
   case measure=>simp [intOf]
  ·clear k1 k2 c0 c1;go_wp2;go_ret;exact⟨rfl,hx⟩
theorem Ae.keptM{W W':World}{row:Option Nat}{A:Option Addr}{cs:List Value}(h:Ae W A cs)(hg:W.grownBy W' row)(hr:∀r,row=some r→∃o:Obj,W.heap[r]?=some o/\o.isCells=false):Ae W' A cs:=
 ⟨fun h0=>by
  obtain⟨b,o,e,hc⟩:=h.ad h0
  exact⟨b,o,e,fun j hj=>cell_kept (hc j hj) hg hr⟩⟩
def Lt(p:List Pt)(s:Pt×Pt):Prop:=(∀x∈p,0<=Al s.1 s.2 x)/\∃x∈p,0<Al s.1 s.2 x
def JU(p:List Pt)(s:Pt×Pt):Prop:=∀x∈p,Al s.1 s.2 x<=0
abbrev Sd(p:List Pt):={s:Pt×Pt // Ar 200 s.1/\Ar 200 s.2/\(Lt p s∨JU p s)}
theorem Ajh(p q:List Pt)(h0:0<q.length)(hz:∀x∈q,Ar 200 x)(hs:∀k,k<q.length→Lt p (Bv q k)∨JU p (Bv q k)):∃g:Nat→Sd p,∀k,k<q.length→(g k).1=Bv q k:=by
 have hm:∀k,Ar 200 (q.getD (k%q.length) ⟨0,0⟩):=fun k=>by have:k%q.length<q.length:=Nat.mod_lt _ h0;rw [List.getD_eq_getElem?_getD,Anc this];exact hz _ (AmY this)
 have h2:∀k,k<q.length→Ar 200 (Bv q k).1/\Ar 200 (Bv q k).2/\(Lt p (Bv q k)∨JU p (Bv q k)):=fun k hk=>⟨by have:=hm k;rwa [Nat.mod_eq_of_lt hk]at this,hm (k+1),hs k hk⟩;exact⟨fun k=>if h:k<q.length then ⟨Bv q k,h2 k h⟩else ⟨Bv q 0,h2 0 h0⟩,fun k hk=>by simp [hk]⟩
theorem WY{p:List Pt}{k:Nat}(hk:k<p.length):(Bv p k).1∈p/\(Bv p k).2∈p:=by
 have h2:(k+1)%p.length<p.length:=Nat.mod_lt _ (by omega);unfold Bv;rw [List.getD_eq_getElem?_getD,Anc hk,List.getD_eq_getElem?_getD,Anc h2];exact⟨AmY hk,AmY h2⟩
theorem l6{r:Rat}(h:0<=r):0<=AD r:=by
 unfold AD;rw [if_neg (Rat.not_lt.2 h)];split<;>omega
theorem l7{r:Rat}(h:r<=0):AD r<=0:=by
 unfold AD;by_cases h0:r=0
 ·rw [if_pos h0];omega
 ·rw [if_neg h0,if_pos ((Rat.le_iff_lt_or_eq.1 h).resolve_right h0)];omega
theorem AfI{p:List Pt}{s:Pt×Pt}(h:Lt p s):Ld (Al s.1 s.2) p=p:=by
 unfold Ld;rw [if_pos]
 ·exact List.filter_eq_self.2 fun x hx=>decide_eq_true (h.1 x hx)
 ·obtain⟨x,hx,h0⟩:=h.2;exact List.any_eq_true.2 ⟨x,hx,decide_eq_true h0⟩
theorem AfH{p:List Pt}{s:Pt×Pt}(h:JU p s):Ld (Al s.1 s.2) p = []:=by
 unfold Ld;rw [if_neg];intro h2;obtain⟨x,hx,h0⟩:=List.any_eq_true.1 h2;exact Rat.not_lt.2 (h x hx) (of_decide_eq_true h0)
theorem Ahb{p:List Pt}{s:Pt×Pt}(h:Lt p s):∀k,k<p.length→¬AD (Al s.1 s.2 (Bv p k).1)*AD (Al s.1 s.2 (Bv p k).2)<0:=fun k hk=>by
 have h1:=l6 (h.1 _ (WY hk).1);have h2:=l6 (h.1 _ (WY hk).2);exact Int.not_lt.2 (Int.mul_nonneg h1 h2)
theorem Aha{p:List Pt}{s:Pt×Pt}(h:JU p s):∀k,k<p.length→¬AD (Al s.1 s.2 (Bv p k).1)*AD (Al s.1 s.2 (Bv p k).2)<0:=fun k hk=>by
 have h1:=l7 (h _ (WY hk).1);have h2:=l7 (h _ (WY hk).2);exact Int.not_lt.2 (Int.mul_nonneg_of_nonpos_of_nonpos h1 h2)
theorem Aa4{w:World}{b o:Nat}{cs:Array Value}{t:TypeId}{fz:Nat×Nat}{v:Value}(h:w.heap[b]?=some (.cells cs t fz))(hc:w.cell? ⟨b,o,none⟩=some v):cs[o]?=some v:=by
 cases e:cs[o]? with
 | some u=>
  have h2:=hc;simp [World.cell?,h,e]at h2;rw [←h2]
 | none=>simp [World.cell?,h,e]at hc
structure EG(w:World)(bo:Nat)(p:List Pt)(sv:Value)(W:World):Prop where
 c4:∃v,W.heap[w.heap.size]?=some (.cells #[v] 33 (0,0))
 c5:∃v,W.heap[w.heap.size+1]?=some (.cells #[v] 4 (0,0))
 c6:∃v,W.heap[w.heap.size+2]?=some (.cells #[v] 27 (0,0))
 out:∃A c,W.heap[bo]?=some (.cells #[.slice A p.length c] 33 (0,0))/\Ae W A (flat (Ao p))/\p.length<=c/\c<=9223372036854775807
 box:W.heap[bo+1]?=some (.cells #[sv] 33 (0,0))
 below:Below w.heap.size w W
def xw(w:World)(bo:Nat)(p:List Pt)(sv:Value)(pre:List (Sd p))(W:World):Prop:=EG w bo p sv W/\∀s∈pre,Lt p s.1
theorem EG.own{w:World}{bo:Nat}{p:List Pt}{sv:Value}{W W':World}{row:Option Nat}{B:Nat}(hB:w.heap.size<=B)(h:EG w bo p sv W)(hg:W.grownBy W' row)(hr:∀r,row=some r→B<=r/\∃o:Obj,W.heap[r]?=some o/\o.isCells=false):EG w bo p sv W':=by
 have hr':∀r,row=some r→∃o:Obj,W.heap[r]?=some o/\o.isCells=false:=fun r e=>(hr r e).2;obtain⟨v4,h4⟩:=h.c4;obtain⟨v5,h5⟩:=h.c5;obtain⟨v6,h6⟩:=h.c6;obtain⟨A,c,ho,AO,h1,h2⟩:=h.out;exact⟨⟨v4,Dv hg h4 hr'⟩,⟨v5,Dv hg h5 hr'⟩,⟨v6,Dv hg h6 hr'⟩,⟨A,c,Dv hg ho hr',AO.keptM hg hr',h1,h2⟩,Dv hg h.box hr',h.below.grown hg h.below.size (fun k e=>Ani hB (hr k e).1)⟩
theorem EG.ext{w:World}{bo:Nat}{p:List Pt}{sv:Value}{W W':World}(h:EG w bo p sv W)(hx:Aa W W'):EG w bo p sv W':=by
 obtain⟨v4,h4⟩:=h.c4;obtain⟨v5,h5⟩:=h.c5;obtain⟨v6,h6⟩:=h.c6;obtain⟨A,c,ho,AO,h1,h2⟩:=h.out;exact⟨⟨v4,(hx.block _ (AmV h4)).trans h4⟩,⟨v5,(hx.block _ (AmV h5)).trans h5⟩,⟨v6,(hx.block _ (AmV h6)).trans h6⟩,⟨A,c,(hx.block _ (AmV ho)).trans ho,AO.ext hx,h1,h2⟩,(hx.block _ (AmV h.box)).trans h.box,h.below.trans (Below.mono hx h.below.size)⟩
theorem EG.put{w:World}{bo:Nat}{p:List Pt}{sv:Value}{W:World}(h:EG w bo p sv W)(K7:w.heap.size+3<=bo){A:Option Addr}{c:Nat}(AO:Ae W A (flat (Ao p)))(hne:∀x,A=some x→x.block≠bo)(h1:p.length<=c)(h2:c<=9223372036854775807) :
  EG w bo p sv (W.setCell ⟨bo,0,none⟩ (.slice A p.length c))/\BB w.heap.size (bo+1) W (W.setCell ⟨bo,0,none⟩ (.slice A p.length c)):=by
 obtain⟨v4,h4⟩:=h.c4;obtain⟨v5,h5⟩:=h.c5;obtain⟨v6,h6⟩:=h.c6;obtain⟨A0,c0,ho,-,-,-⟩:=h.out;have K:∀k,k≠bo→(W.setCell ⟨bo,0,none⟩ (.slice A p.length c)).heap[k]?=W.heap[k]?:=fun k hk=>Below.heap_setCell W _ _ k hk;have hb:=(Below.refl w.heap.size W).setCell (p:=⟨bo,0,none⟩) (by show w.heap.size<=bo;omega) (.slice A p.length c);refine⟨⟨⟨v4,(K _ (by omega)).trans h4⟩,⟨v5,(K _ (by omega)).trans h5⟩,⟨v6,(K _ (by omega)).trans h6⟩,⟨A,c,heap_setCell_box _ ho,⟨fun h0=>?_⟩,h1,h2⟩,(K _ (by omega)).trans h.box,h.below.trans hb⟩,hb,K _ (by omega)⟩;obtain⟨b,o,e,hc⟩:=AO.ad h0;exact⟨b,o,e,fun j hj=>(World.cell?_of_block (a:=⟨b,o+j,none⟩) (K b (hne _ e))).trans (hc j hj)⟩
def xx(w:World)(c:Code)(W:World):Prop:=c=.ret/\W.heap[w.heap.size]?=some (.cells #[.slice none 0 0] 33 (0,0))/\W.heap[w.heap.size+1]?=some (.cells #[.bool false] 4 (0,0))/\W.heap[w.heap.size+2]?=some (.cells #[.int .i64 0] 27 (0,0))/\Below w.heap.size w W
def TW(p:List Pt)(w:World)(c:Code)(_:List (Sd p))(W:World):Prop:=xx w c W
theorem TW.own{p:List Pt}{w:World}{c:Code}{B:Nat}(hB:w.heap.size<=B):OwnFrom B (TW p w c):=by
 rintro s W W' row ⟨rfl,h4,h5,h6,hb⟩ hg hr;have hr':∀r,row=some r→∃o:Obj,W.heap[r]?=some o/\o.isCells=false:=fun r e=>(hr r e).2;exact⟨rfl,Dv hg h4 hr',Dv hg h5 hr',Dv hg h6 hr',hb.grown hg hb.size (fun k e=>Ani hB (hr k e).1)⟩
def yi(w:World)(e:Ending)(w':World):Prop:=e=.returned (.tuple #[.slice none 0 0,.bool false,.int .i64 0])/\Aa w w'
theorem AfD(p q:List Pt)(hp:Nh p)(hq:Nh q)(MD:∀x∈p,Ar 200 x)(SI:∀x∈q,Ar 200 x)(hs:∀k,k<q.length→Lt p (Bv q k)∨JU p (Bv q k))(Ad7:∃k,k<q.length/\JU p (Bv q k))
  (A B:Option Addr) (c d:Nat) (w:World) (hw:An w) (hA:Ae w A (flat (Ao p))) (hB:Ae w B (flat (Ao q))) (hc:p.length<=c) (hc2:c<=9223372036854775807) (hd:q.length<=d) (Et:d<=9223372036854775807) :
  Calls Tryz.prog 102 #[.slice A p.length c,.slice B q.length d] w (yi w):=by
 have cK:=hp.n3;have xK:=hp.n60;have S2:=hq.n3;have Amo:=hq.n60;obtain⟨g,hg⟩:=Ajh p q (by omega) SI hs;have X0:=((((Aa.refl w).alloc (.cells #[.slice none 0 0] 33)).alloc (.cells #[.bool false] 4)).alloc (.cells #[.int .i64 0] 27)).alloc (.cells #[.slice A p.length c,.slice B q.length d] 33);have b0:=AmW w (.cells #[.slice none 0 0] 33);have b1:=AmW (w.alloc (.cells #[.slice none 0 0] 33)) (.cells #[.bool false] 4);have b2:=AmW ((w.alloc (.cells #[.slice none 0 0] 33)).alloc (.cells #[.bool false] 4)) (.cells #[.int .i64 0] 27);have b3:=AmW (((w.alloc (.cells #[.slice none 0 0] 33)).alloc (.cells #[.bool false] 4)).alloc (.cells #[.int .i64 0] 27)) (.cells #[.slice A p.length c,.slice B q.length d] 33);simp only [Anf]at b1 b2 b3;have ck:=AaN p q hp hq MD SI A B c d (w.heap.size+1+1+1) _ (hw.ext X0) (hA.ext X0) (hB.ext X0) hc hc2 hd Et (Ab (o:=0) b3 rfl) (Ab (o:=1) b3 rfl);have B0:=(Below.heap_alloc ((w.alloc (.cells #[.slice none 0 0] 33)).alloc (.cells #[.bool false] 4)) (.cells #[.int .i64 0] 27) w.heap.size (by simp only [Anf];omega)).trans ((Below.heap_alloc _ _ _ (by simp only [Anf];omega)).trans b0);have B1:=(Below.heap_alloc ((w.alloc (.cells #[.slice none 0 0] 33)).alloc (.cells #[.bool false] 4)) (.cells #[.int .i64 0] 27) (w.heap.size+1) (by simp only [Anf];omega)).trans b1;obtain⟨V,hV⟩:=AmT (((w.alloc (.cells #[.slice none 0 0] 33)).alloc (.cells #[.bool false] 4)).alloc (.cells #[.int .i64 0] 27));have yM:V.heap.size=w.heap.size+3:=(by rw [hV];simp only [Anf]);rw [←hV]at X0 ck B0 B1 b2;have EV:=(Aa.refl V).alloc (.cells #[.slice A p.length c,.slice B q.length d] 33);refine(callsIn_wide (n:=4)).1 ?_;refine callsIn_of_wp_marks Tryz.func102 rfl trivial ?_ rfl;simp only [Tryz.ntmps102,List.size_toArray,List.length_cons,List.length_nil,Nat.reduceAdd,Nat.reduceSub,Array.replicate_succ,Array.replicate_zero,List.push_toArray,List.append_toArray,List.nil_append,List.cons_append];gi_wp2;refine⟨trivial,?_⟩;rw [←hV];refine(callsIn_wide.2 ck).mono ?_;rintro e w1 ⟨rfl,hx1⟩;have Ue:=X0.trans hx1;have hs1:=(EV.trans hx1).size;have d0:=((EV.trans hx1).block _ (by omega)).trans B0;have d1:=((EV.trans hx1).block _ (by omega)).trans B1;have d2:=((EV.trans hx1).block _ (by omega)).trans b2;have ww:=AmU yM;have AeR:w.heap.size+3<=w1.heap.size:=(by omega);clear hV yM b0 b1 b2 b3 ck B0 B1 EV hx1 hs1 X0;gi_wp2;refine⟨trivial,?_⟩;refine(jr Fence.wide 3 trivial rfl B q.length d _).mono ?_;rintro e W3 ⟨rfl,rfl⟩;gi_wp2;obtain⟨bo,K7⟩:=AmT w1.heap.size;have E2:=((Aa.refl w1).alloc (.cells #[.slice A p.length c] 33)).alloc (.cells #[.slice B q.length d] 33);have g1:=AmW w1 (.cells #[.slice A p.length c] 33);have g2:=AmW (w1.alloc (.cells #[.slice A p.length c] 33)) (.cells #[.slice B q.length d] 33);have hs2:((w1.alloc (.cells #[.slice A p.length c] 33)).alloc (.cells #[.slice B q.length d] 33)).heap.size=w1.heap.size+2:=(by simp only [Anf]);replace g1:=(Below.heap_alloc (w1.alloc (.cells #[.slice A p.length c] 33)) (.cells #[.slice B q.length d] 33) _ (by simp only [Anf];omega)).trans g1
 rw [Anf]at g2;rw [←K7]at g1 g2 ⊢;have hlt:=fun (k:Nat) (o:Obj) (h:w1.heap[k]?=some o)=>(E2.block k (AmV h)).trans h
 have Hw:EG w bo p (.slice B q.length d) ((w1.alloc (.cells #[.slice A p.length c] 33)).alloc (.cells #[.slice B q.length d] 33)):=
  ⟨⟨_,hlt _ _ d0⟩,⟨_,hlt _ _ d1⟩,⟨_,hlt _ _ d2⟩,⟨A,c,g1,hA.ext (Ue.trans E2),hc,hc2⟩,g2,Ue.trans E2⟩
 have hxA:=Ue.trans E2;generalize (w1.alloc (.cells #[.slice A p.length c] 33)).alloc (.cells #[.slice B q.length d] 33)=W0 at *;have hs0:bo+2<=W0.heap.size:=(by omega);have AdB:w.heap.size+3<=bo:=(by omega);clear hs2 g1 d0 d1 d2 hlt E2 Ue AeR K7 ww;have BO:=Ab (o:=0) g2 rfl
 refine wpIn_rangeFunc_ownH rfl (by omega) (gf:=252) (lb:=#[.pointer (some ⟨bo+1,0,none⟩)]) rfl trivial (enters_of Tryz.func252 (by kernel_rfl) rfl)
  (js (fun x:Sd p=>x.1) 3 (by omega) (bo+1) w.heap.size B d q g hg W0 (by omega) (by omega) (by omega) BO ⟨w,hB,AmX _,hxA⟩)
  (fun h k=>h.trans k) (BB.put (by omega) (by omega)) (Below.refl _ _) (fun _=>rfl)
  (xw w bo p (.slice B q.length d)) (TW p w)
  (fun s W W' row h Db hr'=>⟨EG.own (by omega) h.1 Db hr',h.2⟩) (fun _=>TW.own (by omega)) ⟨Hw,fun s hs=>by cases hs⟩
  (fun x a' W=>∃F7 F8,lI x.1 F7 F8 W/\a' = {tmps:=#[.slice A p.length c,.slice B q.length d,undef,undef,.pointer (some ⟨w.heap.size,0,none⟩),.pointer (some ⟨w.heap.size+1,0,none⟩),.pointer (some ⟨w.heap.size+2,0,none⟩),.int .i64 0,.pointer (some ⟨bo,0,none⟩),.pointer (some ⟨F7,0,none⟩),.pointer (some ⟨F8,0,none⟩),.slice A p.length c,.slice B q.length d,.slice (some ⟨w.heap.size+3,0,none⟩) 2 2,.int .i64 0,.int .i64 0,.bool false,undef,.slice A p.length c,.slice B q.length d,.func (.func 252) #[] #[.pointer (some ⟨bo+1,0,none⟩)],Ak x.1.1,Ak x.1.2,undef,undef,undef,undef,undef,undef,undef,undef,undef,undef,undef,undef,undef,undef],defers:=[]})
  ?hAx ?assign ?body ?done ?stop
 case hAx=>rintro x a' s W W' row ⟨F7,F8,⟨h1,h2⟩,rfl⟩ Db hr';exact⟨F7,F8,⟨Dv Db h1 (fun r e=>(hr' r e).2),Dv Db h2 (fun r e=>(hr' r e).2)⟩,rfl⟩
 case assign=>intro l pre x W K hi hK;have M4:bo+1<W.heap.size:=AmV hi.1.box;have e1:=AmW W (.cells #[S (R x.1.1.x),S (R x.1.1.y)] 94);have e2:=AmW (W.alloc (.cells #[S (R x.1.1.x),S (R x.1.1.y)] 94)) (.cells #[S (R x.1.2.x),S (R x.1.2.y)] 94);have X:=((Aa.refl W).alloc (.cells #[S (R x.1.1.x),S (R x.1.1.y)] 94)).alloc (.cells #[S (R x.1.2.x),S (R x.1.2.y)] 94);rw [Anf]at e2;unfold Ak;gi_wp2;exact hK _ _ (GU X) (BB.of_ext X (by omega) (by omega)) ⟨EG.ext hi.1 X,hi.2⟩ ⟨_,_,⟨(Below.heap_alloc _ _ _ (by simp only [Anf];omega)).trans e1,e2⟩,rfl⟩
 case body=>
  rintro l pre x a' W hl AeI ⟨hI,KH⟩ ⟨F7,F8,⟨e1,e2⟩,rfl⟩ hlen;obtain⟨z1,z2,hgb⟩:=x.2;obtain⟨A1,c1,ho,AO,h1,h2⟩:=hI.out;have CB:An W:=hw.ext hI.below;have f0:=(cell_of_box ho).1;have f1:=(cell_of_box ho).2;have M4:bo+1<W.heap.size:=AmV hI.box
  rcases hgb with hgd|uG
  ·have kp:=aw x.1.1 x.1.2 z1 z2 p MD (by omega) xK (Ahb hgd) A1 c1 F7 F8 W CB AO h1 h2 e1 e2;rw [AfI hgd]at kp;clear e1 e2 ho;gi_wp2;refine⟨trivial,?_⟩;refine(CallsIn.inRound l (callsIn_wide.2 kp)).mono ?_;rintro e W2 ⟨A2,c2,rfl,IU,h3,h4,-,hx2⟩;obtain⟨b2,o2,rfl,hcs⟩:=IU.ad (by rw [flat_length];simp [Ao];omega);have LZ:=EG.ext hI hx2;have g0:=hx2.cellS f0;have gf:W2.frozen? ⟨bo,0,none⟩=false:=(hx2.frozen (p:=⟨bo,0,none⟩) (by show bo<W.heap.size;omega)).trans f1
   have hne:∀y,some (⟨b2,o2,none⟩:Addr)=some y→y.block≠bo:=by
    intro y hy hh
    cases hy;have hh:b2=bo:=hh;subst hh;obtain⟨A0,c0,ho0,-⟩:=LZ.out;obtain⟨b3,o3,e3,rQ,rR⟩:=Cy IU (show 0<p.length by omega);simp only [Anb,Addr.mk.injEq,and_true]at e3;obtain⟨rfl,rfl⟩:=e3;have hb3:=Aa4 ho0 rQ
    rcases Nat.eq_zero_or_pos (o2+0*2)with h0|h0
    ·rw [h0]at hb3;simp at hb3
    ·rw [Array.getElem?_eq_none (by simp;omega)]at hb3
     cases hb3
   obtain⟨hP,hKp⟩:=LZ.put AdB IU hne h3 h4;clear hcs kp;have hq:=fun W=>Lib.run_eql_slice_nil (P:=Tryz.prog) W 33 94 (some (⟨b2,o2,none⟩:Addr)) p.length c2 0 0 Tryz.underlying33;gi_wp2;refine⟨(GU hx2).trans ((KeepsOthers.setCell _ _ _).from _),(BB.of_ext (Bs:=bo+1) hx2 (by have:=hI.below.size;omega) M4).trans hKp,hP,?_⟩;intro s hs'
   rcases List.mem_append.1 hs' with h|h
   ·exact KH s h
   ·rw [List.mem_singleton.1 h];exact hgd
  ·have kp:=aw x.1.1 x.1.2 z1 z2 p MD (by omega) xK (Aha uG) A1 c1 F7 F8 W CB AO h1 h2 e1 e2;rw [AfH uG]at kp;clear e1 e2 ho;gi_wp2;refine⟨trivial,?_⟩;refine(CallsIn.inRound l (callsIn_wide.2 kp)).mono ?_;rintro e W2 ⟨A2,c2,rfl,IU,h3,h4,hnl,hx2⟩;obtain⟨rfl,rfl⟩:=hnl rfl;obtain⟨v4,k4⟩:=(EG.ext hI hx2).c4;obtain⟨v5,k5⟩:=(EG.ext hI hx2).c5;obtain⟨v6,k6⟩:=(EG.ext hI hx2).c6;have g0:=hx2.cellS f0;have gf:W2.frozen? ⟨bo,0,none⟩=false:=(hx2.frozen (p:=⟨bo,0,none⟩) (by show bo<W.heap.size;omega)).trans f1;obtain⟨m4,n4⟩:=cell_of_box k4;obtain⟨m5,n5⟩:=cell_of_box k5;obtain⟨m6,n6⟩:=cell_of_box k6;have hb2:=hI.below.trans (Below.mono hx2 hI.below.size);have VH:bo≠w.heap.size:=(by omega);have bT:bo≠w.heap.size+1:=(by omega);have EY:bo≠w.heap.size+2:=(by omega);clear kp hI;have hq:=fun W=>Lib.run_eql_slice_nil (P:=Tryz.prog) W 33 94 none 0 0 0 0 Tryz.underlying33;gi_wp2;have S0:∀(V:World) (q:Nat) (u:Value) (k:Nat),k≠q→(V.setCell ⟨q,0,none⟩ u).heap[k]?=V.heap[k]?:=fun V q u k hk=>Below.heap_setCell V _ _ k hk;refine⟨(GU hx2).trans (((((KeepsOthers.setCell _ _ _).trans (KeepsOthers.setCell _ _ _)).trans (KeepsOthers.setCell _ _ _)).trans (KeepsOthers.setCell _ _ _)).from _),rfl,?_,?_,?_,?_⟩
   ·rw [S0 _ _ _ _ (by omega),S0 _ _ _ _ (by omega)];exact heap_setCell_box _ ((S0 _ _ _ _ (by omega)).trans k4)
   ·rw [S0 _ _ _ _ (by omega)];exact heap_setCell_box _ ((S0 _ _ _ _ (by omega)).trans ((S0 _ _ _ _ (by omega)).trans k5))
   ·exact heap_setCell_box _ ((S0 _ _ _ _ (by omega)).trans ((S0 _ _ _ _ (by omega)).trans ((S0 _ _ _ _ (by omega)).trans k6)))
   ·exact(((hb2.setCell (p:=⟨bo,0,none⟩) (by show w.heap.size<=bo;omega) _).setCell (p:=⟨w.heap.size,0,none⟩) (AmX _) _).setCell (p:=⟨w.heap.size+1,0,none⟩) (by show w.heap.size<=w.heap.size+1;omega) _).setCell (p:=⟨w.heap.size+2,0,none⟩) (by show w.heap.size<=w.heap.size+2;omega) _
 case done=>
  rintro D ys W hD rfl ⟨hI,KH⟩ hK
  exfalso
  obtain⟨k,hk,hb⟩:=Ad7;have h1:=KH (g k) (List.mem_map_of_mem (List.mem_range.2 hk));rw [hg k hk]at h1;obtain⟨x,hx,h2⟩:=h1.2;exact Rat.not_lt.2 (hb x hx) h2
 case stop=>rintro D cc pre W hD _ ⟨rfl,h4,h5,h6,BV⟩ hK;have m4:=(cell_of_box h4).1;have m5:=(cell_of_box h5).1;have m6:=(cell_of_box h6).1;gi_wp2;refine⟨by simp,.inl ⟨_,_,rfl,run_takeDeferred hK,?_⟩⟩;have K:∀k:Nat,k≠D→(W.putObj D (.deferred none)).heap[k]?=W.heap[k]?:=fun k hk=>World.putObj_heap_other hk;have u4:=(cell_of_box ((K _ (by omega)).trans h4)).1;have u5:=(cell_of_box ((K _ (by omega)).trans h5)).1;have u6:=(cell_of_box ((K _ (by omega)).trans h6)).1;refine⟨.tuple #[.slice none 0 0,.bool false,.int .i64 0],?_,rfl,BV.trans (belowK_b (w:=w) (AmX _) W D _ _ (by omega) hK rfl rfl)⟩;simp [results,Tryz.f102,go_sem,u4,u5,u6]
end
end Go.Proofs.YtbejphgbbpplbaaGreatDoor
namespace Go.Proofs.YtbejphgbbpplbaaGreatDoor
open Go.RowKit Kl
structure Pz where
 b:Nat
 pts:List Pt
 u:Bs
def hQ(e:Pz):List Value:=[.slice (some ⟨e.b,0,none⟩) e.pts.length e.pts.length,S e.u,.slice none 0 0]
def Do(l:List Pz):List Value:=l.flatMap hQ
theorem jz(l:List Pz):(Do l).length=l.length*3:=by
 induction l with
 | nil=>rfl
 | cons h l ih=>simp [Do,hQ]at ih ⊢;omega
theorem jy:∀(l:List Pz) (j:Nat) (h:j<l.length),(Do l)[j*3]?=some (.slice (some ⟨l[j].b,0,none⟩) l[j].pts.length l[j].pts.length)/\(Do l)[j*3+1]?=some (S l[j].u)/\(Do l)[j*3+2]?=some (.slice none 0 0)
 | e::l,0,_=>⟨rfl,rfl,rfl⟩
 | e::l,j+1,h=>by
  have ih:=jy l j (by simpa using h);have e0:Do (e::l)=.slice (some ⟨e.b,0,none⟩) e.pts.length e.pts.length::S e.u :: .slice none 0 0::Do l:=rfl;rw [e0];have e1:(j+1)*3=j*3+1+1+1:=(by omega);rw [e1]
  simpa using ih
theorem Aik(x:Pz)(n:Nat)(hn:x.pts.length=n):(Do [x]).toArray=#[.slice (some ⟨x.b,0,none⟩) n n,.string ⟨x.u.toArray⟩,.slice none 0 0]:=by subst hn;rfl
structure XV(w:World)(e:Pz):Prop where
 blk:w.heap[e.b]?=some (.cells (flat (Ao e.pts)).toArray 94)
 sh:∀p∈e.pts,Hl p
 le:e.pts.length<=4
 un:∃n:Nat,e.u=Ako n
theorem XV.ext{w w':World}{e:Pz}(h:XV w e)(hx:Aa w w'):XV w' e:=⟨(hx.block _ (AmV h.blk)).trans h.blk,h.sh,h.le,h.un⟩
theorem Ae.blk{w:World}{b:Nat}{cs:List Value}{t:TypeId}(h:w.heap[b]?=some (.cells cs.toArray t)):Ae w (some ⟨b,0,none⟩) cs:=
 ⟨fun _=>⟨b,0,rfl,fun j hj=>by rw [Nat.zero_add];exact Ab h (by simp [hj])⟩⟩
def Jc(l:List Pz):List (List Pt×Bs):=l.map fun e=>(e.pts,e.u)
theorem jx(l:List Pz):(Jc l).length=l.length:=by simp [Jc]
section
variable {ops : Array Oper} {rest : List Oper} {o : Oper} {a : Act} {K : Act → World → Prop} {Q : Exit → Act → World → Prop}
theorem AkH(s x:Operand)(ho:o.op=.call {callee:=.builtin .append,args:=#[s,x],argTypes:=#[92,92]})
  (wN:World) (base:Nat) (v:Value) (n:Nat) (l d:List Pz) (hs:a.eval s=v) (hown:wN.ownsRow base 97 3 v n (Do l)) (hn:n<200000) (hd:d.length<=10)
  (g m:Nat) (hm:d.length=m) (hb:wN.heap[g]?=some (.cells (Do d).toArray 97)) (hx:a.eval x=.slice (some ⟨g,0,none⟩) m m) (hbase:base<=wN.heap.size)
  (h:∀v' w',w'.ownsRow base 97 3 v' (n+m) (Do (l++d))→(∀w0,Aa w0 wN→w0.heap.size<=base→Aa w0 w')→wN.grownBy w' v.ownBlock→K (a.put o.dst v') w') :
  o.wp Tryz.prog a wN K Q:=by
 subst hm;obtain⟨i0,hi,hz0,hz1,hz2⟩:=info_parts Tryz.infoPc;refine jP s x 92 ho 97 i0 _ 3 64 d.length Tryz.underlying92 hi hz0 hz1 hz2 rfl (by omega) (by omega) hd wN base v n _ hs hown hn g _ hb (by simp [jz]) ?_ hx hbase ?_
 ·intro u hu;simp only [Do,hQ,List.mem_flatMap,List.mem_cons,Anj,or_false]at hu;obtain⟨y,_,hu⟩:=hu
  rcases hu with rfl|rfl|rfl<;>rfl
 ·intro v' w' h1 h2 h3;refine h v' w' ?_ h2 h3;have:Do (l++d)=Do l++(Do d).toArray.toList:=(by simp [Do]);rw [this];exact h1
theorem zo(hgd:o.guard=none)(s x:Operand)(ho:o.op=.call {callee:=.builtin .append,args:=#[s,x],argTypes:=#[92,92]})
  (wN:World) (base:Nat) (v:Value) (n:Nat) (l d:List Pz) (hs:a.eval s=v) (hown:wN.ownsRow base 97 3 v n (Do l)) (hn:n<200000) (hd:d.length<=10)
  (g m:Nat) (hm:d.length=m) (hb:wN.heap[g]?=some (.cells (Do d).toArray 97)) (hx:a.eval x=.slice (some ⟨g,0,none⟩) m m) (hbase:base<=wN.heap.size)
  (h:∀v' w',w'.ownsRow base 97 3 v' (n+m) (Do (l++d))→(∀w0,Aa w0 wN→w0.heap.size<=base→Aa w0 w')→wN.grownBy w' v.ownBlock→wpList Tryz.prog ops Q rest (a.put o.dst v') w') :
  wpList Tryz.prog ops Q (o::rest) a wN:=
 wpList_plain hgd fun _ hK=>AkH s x ho wN base v n l d hs hown hn hd g m hm hb hx hbase fun v' w' h1 h2 h3=>hK _ _ (h v' w' h1 h2 h3)
end
end Go.Proofs.YtbejphgbbpplbaaGreatDoor
