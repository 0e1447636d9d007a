/- W15. -/
import Derived.Test.YtnfedbopbcegjaaGreatDoorW11
import Derived.Test.YtnfedbopbcegjaaGreatDoorW12
import Derived.Maps.RangeWalk
set_option maxRecDepth 100000
set_option maxHeartbeats 16000000
namespace Go.Proofs.YtnfedbopbcegjaaGreatDoor
open Go.RowKit Kl
theorem Jk(a b:Pt){k:Nat}(ha:A0 k a)(hb:A0 k b)(hk:0<k)(hk2:k<=1)(w:World)(hw:Ak w) :
  Calls Tryz.prog 125 #[Ag a,Ag b] w (AB (AS a b) w):=by
 have c1:=FW a.x b.x (a:=k) (b:=k) ⟨ha.x,hb.x,hk,hk,by omega⟩;have c2:=FW a.y b.y (a:=k) (b:=k) ⟨ha.y,hb.y,hk,hk,by omega⟩;have hE:=((Aa.refl w).alloc (.cells #[S (R a.x),S (R a.y)] 28)).alloc (.cells #[S (R b.x),S (R b.y)] 28);obtain⟨x,hx0⟩:=AjJ (AC a.x b.x);obtain⟨y,Dk⟩:=AjJ (AC a.y b.y)
 have hr:AS a b=if x≠0 then x else y:=by rw [hx0,Dk];rfl
 rw [hr];rw [←hx0]at c1;rw [←Dk]at c2
 have hA:(w.alloc (.cells #[S (R a.x),S (R a.y)] 28)).alloc (.cells #[S (R b.x),S (R b.y)] 28) |>.heap[w.heap.size]?=some (.cells #[S (R a.x),S (R a.y)] 28):=(Below.heap_alloc _ _ _ (by simp)).trans (AjM w _)
 have hB:=AjM (w.alloc (.cells #[S (R a.x),S (R a.y)] 28)) (.cells #[S (R b.x),S (R b.y)] 28);rw [AjU]at hB;obtain⟨r,GU⟩:=AjJ (if x≠0 then x else y:Int);have HRE:=AjK GU;rw [←GU];unfold Ag
 have Rc:∀(b o:Nat) (w:World),w.cell? ⟨b,o,none⟩=some (.int .i64 x)→w.cell? ⟨b,o+1,none⟩=some (.int .i64 y)→Calls Tryz.prog 196 #[.slice (some ⟨b,o,none⟩) 2 2] w (AB r w):=by intro b o w h1 h2;rw [GU];exact ZS x y b o w h1 h2
 clear ha hb hr hx0 Dk GU;go_enter Tryz.func125,Tryz.ntmps125
 go_upto_region 1 with fail
 generalize (w.alloc (.cells #[S (R a.x),S (R a.y)] 28)).alloc (.cells #[S (R b.x),S (R b.y)] 28)=V at *;have hs:=hE.size;obtain⟨ba,AP⟩:=AjJ w.heap.size;rw [←AP]at hA hB ⊢;clear AP hs;have k1:=Ab (o:=0) hA rfl;have k2:=Ab (o:=1) hA rfl;have k3:=Ab (o:=0) hB rfl;have k4:=Ab (o:=1) hB rfl;have hV:=hw.ext hE;clear hA hB
 go_region_held3 (fun w'=>w'.cell? ⟨ba,0,none⟩=some (S (R a.x))/\w'.cell? ⟨ba,1,none⟩=some (S (R a.y))/\w'.cell? ⟨ba+1,0,none⟩=some (S (R b.x))/\w'.cell? ⟨ba+1,1,none⟩=some (S (R b.y)))
  (go_keep)
  (first|((with_reducible refine(c1 _ (hV.ext (Aa.refl V).drew)).mono ?_);rintro e w5 ⟨rfl,An⟩;have X5:Aa V w5:=(Aa.refl V).drew.trans An;have d1:=X5.cellS k1;have d2:=X5.cellS k2;have d3:=X5.cellS k3;have d4:=X5.cellS k4)|((with_reducible refine(c2 _ (hV.ext X5)).mono ?_);rintro e w6 ⟨rfl,AD⟩;have X6:Aa V w6:=X5.trans AD;have f1:=X6.cellS k1;have f2:=X6.cellS k2;have f3:=X6.cellS k3;have f4:=X6.cellS k4)|((with_reducible refine(Rc w6.heap.size 0 (w6.alloc (.cells #[.int .i64 x,.int .i64 y] 3)) (Ab (o:=0) (AjM w6 _) rfl) (Ab (o:=1) (AjM w6 _) rfl)).mono ?_);rintro e w7 ⟨rfl,AQ⟩;have X7:Aa V w7:=(X6.alloc _).trans AQ;have g1:=X7.cellS k1;have g2:=X7.cellS k2;have g3:=X7.cellS k3;have g4:=X7.cellS k4))
 go_wp2;go_ret;exact⟨rfl,hE.trans X7⟩
theorem wG(a b c:Pt){k:Nat}(ha:A0 k a)(hb:A0 k b)(hc:A0 k c)(hk:0<k)(hk2:k<=1)(w:World)(hw:Ak w) :
  Calls Tryz.prog 207 #[Ag a,Ag b,Ag c] w (BK (R (Ar a b c)) w):=by
 have s1:=Fu b.x a.x (a:=k) (b:=k) ⟨hb.x,ha.x,hk,hk,by omega⟩;have s2:=Fu b.y a.y (a:=k) (b:=k) ⟨hb.y,ha.y,hk,hk,by omega⟩;have s3:=Fu c.x a.x (a:=k) (b:=k) ⟨hc.x,ha.x,hk,hk,by omega⟩;have s4:=Fu c.y a.y (a:=k) (b:=k) ⟨hc.y,ha.y,hk,hk,by omega⟩;have m1:=Kk (b.x-a.x) (c.y-a.y) (a:=k+k+1) (b:=k+k+1) ⟨hb.x.sub ha.x,hc.y.sub ha.y,by omega,by omega,by omega⟩;have m2:=Kk (b.y-a.y) (c.x-a.x) (a:=k+k+1) (b:=k+k+1) ⟨hb.y.sub ha.y,hc.x.sub ha.x,by omega,by omega,by omega⟩;have sb:=Fu ((b.x-a.x)*(c.y-a.y)) ((b.y-a.y)*(c.x-a.x)) (a:=k+k+1+(k+k+1)) (b:=k+k+1+(k+k+1)) ⟨(hb.x.sub ha.x).mul (hc.y.sub ha.y),(hb.y.sub ha.y).mul (hc.x.sub ha.x),by omega,by omega,by omega⟩;have e:Ar a b c=(b.x-a.x)*(c.y-a.y)-(b.y-a.y)*(c.x-a.x):=rfl;rw [←e]at sb;obtain⟨r,hr⟩:=AjJ (Ar a b c);rw [←hr]at sb ⊢;unfold Ag;clear ha hb hc e hr;go_enter Tryz.func207,Tryz.ntmps207;(go_wp2_with fail);obtain⟨W,hW,hE,hb1,hb2,hb3⟩:=IA w (.cells #[S (R a.x),S (R a.y)] 28) (.cells #[S (R b.x),S (R b.y)] 28) (.cells #[S (R c.x),S (R c.y)] 28);rw [←hW];clear hW
 have SO:∀w',Aa W w'→(w'.cell? ⟨w.heap.size,0,none⟩=some (S (R a.x))/\w'.cell? ⟨w.heap.size,1,none⟩=some (S (R a.y))/\w'.cell? ⟨w.heap.size+1,0,none⟩=some (S (R b.x))/\w'.cell? ⟨w.heap.size+1,1,none⟩=some (S (R b.y))/\w'.cell? ⟨w.heap.size+1+1,0,none⟩=some (S (R c.x))/\w'.cell? ⟨w.heap.size+1+1,1,none⟩=some (S (R c.y))):=fun w' h=>⟨h.cellS (Ab hb1 rfl),h.cellS (Ab hb1 rfl),h.cellS (Ab hb2 rfl),h.cellS (Ab hb2 rfl),h.cellS (Ab hb3 rfl),h.cellS (Ab hb3 rfl)⟩
 have C6:=hw.ext hE;have X:Aa W W:=Aa.refl W;clear hb1 hb2 hb3
 go_region_held3 (fun w'=>w'.cell? ⟨w.heap.size,0,none⟩=some (S (R a.x))/\w'.cell? ⟨w.heap.size,1,none⟩=some (S (R a.y))/\w'.cell? ⟨w.heap.size+1,0,none⟩=some (S (R b.x))/\w'.cell? ⟨w.heap.size+1,1,none⟩=some (S (R b.y))/\w'.cell? ⟨w.heap.size+1+1,0,none⟩=some (S (R c.x))/\w'.cell? ⟨w.heap.size+1+1,1,none⟩=some (S (R c.y)))
  (first|with_reducible exact SO _ X|with_reducible exact SO _ X.drew)
  (first|((with_reducible refine(s1 _ (C6.ext (by first|exact X|exact X.drew))).mono ?_);rintro e w1 ⟨rfl,hx1⟩;replace X:Aa W w1:=(by first|exact X.trans hx1|exact X.drew.trans hx1))|((with_reducible refine(s2 _ (C6.ext (by first|exact X|exact X.drew))).mono ?_);rintro e w1 ⟨rfl,hx1⟩;replace X:Aa W w1:=(by first|exact X.trans hx1|exact X.drew.trans hx1))|((with_reducible refine(s3 _ (C6.ext (by first|exact X|exact X.drew))).mono ?_);rintro e w1 ⟨rfl,hx1⟩;replace X:Aa W w1:=(by first|exact X.trans hx1|exact X.drew.trans hx1))|((with_reducible refine(s4 _ (C6.ext (by first|exact X|exact X.drew))).mono ?_);rintro e w1 ⟨rfl,hx1⟩;replace X:Aa W w1:=(by first|exact X.trans hx1|exact X.drew.trans hx1))|((with_reducible refine(m1 _ (C6.ext (by first|exact X|exact X.drew))).mono ?_);rintro e w1 ⟨rfl,hx1⟩;replace X:Aa W w1:=(by first|exact X.trans hx1|exact X.drew.trans hx1))|((with_reducible refine(m2 _ (C6.ext (by first|exact X|exact X.drew))).mono ?_);rintro e w1 ⟨rfl,hx1⟩;replace X:Aa W w1:=(by first|exact X.trans hx1|exact X.drew.trans hx1))|((with_reducible refine(sb _ (C6.ext (by first|exact X|exact X.drew))).mono ?_);rintro e w1 ⟨rfl,hx1⟩;replace X:Aa W w1:=(by first|exact X.trans hx1|exact X.drew.trans hx1)))
 go_wp2;go_ret;exact⟨rfl,hE.trans X⟩
theorem Kj(a b c:Pt){k:Nat}(ha:A0 k a)(hb:A0 k b)(hc:A0 k c)(hk:0<k)(hk2:k<=1)(w:World)(hw:Ak w) :
  Calls Tryz.prog 148 #[Ag a,Ag b,Ag c] w (AB (AV (Ar a b c)) w):=by
 have ar:=wG a b c ha hb hc hk hk2;have sg:=aE (Ar a b c);have hE:=(((Aa.refl w).alloc (.cells #[S (R a.x),S (R a.y)] 28)).alloc (.cells #[S (R b.x),S (R b.y)] 28)).alloc (.cells #[S (R c.x),S (R c.y)] 28);unfold Ag at ar ⊢;clear ha hb hc;go_enter Tryz.func148,Tryz.ntmps148;(go_wp2_with fail);(with_reducible refine(ar _ (hw.ext hE)).mono ?_);rintro e w1 ⟨rfl,hx⟩;(go_wp2_with fail);(with_reducible refine(sg _).mono ?_);rintro e w2 ⟨rfl,hx2⟩;go_wp2;go_ret;exact⟨rfl,hE.trans (hx.trans hx2)⟩
def Il(y x:Int):Int:=if 0<y then 0 else if y=0 then (if 0<x then 0 else 1)else 1
def BC(p q:Pt):Int:=Il (AC q.y p.y) (AC q.x p.x)
theorem Aec{y x:Int}(h:0<y):Il y x=0:=if_pos h
theorem Aed{y x:Int}(h:y=0)(hx:0<x):Il y x=0:=by unfold Il;rw [if_neg (by omega),if_pos h,if_pos hx]
theorem Aee{y x:Int}(h:y=0)(hx:¬0<x):Il y x=1:=by unfold Il;rw [if_neg (by omega),if_pos h,if_neg hx]
theorem Aef{y x:Int}(h:y<0):Il y x=1:=by unfold Il;rw [if_neg (by omega),if_neg (by omega)]
theorem wT(p q:Pt){k:Nat}(hp:A0 k p)(hq:A0 k q)(hk:0<k)(hk2:k<=1)(w:World)(hw:Ak w) :
  Calls Tryz.prog 209 #[Ag p,Ag q] w (AB (BC p q) w):=by
 have c1:=FW q.y p.y (a:=k) (b:=k) ⟨hq.y,hp.y,hk,hk,by omega⟩;have c2:=FW q.x p.x (a:=k) (b:=k) ⟨hq.x,hp.x,hk,hk,by omega⟩;unfold BC;generalize AC q.y p.y=y at *;generalize AC q.x p.x=x at *;have hb1:=(Below.heap_alloc (w.alloc (.cells #[S (R p.x),S (R p.y)] 28)) (.cells #[S (R q.x),S (R q.y)] 28) w.heap.size (by simp)).trans (AjM w (.cells #[S (R p.x),S (R p.y)] 28));have hb2:=AjM (w.alloc (.cells #[S (R p.x),S (R p.y)] 28)) (.cells #[S (R q.x),S (R q.y)] 28);rw [AjU]at hb2;have hE:=((Aa.refl w).alloc (.cells #[S (R p.x),S (R p.y)] 28)).alloc (.cells #[S (R q.x),S (R q.y)] 28);unfold Ag;clear hp hq;obtain⟨r,hr⟩:=AjJ (Il y x);rw [←hr];have HR:=AjK hr;clear hr;go_enter Tryz.func209,Tryz.ntmps209
 go_upto_region 1 with fail
 generalize (w.alloc (.cells #[S (R p.x),S (R p.y)] 28)).alloc (.cells #[S (R q.x),S (R q.y)] 28)=V at *;obtain⟨ba,AP⟩:=AjJ w.heap.size;rw [←AP]at hb1 hb2 ⊢;clear AP;have k1:=Ab (o:=0) hb1 rfl;have k2:=Ab (o:=1) hb1 rfl;have k3:=Ab (o:=0) hb2 rfl;have k4:=Ab (o:=1) hb2 rfl;clear hb1 hb2;(go_wp2_with fail);(with_reducible refine(c1 _ (hw.ext hE)).mono ?_);rintro e w1 ⟨rfl,hx1⟩;have j1:=hx1.cellS k1;have j2:=hx1.cellS k2;have j3:=hx1.cellS k3;have j4:=hx1.cellS k4;replace hE:=hE.trans hx1;clear k1 k2 k3 k4 hx1;by_cases y1:0<y
 ·have e0:r=0:=(by rw [HR.out,Aec y1]);subst e0;have d1:decide (0<y)=true:=decide_eq_true y1;clear c2 c1;go_wp2;go_ret;exact⟨rfl,hE⟩
 ·by_cases y0:y=0
  ·subst y0;by_cases x1:0<x
   ·have e0:r=0:=(by rw [HR.out,Aed rfl x1]);subst e0;have d1:decide (0<x)=true:=decide_eq_true x1;clear c1 y1;(go_wp2_with fail);(with_reducible refine(c2 _ (hw.ext hE)).mono ?_);rintro e w2 ⟨rfl,hx2⟩;go_wp2;go_ret;exact⟨rfl,hE.trans hx2⟩
   ·have e0:r=1:=(by rw [HR.out,Aee rfl x1]);subst e0;have d1:decide (0<x)=false:=decide_eq_false x1;have x2:x<=0:=(by omega);clear c1 y1 x1;(go_wp2_with fail);(with_reducible refine(c2 _ (hw.ext hE)).mono ?_);rintro e w2 ⟨rfl,hx2⟩;go_wp2;go_ret;exact⟨rfl,hE.trans hx2⟩
  ·have e0:r=1:=(by rw [HR.out,Aef (by omega)]);subst e0;have d1:decide (0<y)=false:=decide_eq_false y1;have d2:decide (y=0)=false:=decide_eq_false y0;have d3:(y == 0)=false:=(by rw [beq_eq_false_iff_ne];exact y0);have y2:y<0:=(by omega);clear c2 c1 y1;go_wp2;go_ret;exact⟨rfl,hE⟩
def Ji(u v t:Int):Bool:=decide (u<=0)&&(decide (v<=0)&&decide (t=0))
def LK(a b p:Pt):Bool:=Ji (AS a p) (AS p b) (AV (Ar a b p))
def Jl(a b p:Pt):Bool:=if 0<AS a b then LK b a p else LK a b p
theorem Afz(a b p:Pt){k:Nat}(ha:A0 k a)(hb:A0 k b)(hp:A0 k p)(hk:0<k)(hk2:k<=1)(hz:¬0<AS a b)(w:World)(hw:Ak w) :
  Calls Tryz.prog 147 #[Ag a,Ag b,Ag p] w (BE (LK a b p) w):=by
 have c0:=Jk a b ha hb hk hk2;have c1:=Jk a p ha hp hk hk2;have c2:=Jk p b hp hb hk hk2;have c3:=Kj a b p ha hb hp hk hk2;unfold LK;generalize AS a b=z at *;generalize AS a p=u at *;generalize AS p b=v at *;generalize AV (Ar a b p)=t at *;obtain⟨W,hW,hE,hb1,hb2,hb3⟩:=IA w (.cells #[S (R a.x),S (R a.y)] 28) (.cells #[S (R b.x),S (R b.y)] 28) (.cells #[S (R p.x),S (R p.y)] 28);obtain⟨r,hr⟩:=AjJ (Ji u v t);rw [←hr];have HR:=AjK hr;unfold Ag at c0 c1 c2 c3 ⊢;clear ha hb hp hr;go_enter Tryz.func147,Tryz.ntmps147
 go_upto_region 1 with fail
 rw [←hW];clear hW;obtain⟨ba,AP⟩:=AjJ w.heap.size;have hle:w.heap.size<=ba:=(by omega);rw [←AP]at hb1 hb2 hb3 ⊢;clear AP;have k1:=Ab (o:=0) hb1 rfl;have k2:=Ab (o:=1) hb1 rfl;have k3:=Ab (o:=0) hb2 rfl;have k4:=Ab (o:=1) hb2 rfl;(go_wp2_with fail);(with_reducible refine(c0 _ (hw.ext hE)).mono ?_);rintro e w1 ⟨rfl,hx1⟩;replace hb1:=(hx1.block _ (AjL hb1)).trans hb1;replace hb2:=(hx1.block _ (AjL hb2)).trans hb2;replace hb3:=(hx1.block _ (AjL hb3)).trans hb3;replace hE:=hE.trans hx1;clear k1 k2 k3 k4 hx1 c0;have dz:decide (0<z)=false:=decide_eq_false (by omega);have hz':z<=0:=(by omega);clear hz
 go_upto_region 3 with fail
 have Df:=hE;have n1:=hb1;have n2:=hb2;have n3:=hb3;obtain⟨V,hV⟩:=AjJ w1;rw [←hV]at Df n1 n2 n3 ⊢;clear hV hb1 hb2 hb3 hE dz;have k1:=Ab (o:=0) n1 rfl;have k2:=Ab (o:=1) n1 rfl;have k3:=Ab (o:=0) n2 rfl;have k4:=Ab (o:=1) n2 rfl;have k5:=Ab (o:=0) n3 rfl;have k6:=Ab (o:=1) n3 rfl;clear n1 n2 n3;(go_wp2_with fail);(with_reducible refine(c1 _ (hw.ext Df)).mono ?_);rintro e w2 ⟨rfl,hx2⟩;have j1:=hx2.cellS k1;have j2:=hx2.cellS k2;have j3:=hx2.cellS k3;have j4:=hx2.cellS k4;have j5:=hx2.cellS k5;have j6:=hx2.cellS k6;replace Df:=Df.trans hx2;clear k1 k2 k3 k4 k5 k6 hx2 c1;by_cases hu:u<=0
 ·have du:decide (u<=0)=true:=decide_eq_true hu;(go_wp2_with fail);(with_reducible refine(c2 _ (hw.ext Df)).mono ?_);rintro e w3 ⟨rfl,hx3⟩;have i1:=hx3.cellS j1;have i2:=hx3.cellS j2;have i3:=hx3.cellS j3;have i4:=hx3.cellS j4;have i5:=hx3.cellS j5;have i6:=hx3.cellS j6;replace Df:=Df.trans hx3;clear j1 j2 j3 j4 j5 j6 hx3 c2;by_cases hv:v<=0
  ·have dv:decide (v<=0)=true:=decide_eq_true hv;have hrt:r=decide (t=0):=(by rw [HR.out];unfold Ji;rw [du,dv];rfl);have Np:=AjK hrt;clear hrt;(go_wp2_with fail);(with_reducible refine(c3 _ (hw.ext Df)).mono ?_);rintro e w4 ⟨rfl,Aj⟩;go_wp2;go_ret;exact⟨by rw [Np.out];rfl,Df.trans Aj⟩
  ·have dv:decide (v<=0)=false:=decide_eq_false hv;have hrt:r=false:=(by rw [HR.out];unfold Ji;rw [du,dv];rfl);subst hrt;have hv':0<v:=(by omega);clear hv c3;go_wp2;go_ret;exact⟨rfl,Df⟩
 ·have du:decide (u<=0)=false:=decide_eq_false hu;have hrt:r=false:=(by rw [HR.out];unfold Ji;rw [du];rfl);subst hrt;have FS:0<u:=(by omega);clear hu c2 c3;go_wp2;go_ret;exact⟨rfl,Df⟩
theorem Afy(a b p:Pt){k:Nat}(ha:A0 k a)(hb:A0 k b)(hp:A0 k p)(hk:0<k)(hk2:k<=1)(hz:0<AS a b)(w:World)(hw:Ak w) :
  Calls Tryz.prog 147 #[Ag a,Ag b,Ag p] w (BE (LK b a p) w):=by
 have c0:=Jk a b ha hb hk hk2;have c1:=Jk b p hb hp hk hk2;have c2:=Jk p a hp ha hk hk2;have c3:=Kj b a p hb ha hp hk hk2;unfold LK;generalize AS a b=z at *;generalize AS b p=u at *;generalize AS p a=v at *;generalize AV (Ar b a p)=t at *;obtain⟨W,hW,hE,hb1,hb2,hb3⟩:=IA w (.cells #[S (R a.x),S (R a.y)] 28) (.cells #[S (R b.x),S (R b.y)] 28) (.cells #[S (R p.x),S (R p.y)] 28);obtain⟨r,hr⟩:=AjJ (Ji u v t);rw [←hr];have HR:=AjK hr;unfold Ag at c0 c1 c2 c3 ⊢;clear ha hb hp hr;go_enter Tryz.func147,Tryz.ntmps147
 go_upto_region 1 with fail
 rw [←hW];clear hW;obtain⟨ba,AP⟩:=AjJ w.heap.size;have hle:w.heap.size<=ba:=(by omega);rw [←AP]at hb1 hb2 hb3 ⊢;clear AP;have k1:=Ab (o:=0) hb1 rfl;have k2:=Ab (o:=1) hb1 rfl;have k3:=Ab (o:=0) hb2 rfl;have k4:=Ab (o:=1) hb2 rfl;(go_wp2_with fail);(with_reducible refine(c0 _ (hw.ext hE)).mono ?_);rintro e w1 ⟨rfl,hx1⟩;replace hb1:=(hx1.block _ (AjL hb1)).trans hb1;replace hb2:=(hx1.block _ (AjL hb2)).trans hb2;replace hb3:=(hx1.block _ (AjL hb3)).trans hb3;replace hE:=hE.trans hx1;clear k1 k2 k3 k4 hx1 c0;have dz:decide (0<z)=true:=decide_eq_true hz;have k1:=Ab (o:=0) hb1 rfl;have k2:=Ab (o:=1) hb1 rfl;have k3:=Ab (o:=0) hb2 rfl;have k4:=Ab (o:=1) hb2 rfl;have f1:=Ao (o:=0) hb1;have f2:=Ao (o:=1) hb1;have f3:=Ao (o:=0) hb2;have f4:=Ao (o:=1) hb2
 go_upto_region 3 with fail
 obtain⟨V,hV⟩:=AjJ ((((w1.setCell ⟨ba,0,none⟩ (S (R b.x))).setCell ⟨ba,1,none⟩ (S (R b.y))).setCell ⟨ba+1,0,none⟩ (S (R a.x))).setCell ⟨ba+1,1,none⟩ (S (R a.y)));rw [←hV]
 have Df:Aa w V:=by rw [hV];exact(((hE.setCell (p:=⟨ba,0,none⟩) hle _).setCell (p:=⟨ba,1,none⟩) hle _).setCell (p:=⟨ba+1,0,none⟩) (Nat.le_succ_of_le hle) _).setCell (p:=⟨ba+1,1,none⟩) (Nat.le_succ_of_le hle) _
 have n1:V.heap[ba]?=some (.cells #[S (R b.x),S (R b.y)] 28):=by rw [hV,Below.heap_setCell _ _ _ _ (show ba≠ba+1 by omega),Below.heap_setCell _ _ _ _ (show ba≠ba+1 by omega)];exact Ny _ _ hb1
 have n2:V.heap[ba+1]?=some (.cells #[S (R a.x),S (R a.y)] 28):=by rw [hV];exact Ny _ _ (by rw [Below.heap_setCell _ _ _ _ (show ba+1≠ba by omega),Below.heap_setCell _ _ _ _ (show ba+1≠ba by omega)];exact hb2)
 have n3:V.heap[ba+1+1]?=some (.cells #[S (R p.x),S (R p.y)] 28):=by rw [hV,Below.heap_setCell _ _ _ _ (show ba+1+1≠ba+1 by omega),Below.heap_setCell _ _ _ _ (show ba+1+1≠ba+1 by omega),Below.heap_setCell _ _ _ _ (show ba+1+1≠ba by omega),Below.heap_setCell _ _ _ _ (show ba+1+1≠ba by omega)];exact hb3
 clear hV k1 k2 k3 k4 f1 f2 f3 f4 hb1 hb2 hb3 hE dz;have k1:=Ab (o:=0) n1 rfl;have k2:=Ab (o:=1) n1 rfl;have k3:=Ab (o:=0) n2 rfl;have k4:=Ab (o:=1) n2 rfl;have k5:=Ab (o:=0) n3 rfl;have k6:=Ab (o:=1) n3 rfl;clear n1 n2 n3;(go_wp2_with fail);(with_reducible refine(c1 _ (hw.ext Df)).mono ?_);rintro e w2 ⟨rfl,hx2⟩;have j1:=hx2.cellS k1;have j2:=hx2.cellS k2;have j3:=hx2.cellS k3;have j4:=hx2.cellS k4;have j5:=hx2.cellS k5;have j6:=hx2.cellS k6;replace Df:=Df.trans hx2;clear k1 k2 k3 k4 k5 k6 hx2 c1;by_cases hu:u<=0
 ·have du:decide (u<=0)=true:=decide_eq_true hu;(go_wp2_with fail);(with_reducible refine(c2 _ (hw.ext Df)).mono ?_);rintro e w3 ⟨rfl,hx3⟩;have i1:=hx3.cellS j1;have i2:=hx3.cellS j2;have i3:=hx3.cellS j3;have i4:=hx3.cellS j4;have i5:=hx3.cellS j5;have i6:=hx3.cellS j6;replace Df:=Df.trans hx3;clear j1 j2 j3 j4 j5 j6 hx3 c2;by_cases hv:v<=0
  ·have dv:decide (v<=0)=true:=decide_eq_true hv;have hrt:r=decide (t=0):=(by rw [HR.out];unfold Ji;rw [du,dv];rfl);have Np:=AjK hrt;clear hrt;(go_wp2_with fail);(with_reducible refine(c3 _ (hw.ext Df)).mono ?_);rintro e w4 ⟨rfl,Aj⟩;go_wp2;go_ret;exact⟨by rw [Np.out];rfl,Df.trans Aj⟩
  ·have dv:decide (v<=0)=false:=decide_eq_false hv;have hrt:r=false:=(by rw [HR.out];unfold Ji;rw [du,dv];rfl);subst hrt;have hv':0<v:=(by omega);clear hv c3;go_wp2;go_ret;exact⟨rfl,Df⟩
 ·have du:decide (u<=0)=false:=decide_eq_false hu;have hrt:r=false:=(by rw [HR.out];unfold Ji;rw [du];rfl);subst hrt;have FS:0<u:=(by omega);clear hu c2 c3;go_wp2;go_ret;exact⟨rfl,Df⟩
theorem wU(a b p:Pt){k:Nat}(ha:A0 k a)(hb:A0 k b)(hp:A0 k p)(hk:0<k)(hk2:k<=1)(w:World)(hw:Ak w) :
  Calls Tryz.prog 147 #[Ag a,Ag b,Ag p] w (BE (Jl a b p) w):=by
 unfold Jl
 split
 ·exact Afy a b p ha hb hp hk hk2 (by assumption) w hw
 ·exact Afz a b p ha hb hp hk hk2 (by assumption) w hw
structure Ac(W:World) where
 w:World
 h:Aa W w
instance (W:World):Inhabited (Ac W):=⟨⟨W,Aa.refl W⟩⟩
theorem Ac.cell{W:World}{a:Addr}{v:Value}(h:W.cell? a=some v)(p:Ac W):p.w.cell? a=some v:=p.h.cellS h
theorem Bh{P:Program}{id:Nat}{Q:Exit→Act→World→Prop}{a:Act}{W:World}{l:List Oper}(hm:P.follows .mixedOrders=true)(hB:Region.lexB .any l.toArray=true)
  (h:wpQuiet P l.toArray (fun w'=>∃p:Ac W,w'=p.w) (fun a'=>∀w',(∃p:Ac W,w'=p.w)→Q .normal a' w') l a):(Code.region id l.toArray true).wp P Q a W:=
 wp_region_quiet (C:=fun w'=>∃p:Ac W,w'=p.w) hm hB ⟨⟨W.drew,(Aa.refl W).drew⟩,rfl⟩ (by simpa using h)
section
variable {P : Program} {f : FuncId} {args : Array Value} {W : World} {p : Ac W}
theorem Aak{v:Value}(h:Calls P f args p.w (Cp v p.w)):Calls P f args p.w fun e w''=>e=.returned v/\∃q:Ac W,w''=q.w:=
 h.mono fun _ w1 ⟨he,hx⟩=>⟨he,⟨w1,p.h.trans hx⟩,rfl⟩
theorem DI{n:Int}(h:Calls P f args p.w (AB n p.w)):Calls P f args p.w fun e w''=>e=.returned (.int .i64 n)/\∃q:Ac W,w''=q.w:=
 h.mono fun _ w1 ⟨he,hx⟩=>⟨he,⟨w1,p.h.trans hx⟩,rfl⟩
theorem Mn{l:Bs}(h:Calls P f args p.w (BK l p.w)):Calls P f args p.w fun e w''=>e=.returned (S l)/\∃q:Ac W,w''=q.w:=
 h.mono fun _ w1 ⟨he,hx⟩=>⟨he,⟨w1,p.h.trans hx⟩,rfl⟩
theorem SH{b:Bool}(h:Calls P f args p.w (BE b p.w)):Calls P f args p.w fun e w''=>e=.returned (.bool b)/\∃q:Ac W,w''=q.w:=
 h.mono fun _ w1 ⟨he,hx⟩=>⟨he,⟨w1,p.h.trans hx⟩,rfl⟩
end
def Ah(p q:Pt):Bool:=decide (p.x=q.x)&&decide (p.y=q.y)
theorem BN{p q:Pt} : Ah p q=true↔p=q:=by
 unfold Ah;rw [Bool.and_eq_true,decide_eq_true_eq,decide_eq_true_eq];constructor
 ·rintro⟨h1,h2⟩
  cases p;cases q;simp_all
 ·rintro rfl;exact⟨rfl,rfl⟩
theorem I8(p q:Rat):(R p == R q)=decide (p=q):=by
 by_cases h:p=q
 ·subst h;simp
 ·rw [decide_eq_false h,beq_eq_false_iff_ne];exact fun e=>h (Sf e)
theorem OH(p q:Pt)(W:World):(binOp .eql 28 (.agg #[S (R p.x),S (R p.y)]) (.agg #[S (R q.x),S (R q.y)])).run Tryz.prog W=.ok (.bool (Ah p q)) W:=by
 unfold Ah;rw [←I8,←I8]
 cases b1:(R p.x == R q.x)<;>cases b2:(R p.y == R q.y)<;>simp [go_sem,b1,b2]
theorem Rr(p q:Pt)(W:World):(binOp .neq 28 (.agg #[S (R p.x),S (R p.y)]) (.agg #[S (R q.x),S (R q.y)])).run Tryz.prog W=.ok (.bool (!Ah p q)) W:=by
 unfold Ah;rw [←I8,←I8]
 cases b1:(R p.x == R q.x)<;>cases b2:(R p.y == R q.y)<;>simp [go_sem,b1,b2]
theorem Ru(q:Rat):-1<=AV q/\AV q<=1:=by unfold AV;split<;>(try split)<;>omega
def J2(x y z:Pt):Bool:=Jl x y z&&(!Ah z x && !Ah z y)
def UZ(a b c d:Pt):Bool:=Ah a c||(Ah a d||(Ah b c||Ah b d))
def Jo(a b c:Pt):Int:=AV (Ar a b c)
def O7(a b c d:Pt):Bool:=decide (Jo a b c*Jo a b d<0)&&decide (Jo c d a*Jo c d b<0)
def Hi(a b c d:Pt):List (Pt×Pt×Pt):=[(c,d,a),(c,d,b),(a,b,c),(a,b,d)]
def LL(a b c d:Pt):Bool:=(Hi a b c d).any (fun t=>J2 t.1 t.2.1 t.2.2)||(!UZ a b c d&&O7 a b c d)
def OO(a b c d:Pt):Array Value:=#[S (R c.x),S (R c.y),S (R d.x),S (R d.y),S (R a.x),S (R a.y),S (R c.x),S (R c.y),S (R d.x),S (R d.y),S (R b.x),S (R b.y),S (R a.x),S (R a.y),S (R b.x),S (R b.y),S (R c.x),S (R c.y),S (R a.x),S (R a.y),S (R b.x),S (R b.y),S (R d.x),S (R d.y)]
theorem Ahl(a b c d:Pt){k:Nat}(ha:A0 k a)(hb:A0 k b)(hc:A0 k c)(hd:A0 k d){j:Nat}(hj:j<4) :
  ∃x y z:Pt,(∀W,(Instr.index 230 (.agg (OO a b c d)) (.int .i64 (j:Nat))).run Tryz.prog W=.ok (.agg #[S (R x.x),S (R x.y),S (R y.x),S (R y.y),S (R z.x),S (R z.y)]) W)/\(Hi a b c d)[j]?=some (x,y,z)/\A0 k x/\A0 k y/\A0 k z:=by
 obtain rfl|rfl|rfl|rfl:j=0∨j=1∨j=2∨j=3:=by omega
 ·exact⟨c,d,a,fun W=>by unfold OO;kernel_rfl,rfl,hc,hd,ha⟩
 ·exact⟨c,d,b,fun W=>by unfold OO;kernel_rfl,rfl,hc,hd,hb⟩
 ·exact⟨a,b,c,fun W=>by unfold OO;kernel_rfl,rfl,ha,hb,hc⟩
 ·exact⟨a,b,d,fun W=>by unfold OO;kernel_rfl,rfl,ha,hb,hd⟩
theorem tj(w:World)(o1 o2 o3 o4:Obj):∃W,W=(((w.alloc o1).alloc o2).alloc o3).alloc o4/\Aa w W/\W.heap[w.heap.size]?=some o1/\W.heap[w.heap.size+1]?=some o2/\W.heap[w.heap.size+1+1]?=some o3/\W.heap[w.heap.size+1+1+1]?=some o4:=by
 obtain⟨V,hV,hE,h1,h2,h3⟩:=IA w o1 o2 o3;have hs:V.heap.size=w.heap.size+1+1+1:=(by rw [hV];simp);have h4:=AjM V o4;have hx:=(Aa.refl V).alloc o4;rw [hs]at h4;exact⟨V.alloc o4,by rw [hV],hE.alloc o4,(hx.block _ (AjL h1)).trans h1,(hx.block _ (AjL h2)).trans h2,(hx.block _ (AjL h3)).trans h3,h4⟩
theorem Afn(a b c d:Pt){k:Nat}(ha:A0 k a)(hb:A0 k b)(hc:A0 k c)(hd:A0 k d)(hk:0<k)(hk2:k<=1)(w:World)(hw:Ak w) :
  Calls Tryz.prog 83 #[Ag a,Ag b,Ag c,Ag d] w (BE (LL a b c d) w):=by
 have t1:=Kj a b c ha hb hc hk hk2;have t2:=Kj a b d ha hb hd hk hk2;have t3:=Kj c d a hc hd ha hk hk2;have t4:=Kj c d b hc hd hb hk hk2;have U2:=@Ahl a b c d k ha hb hc hd;unfold OO at U2;have r1:=Ru (Ar a b c);have r2:=Ru (Ar a b d);have r3:=Ru (Ar c d a);have r4:=Ru (Ar c d b);obtain⟨r,hr⟩:=AjJ (LL a b c d);rw [←hr];have HR:=AjK hr;have HP:=AjK (show O7 a b c d=(decide (Jo a b c*Jo a b d<0)&&decide (Jo c d a*Jo c d b<0))from rfl);have Nq:=AjK (show UZ a b c d=(Ah a c||(Ah a d||(Ah b c||Ah b d)))from rfl);have pe:=OH;have pn:=Rr;unfold Ag at t1 t2 t3 t4 ⊢;obtain⟨W,hW,hE,hb1,hb2,hb3,hb4⟩:=tj w (.cells #[S (R a.x),S (R a.y)] 28) (.cells #[S (R b.x),S (R b.y)] 28) (.cells #[S (R c.x),S (R c.y)] 28) (.cells #[S (R d.x),S (R d.y)] 28);clear hr ha hb hc hd;go_enter Tryz.func83,Tryz.ntmps83
 go_upto_region 1 with fail
 rw [←hW];clear hW;obtain⟨ba,AP⟩:=AjJ w.heap.size;rw [←AP]at hb1 hb2 hb3 hb4 ⊢;clear AP;have k1:=Ab (o:=0) hb1 rfl;have k2:=Ab (o:=1) hb1 rfl;have k3:=Ab (o:=0) hb2 rfl;have k4:=Ab (o:=1) hb2 rfl;have k5:=Ab (o:=0) hb3 rfl;have k6:=Ab (o:=1) hb3 rfl;have k7:=Ab (o:=0) hb4 rfl;have k8:=Ab (o:=1) hb4 rfl
 go_cut [9] (fun v9 wx=>∃sh,v9=.bool sh/\sh=UZ a b c d/\wx=W)
 case first=>
  cases e1:Ah a c
  ·cases e2:Ah a d
   ·cases e3:Ah b c
    ·cases e4:Ah b d
     ·go_wp2;go_meet;exact⟨_,rfl,by rw [Nq.out,e1,e2,e3,e4];rfl,rfl⟩
     ·go_wp2;go_meet;exact⟨_,rfl,by rw [Nq.out,e1,e2,e3,e4];rfl,rfl⟩
    ·go_wp2;go_meet;exact⟨_,rfl,by rw [Nq.out,e1,e2,e3];rfl,rfl⟩
   ·go_wp2;go_meet;exact⟨_,rfl,by rw [Nq.out,e1,e2];rfl,rfl⟩
  ·go_wp2;go_meet;exact⟨_,rfl,by rw [Nq.out,e1];rfl,rfl⟩
 case rest=>
  obtain⟨sh,rfl,Oq,rfl⟩:=hcut;have I4:=AjK Oq;clear Oq Nq;have C6:=hw.ext hE
  go_upto_region 3 with fail
  go_loopw [47] (fun i wr=>∃j:Nat,i=.int .i64 (j:Nat)/\j<=4/\(∀t∈(Hi a b c d).take j,J2 t.1 t.2.1 t.2.2=false)/\Aa wc wr) (fun i _=>4-(intOf i).toNat)
  case atStart=>exact⟨0,rfl,by omega,by simp,Aa.refl _⟩
  case round=>
   obtain⟨j,rfl,hj,Ai,Ae⟩:=hrel;have HO:=AjK Ai;clear Ai;by_cases hlt:j<4
   ·obtain⟨x,y,z,hix,DR,zx,zy,zz⟩:=U2 hlt;have O1:=wU x y z zx zy zz hk hk2;have HX:=AjK (show J2 x y z=(Jl x y z&&(!Ah z x && !Ah z y))from rfl);have HG:=AjK DR;have hj0:(j:Int)<4:=(by omega);unfold Ag at O1;clear DR U2 zx zy zz t1 t2 t3 t4 r1 r2 r3 r4 k1 k2 k3 k4 k5 k6 k7 k8 hb1 hb2 hb3 hb4
    go_upto_region 5 with fail
    have CL:=AjM wr (.cells #[S (R x.x),S (R x.y),S (R y.x),S (R y.y),S (R z.x),S (R z.y)] 229);have Ig:=Ae.alloc (.cells #[S (R x.x),S (R x.y),S (R y.x),S (R y.y),S (R z.x),S (R z.y)] 229);generalize wr.alloc (.cells #[S (R x.x),S (R x.y),S (R y.x),S (R y.y),S (R z.x),S (R z.y)] 229)=V at *;obtain⟨bv,nL⟩:=AjJ wr.heap.size;rw [←nL]at CL ⊢;clear nL;have s1:=Ab (o:=0) CL rfl;have s2:=Ab (o:=1) CL rfl;have s3:=Ab (o:=2) CL rfl;have s4:=Ab (o:=3) CL rfl;have s5:=Ab (o:=4) CL rfl;have s6:=Ab (o:=5) CL rfl;(go_wp2_with fail);(with_reducible refine(O1 _ (C6.ext Ig)).mono ?_);rintro e w1 ⟨rfl,hx1⟩;have C2:=(hx1.block _ (AjL CL)).trans CL;have hxb:=Ig.trans hx1;have q1:=Ab (o:=0) C2 rfl;have q2:=Ab (o:=1) C2 rfl;have q3:=Ab (o:=2) C2 rfl;have q4:=Ab (o:=3) C2 rfl;have q5:=Ab (o:=4) C2 rfl;have q6:=Ab (o:=5) C2 rfl;clear s1 s2 s3 s4 s5 s6 CL hx1 Ig O1 C2
    have hgo:J2 x y z=false→∀t∈(Hi a b c d).take (j+1),J2 t.1 t.2.1 t.2.2=false:=by
     intro h0 t ht;have hl:j<(Hi a b c d).length:=hlt;rw [AjQ hl]at ht
     rcases List.mem_append.1 ht with h|h
     ·exact HO.out t h
     ·have e0:(Hi a b c d)[j]=(x,y,z):=Option.some.inj ((AjS hl).symm.trans HG.out);rw [e0,AjZ]at h;rw [h];exact h0
    have hst:J2 x y z=true→r=true:=by
     intro h0;rw [HR.out];unfold LL;rw [Bool.or_eq_true]
     left
     rw [List.any_eq_true];exact⟨(x,y,z),List.mem_of_getElem? HG.out,h0⟩
    have Vw:=AjK hgo;have HST:=AjK hst;clear hgo hst
    cases e0:Jl x y z
    ·have HE:=AjK e0;clear e0;go_wp2;go_roundw
     case rel=>exact⟨j+1,by go_num,by omega,Vw.out (by rw [HX.out,HE.out];rfl),hxb⟩
     case measure=>simp [intOf];omega
    ·cases e1:Ah z x
     ·cases e2:Ah z y
      ·have HE:=AjK (And.intro e0 (And.intro e1 e2));have hrt:r=true:=HST.out (by rw [HX.out,e0,e1,e2];rfl);subst hrt;go_wp2;go_ret;exact⟨rfl,hE.trans hxb⟩
      ·have HE:=AjK (And.intro e0 (And.intro e1 e2));go_wp2;go_roundw
       case rel=>exact⟨j+1,by go_num,by omega,Vw.out (by rw [HX.out,HE.out.1,HE.out.2.1,HE.out.2.2];rfl),hxb⟩
       case measure=>simp [intOf];omega
     ·have HE:=AjK (And.intro e0 e1);go_wp2;go_roundw
      case rel=>exact⟨j+1,by go_num,by omega,Vw.out (by rw [HX.out,HE.out.1,HE.out.2];rfl),hxb⟩
      case measure=>simp [intOf];omega
   ·have hle:(4:Int)<=(j:Int):=(by omega);obtain rfl:j=4:=by omega
    have hno:(Hi a b c d).any (fun t=>J2 t.1 t.2.1 t.2.2)=false:=by rw [List.any_eq_false];intro t ht;rw [HO.out t (by rw [AjV (by simp [Hi])];exact ht)];simp
    have FQ:r=(!sh&&O7 a b c d):=(by rw [HR.out,I4.out];unfold LL;rw [hno];rfl);have V8:=AjK FQ;replace hb1:=(Ae.block _ (AjL hb1)).trans hb1;replace hb2:=(Ae.block _ (AjL hb2)).trans hb2;replace hb3:=(Ae.block _ (AjL hb3)).trans hb3;replace hb4:=(Ae.block _ (AjL hb4)).trans hb4;replace hE:=hE.trans Ae;clear k1 k2 k3 k4 k5 k6 k7 k8 hno FQ HO I4 C6 Ae U2
    cases sh
    ·have k1:∀p:Ac wr,p.w.cell? ⟨ba,0,none⟩=some (S (R a.x)):=Ac.cell (Ab hb1 rfl);have k2:∀p:Ac wr,p.w.cell? ⟨ba,1,none⟩=some (S (R a.y)):=Ac.cell (Ab hb1 rfl);have k3:∀p:Ac wr,p.w.cell? ⟨ba+1,0,none⟩=some (S (R b.x)):=Ac.cell (Ab hb2 rfl);have k4:∀p:Ac wr,p.w.cell? ⟨ba+1,1,none⟩=some (S (R b.y)):=Ac.cell (Ab hb2 rfl);have k5:∀p:Ac wr,p.w.cell? ⟨ba+1+1,0,none⟩=some (S (R c.x)):=Ac.cell (Ab hb3 rfl);have k6:∀p:Ac wr,p.w.cell? ⟨ba+1+1,1,none⟩=some (S (R c.y)):=Ac.cell (Ab hb3 rfl);have k7:∀p:Ac wr,p.w.cell? ⟨ba+1+1+1,0,none⟩=some (S (R d.x)):=Ac.cell (Ab hb4 rfl);have k8:∀p:Ac wr,p.w.cell? ⟨ba+1+1+1,1,none⟩=some (S (R d.y)):=Ac.cell (Ab hb4 rfl);have hwr:=hw.ext hE;have Gs:r=O7 a b c d:=(by rw [V8.out];simp);rw [HP.out]at Gs;unfold Jo at Gs;generalize AV (Ar a b c)=u1 at *;generalize AV (Ar a b d)=u2 at *;generalize AV (Ar c d a)=u3 at *;generalize AV (Ar c d b)=u4 at *;obtain⟨UA,FA⟩:=AjJ (u1*u2);obtain⟨m34,PO⟩:=AjJ (u3*u4)
     have w12:IntKind.i64.wrap (u1*u2)=UA:=by
      rw [FA];clear FA PO Gs;obtain rfl|rfl|rfl:u1 = -1∨u1=0∨u1=1:=by omega
      all_goals (obtain rfl|rfl|rfl:u2 = -1∨u2=0∨u2=1:=by omega)
      all_goals rfl
     have w34:IntKind.i64.wrap (u3*u4)=m34:=by
      rw [PO];clear FA PO Gs;obtain rfl|rfl|rfl:u3 = -1∨u3=0∨u3=1:=by omega
      all_goals (obtain rfl|rfl|rfl:u4 = -1∨u4=0∨u4=1:=by omega)
      all_goals rfl
     rw [←FA,←PO]at Gs;clear hb1 hb2 hb3 hb4 r1 r2 r3 r4 V8 HP FA PO;by_cases n1:UA<0
     ·have d1:decide (UA<0)=true:=decide_eq_true n1;rw [d1,Bool.true_and]at Gs;have kh:=AjK Gs;clear Gs n1
      go_upto_region 8 with fail
      refine Bh (by kernel_rfl) (by kernel_rfl) ?_
      repeat (go_big_quiet_step (first|(with_reducible refine DI (t1 _ (hwr.ext (Ac.h _))))|(with_reducible refine DI (t2 _ (hwr.ext (Ac.h _))))|(with_reducible refine DI (t3 _ (hwr.ext (Ac.h _))))|(with_reducible refine DI (t4 _ (hwr.ext (Ac.h _))))))
      refine wpQuiet_nil ?_;rintro _ ⟨p,rfl⟩;go_wp2;go_ret;exact⟨by rw [kh.out];rfl,hE.trans p.h⟩
     ·have d1:decide (UA<0)=false:=decide_eq_false n1;rw [d1,Bool.false_and]at Gs;subst Gs;clear t3 t4 n1
      go_upto_region 8 with fail
      refine Bh (by kernel_rfl) (by kernel_rfl) ?_
      repeat (go_big_quiet_step (first|(with_reducible refine DI (t1 _ (hwr.ext (Ac.h _))))|(with_reducible refine DI (t2 _ (hwr.ext (Ac.h _))))|(with_reducible refine DI (t3 _ (hwr.ext (Ac.h _))))|(with_reducible refine DI (t4 _ (hwr.ext (Ac.h _))))))
      refine wpQuiet_nil ?_;rintro _ ⟨p,rfl⟩;go_wp2;go_ret;exact⟨rfl,hE.trans p.h⟩
    ·have hrt:r=false:=(by rw [V8.out];rfl);subst hrt
     go_upto_region 8 with fail
     refine Bh (by kernel_rfl) (by kernel_rfl) ?_
     repeat (go_big_quiet_step (first|(with_reducible refine DI (t1 _ (hwr.ext (Ac.h _))))|(with_reducible refine DI (t2 _ (hwr.ext (Ac.h _))))|(with_reducible refine DI (t3 _ (hwr.ext (Ac.h _))))|(with_reducible refine DI (t4 _ (hwr.ext (Ac.h _))))))
     refine wpQuiet_nil ?_;rintro _ ⟨p,rfl⟩;go_wp2;go_ret;exact⟨rfl,hE.trans p.h⟩
def Dl(l:List Pt)(p:Pt):Int:=match l.findIdx? (Ah p)with|some j=>(j:Int)|none=>-1
theorem tJ{l:List Pt}{p:Pt}{j:Nat}(hj:j<l.length)(hno:∀q∈l.take j,Ah p q=false)(h:Ah p l[j]=true):Dl l p=(j:Int):=by
 unfold Dl
 have:l.findIdx? (Ah p)=some j:=by rw [List.findIdx?_eq_some_iff_getElem];refine⟨hj,h,fun i hi=>?_⟩;rw [Bool.not_eq_true];refine hno l[i] ?_;rw [List.mem_take_iff_getElem];exact⟨i,by omega,rfl⟩
 rw [this]
theorem tK{l:List Pt}{p:Pt}(hno:∀q∈l,Ah p q=false):Dl l p = -1:=by
 unfold Dl
 have:l.findIdx? (Ah p)=none:=by rw [List.findIdx?_eq_none_iff];exact hno
 rw [this]
theorem Adl(l:List Pt)(p:Pt):decide (0<=Dl l p)=l.any (Ah p):=by
 unfold Dl
 cases h:l.findIdx? (Ah p)with
 | none=>
  rw [List.findIdx?_eq_none_iff]at h
  symm
  simp only [Int.reduceNeg,Int.reduceLE,decide_false,List.any_eq_false];intro x hx;rw [h x hx];simp
 | some j=>
  rw [List.findIdx?_eq_some_iff_getElem]at h;obtain⟨hj,h1,_⟩:=h;rw [decide_eq_true (by simp)]
  symm
  rw [List.any_eq_true];exact⟨_,AjO hj,h1⟩
theorem tP(l:List Pt)(p:Pt)(A:Option Addr)(c:Nat)(w:World)(hr:Ad w A (flat (Aq l)))(hc:l.length<=c)(hcm:c<=9223372036854775807) :
  Calls Tryz.prog 143 #[.slice A l.length c,Ag p] w (AB (Dl l p) w):=by
 have pe:=OH;have hb0:=AjM w (.cells #[S (R p.x),S (R p.y)] 28);have hE:=(Aa.refl w).alloc (.cells #[S (R p.x),S (R p.y)] 28);obtain⟨r,hr0⟩:=AjJ (Dl l p);rw [←hr0];have HR:=AjK hr0;unfold Ag;clear hr0;go_enter Tryz.func143,Tryz.ntmps143
 go_upto_region 2 with fail
 generalize w.alloc (.cells #[S (R p.x),S (R p.y)] 28)=V at *;obtain⟨bp,Aw⟩:=AjJ w.heap.size;rw [←Aw]at hb0 ⊢;clear Aw
 go_loopw [8] (fun i wr=>∃j:Nat,i=.int .i64 (j:Nat)/\j<=l.length/\(∀q∈l.take j,Ah p q=false)/\Aa V wr) (fun i _=>l.length-(intOf i).toNat)
 case atStart=>exact⟨0,rfl,by omega,by simp,Aa.refl _⟩
 case round=>
  obtain⟨j,rfl,hj,Ai,Ae⟩:=hrel;have HO:=AjK Ai;clear Ai;have hbr:=(Ae.block _ (AjL hb0)).trans hb0;have s1:=Ab (o:=0) hbr rfl;have s2:=Ab (o:=1) hbr rfl;clear hbr;by_cases hlt:j<l.length
  ·obtain⟨b,o,rfl,hg1,hg2⟩:=CX (hr.ext (hE.trans Ae)) hlt;obtain⟨q,hq⟩:=AjJ (l[j]);rw [←hq]at hg1 hg2;have hj0:(0:Int)<=(j:Int):=(by omega);have Ay:(j:Int)<(l.length:Int):=(by omega);have HQ:=AjK hq;clear hq
   cases e0:Ah p q
   ·have HE:=AjK e0
    go_upto_region 4 with fail
    go_quiet (fail)
    go_wp2;go_roundw
    case rel=>
     refine⟨j+1,by go_num,hlt,?_,Ae.drewN _⟩;intro x hx;rw [AjQ hlt,←HQ.out]at hx
     rcases List.mem_append.1 hx with h|h
     ·exact HO.out x h
     ·simp only [AjZ]at h;rw [h];exact HE.out
    case measure=>simp [intOf];omega
   ·have Cu:r=(j:Int):=(by rw [HR.out];exact tJ hlt HO.out (by rw [←HQ.out];exact e0));subst Cu
    go_upto_region 4 with fail
    go_quiet (fail)
    go_wp2;go_ret;exact⟨rfl,(hE.trans Ae).drewN _⟩
  ·have hle:(l.length:Int)<=(j:Int):=(by omega);have Cu:r = -1:=(by rw [HR.out];exact tK (by have:=HO.out;rw [AjV (by omega)]at this;exact this));subst Cu;clear s1 s2;go_wp2;go_ret;exact⟨rfl,hE.trans Ae⟩
theorem contains_c(l:List Pt)(p:Pt)(A:Option Addr)(c:Nat)(w:World)(hr:Ad w A (flat (Aq l)))(hc:l.length<=c)(hcm:c<=9223372036854775807) :
  Calls Tryz.prog 81 #[.slice A l.length c,Ag p] w (BE (l.any (Ah p)) w):=by
 have hE:=(Aa.refl w).alloc (.cells #[S (R p.x),S (R p.y)] 28);have ix:=tP l p A c (w.alloc (.cells #[S (R p.x),S (R p.y)] 28)) (hr.ext hE) hc hcm;have ha:=Adl l p;obtain⟨r,hr0⟩:=AjJ (l.any (Ah p));rw [←hr0]at ha ⊢;generalize Dl l p=z at *;unfold Ag at ix ⊢;clear hr hr0;go_enter Tryz.func81,Tryz.ntmps81;(go_wp2_with fail);(with_reducible refine ix.mono ?_);rintro e w1 ⟨rfl,hx⟩;go_wp2;go_ret;exact⟨by rw [←ha];rfl,hE.trans hx⟩
/-! ### Edges -/
structure Au where
 f:Int
 t:Int
 l:Int
 r:Int
def KZ(e:Au):Value:=.agg #[.int .i64 e.f,.int .i64 e.t,.int .i64 e.l,.int .i64 e.r]
def AA(l:List Au):List Value:=l.flatMap (fun e=>[.int .i64 e.f,.int .i64 e.t,.int .i64 e.l,.int .i64 e.r])
theorem Wx(l:List Au):(AA l).length=l.length*4:=by
 induction l with
 | nil=>rfl
 | cons e l ih=>unfold AA at *;simp only [List.flatMap_cons,List.length_append,ih,List.length_cons,List.length_nil];omega
theorem jD:∀(l:List Au) (j:Nat) (h:j<l.length),(AA l)[j*4]?=some (.int .i64 l[j].f)/\(AA l)[j*4+1]?=some (.int .i64 l[j].t)/\(AA l)[j*4+2]?=some (.int .i64 l[j].l)/\(AA l)[j*4+3]?=some (.int .i64 l[j].r)
 | e::l,0,_=>⟨rfl,rfl,rfl,rfl⟩
 | e::l,j+1,h=>by
  have ih:=jD l j (by simpa using h);have e0:AA (e::l)=.int .i64 e.f :: .int .i64 e.t :: .int .i64 e.l :: .int .i64 e.r::AA l:=rfl;rw [e0];have e1:(j+1)*4=j*4+1+1+1+1:=(by omega);rw [e1]
  simpa using ih
theorem OC{w:World}{A:Option Addr}{l:List Au}(hr:Ad w A (AA l)){j:Nat}(h:j<l.length):∃b o,A=some ⟨b,o,none⟩/\w.cell? ⟨b,o+j*4,none⟩=some (.int .i64 l[j].f)/\w.cell? ⟨b,o+j*4+1,none⟩=some (.int .i64 l[j].t)/\w.cell? ⟨b,o+j*4+2,none⟩=some (.int .i64 l[j].l)/\w.cell? ⟨b,o+j*4+3,none⟩=some (.int .i64 l[j].r):=by
 have hl:=Wx l;obtain⟨b,o,e,hcs⟩:=hr.ad (by omega);obtain⟨f1,f2,f3,f4⟩:=jD l j h;have g1:=hcs (j*4) (by omega);have g2:=hcs (j*4+1) (by omega);have g3:=hcs (j*4+2) (by omega);have g4:=hcs (j*4+3) (by omega);rw [AjS (by omega),AjR]at f1 f2 f3 f4;rw [f1]at g1;rw [f2,←Nat.add_assoc]at g2;rw [f3,←Nat.add_assoc]at g3;rw [f4,←Nat.add_assoc]at g4;exact⟨b,o,e,g1,g2,g3,g4⟩
theorem Agu{P:Program}{w:World}(ts:Array TypeId)(t:TypeId)(k:IntKind)(a b:Int):(Builtin.min_ ts t #[.int k a,.int k b]).run P w=.ok (.int k (min a b)) w:=by
 have m:∀x y:Int,(if y<x then y else x)=min x y:=(by intro x y;split<;>omega);simp only [Builtin.min_,List.foldlM_cons,List.foldlM_nil,Builtin.min2];simp [m]
theorem Ags{P:Program}{w:World}(ts:Array TypeId)(t:TypeId)(k:IntKind)(a b:Int):(Builtin.max_ ts t #[.int k a,.int k b]).run P w=.ok (.int k (max a b)) w:=by
 have m:∀x y:Int,(if y>x then y else x)=max x y:=(by intro x y;split<;>omega);simp only [Builtin.max_,List.foldlM_cons,List.foldlM_nil,Builtin.max2];simp [m]
def EN(f e:Au):Bool:=(decide (f.f=e.f)&&decide (f.t=e.t))||(decide (f.f=e.t)&&decide (f.t=e.f))
theorem yo(f e:Au)(b:Nat)(t:TypeId)(w:World)(hb:w.heap[b]?=some (.cells #[.int .i64 e.f,.int .i64 e.t,.int .i64 e.l,.int .i64 e.r] t)) :
  Calls Tryz.prog 146 #[KZ f,.pointer (some ⟨b,0,none⟩)] w (BE (EN f e) w):=by
 have k1:=Ab (o:=0) hb rfl;have k2:=Ab (o:=1) hb rfl;have hx:=(Aa.refl w).alloc (.cells #[.int .i64 f.f,.int .i64 f.t,.int .i64 f.l,.int .i64 f.r] 119);have j1:=hx.cellS k1;have j2:=hx.cellS k2;obtain⟨r,hr⟩:=AjJ (EN f e);rw [←hr];have HR:=AjK hr;have FQ:r=((f.f == e.f)&&(f.t == e.t)||(f.f == e.t)&&(f.t == e.f)):=hr;unfold KZ;clear hr hb k1 k2 HR
 cases h1:(f.f == e.f)<;>cases h2:(f.t == e.t)<;>cases h3:(f.f == e.t)<;>cases h4:(f.t == e.f)
 all_goals (
  rw [h1,h2,h3,h4]at FQ;have HH:=AjK FQ;clear FQ;go_enter Tryz.func146,Tryz.ntmps146;go_wp2;go_ret
  exact⟨by rw [HH.out];rfl,hx⟩)
def DZ(n:Nat)(z:Int):Bool:=decide (-1<=z)&&decide (z<(n:Int))
theorem yZ(z:Int)(b n g:Nat)(F:Option Addr)(v0 v1:Value)(t:TypeId)(w:World)(hb:w.heap[b]?=some (.cells #[v0,v1,.slice F n g] t)) :
  Calls Tryz.prog 144 #[.int .i64 z,.pointer (some ⟨b,0,none⟩)] w (BE (DZ n z) w):=by
 have k1:=Ab (o:=2) hb rfl;obtain⟨r,hr⟩:=AjJ (DZ n z);rw [←hr];have HR:=AjK hr;clear hr hb;by_cases h1:-1<=z
 ·have d1:decide (-1<=z)=true:=decide_eq_true h1;by_cases h2:z<(n:Int)
  ·have d2:decide (z<(n:Int))=true:=decide_eq_true h2;have HH:=AjK (show r=true by rw [HR.out];unfold DZ;rw [d1,d2];rfl);go_enter Tryz.func144,Tryz.ntmps144;go_wp2;go_ret;exact⟨by rw [HH.out];rfl,Aa.refl _⟩
  ·have d2:decide (z<(n:Int))=false:=decide_eq_false h2;have HH:=AjK (show r=false by rw [HR.out];unfold DZ;rw [d1,d2];rfl);clear h2;go_enter Tryz.func144,Tryz.ntmps144;go_wp2;go_ret;exact⟨by rw [HH.out];rfl,Aa.refl _⟩
 ·have d1:decide (-1<=z)=false:=decide_eq_false h1;have HH:=AjK (show r=false by rw [HR.out];unfold DZ;rw [d1];rfl);clear h1;go_enter Tryz.func144,Tryz.ntmps144;go_wp2;go_ret;exact⟨by rw [HH.out];rfl,Aa.refl _⟩
def m8(l:List Au)(e0:Au)(w:World)(e:Ending)(w':World):Prop:=∃k:Int,e=.returned (.int .i64 k)/\(0<=k↔∃p∈l,EN p e0=true)/\Aa w w'
theorem Adu(l:List Au)(e:Au)(bb:Nat)(t:TypeId)(A:Option Addr)(c:Nat)(w:World)(hr:Ad w A (AA l))(hc:l.length<=c)(hcm:c<=9223372036854775807)
  (hb:w.heap[bb]?=some (.cells #[.int .i64 e.f,.int .i64 e.t,.int .i64 e.l,.int .i64 e.r] t)) :
  Calls Tryz.prog 164 #[.slice A l.length c,.func (.func 146) #[] #[.pointer (some ⟨bb,0,none⟩)]] w (m8 l e w):=by
 go_enter Tryz.func164,Tryz.ntmps164;go_wp2
 go_loopw [8] (fun i wr=>∃j:Nat,i=.int .i64 (j:Nat)/\j<=l.length/\(∀p∈l.take j,EN p e=false)/\Aa w wr) (fun i _=>l.length-(intOf i).toNat)
 case atStart=>exact⟨0,rfl,by omega,by simp,Aa.refl _⟩
 case round=>
  obtain⟨j,rfl,hj,Ai,Ae⟩:=hrel;have HO:=AjK Ai;clear Ai;by_cases hlt:j<l.length
  ·obtain⟨b,o,rfl,hg1,hg2,hg3,hg4⟩:=OC (hr.ext Ae) hlt;obtain⟨p,hp⟩:=AjJ (l[j]);rw [←hp]at hg1 hg2 hg3 hg4;have hmem:p∈l:=(by rw [hp];exact AjO hlt);have HX:=AjK hp;clear hp;have hj0:(0:Int)<=(j:Int):=(by omega);have Ay:(j:Int)<(l.length:Int):=(by omega);have bf:=yo p e bb t wr ((Ae.block _ (AjL hb)).trans hb);unfold KZ at bf
   cases hL:EN p e
   ·rw [hL]at bf;have I3:=AjK hL;clear hL;(go_wp2_with fail);(with_reducible refine bf.mono ?_);rintro e w2 ⟨rfl,hx2⟩;go_wp2;go_roundw
    case rel=>
     refine⟨j+1,by go_num,hlt,?_,Ae.trans hx2⟩;intro q hq;rw [AjQ hlt,←HX.out]at hq
     rcases List.mem_append.1 hq with h|h
     ·exact HO.out q h
     ·simp only [AjZ]at h;rw [h];exact I3.out
    case measure=>simp [intOf];omega
   ·rw [hL]at bf;have I3:=AjK hL;clear hL;(go_wp2_with fail);(with_reducible refine bf.mono ?_);rintro e w2 ⟨rfl,hx2⟩;go_wp2;go_ret;exact⟨j,rfl,⟨fun _=>⟨_,hmem,I3.out⟩,fun _=>by omega⟩,Ae.trans hx2⟩
  ·have hle:(l.length:Int)<=(j:Int):=(by omega);go_wp2;go_ret;refine⟨-1,rfl,⟨fun h=>by omega,?_⟩,Ae⟩;rintro⟨p,hp,h⟩;have:=HO.out p (by rw [AjV (by omega)];exact hp);rw [this]at h;cases h
theorem xf(l:List Au)(e:Au)(bb:Nat)(t:TypeId)(A:Option Addr)(c:Nat)(w:World)(hr:Ad w A (AA l))(hc:l.length<=c)(hcm:c<=9223372036854775807)
  (hb:w.heap[bb]?=some (.cells #[.int .i64 e.f,.int .i64 e.t,.int .i64 e.l,.int .i64 e.r] t)) :
  Calls Tryz.prog 145 #[.slice A l.length c,.func (.func 146) #[] #[.pointer (some ⟨bb,0,none⟩)]] w (BE (l.any (EN · e)) w):=by
 have ix:=Adu l e bb t A c w hr hc hcm hb;obtain⟨r,hr0⟩:=AjJ (l.any (EN · e));rw [←hr0];have HR:=AjK hr0;clear hr hb hr0;go_enter Tryz.func145,Tryz.ntmps145;(go_wp2_with fail);(with_reducible refine ix.mono ?_);rintro e w2 ⟨k,rfl,hk,hx⟩;have HK:=AjK hk;clear hk;go_wp2;go_ret;refine⟨?_,hx⟩
 have e:decide (0<=k)=r:=by
  rw [HR.out]
  cases h:l.any (EN · _)
  ·rw [decide_eq_false_iff_not,HK.out];rintro⟨p,hp,h2⟩;rw [List.any_eq_false]at h;exact h p hp h2
  ·rw [decide_eq_true_eq,HK.out];rw [List.any_eq_true]at h;exact h
 rw [←e];rfl
def IE(np nf:Nat)(pre:List Au)(e:Au):Int:=
 if min e.f e.t<0 then 3 else if (np:Int)<=max e.f e.t then 3 else if e.f=e.t then 17 else if pre.any (EN · e)then 9
 else if DZ nf e.l=false then 3 else if DZ nf e.r=false then 3 else if e.l=e.r then 7 else 0
structure MapZ where
 pts:List Pt
 eds:List Au
 nf:Nat
def AE(A B F:Option Addr)(m:MapZ)(c d g:Nat):Value:=.agg #[.slice A m.pts.length c,.slice B m.eds.length d,.slice F m.nf g]
structure Cf(m:MapZ)(c d g:Nat):Prop where
 c1:m.pts.length<=c
 c2:c<=9223372036854775807
 d1:m.eds.length<=d
 d2:d<=9223372036854775807
 g1:m.nf<=g
 g2:g<=9223372036854775807
theorem ze(l:List Au)(i:Nat):AA (l.take i)=(AA l).take (i*4):=by
 induction l generalizing i with
 | nil=>simp [AA]
 | cons e l ih=>
  cases i with
  | zero=>simp [AA]
  | succ i=>have e0:∀l,AA (e::l)=.int .i64 e.f :: .int .i64 e.t :: .int .i64 e.l :: .int .i64 e.r::AA l:=fun _=>rfl;rw [List.take_succ_cons,e0,e0,ih];have e1:(i+1)*4=i*4+1+1+1+1:=(by omega);rw [e1];simp
theorem Ad.take{w:World}{A:Option Addr}{cs:List Value}(h:Ad w A cs)(n:Nat):Ad w A (cs.take n):=
 ⟨fun h0=>by
  obtain⟨b,o,e,hc⟩:=h.ad (by rw [List.length_take]at h0;omega);refine⟨b,o,e,fun j hj=>?_⟩;rw [List.length_take]at hj
  rw [hc j (by omega),List.getElem_take]⟩
theorem uz(m:MapZ)(A B F:Option Addr)(c d g:Nat)(A7:Cf m c d g)(i:Nat)(hi:i<m.eds.length)(w:World)(hB:Ad w B (AA m.eds)) :
  Calls Tryz.prog 82 #[AE A B F m c d g,.int .i64 (i:Nat)] w (AB (IE m.pts.length m.nf (m.eds.take i) m.eds[i]) w):=by
 have Aj9:=@Agu Tryz.prog;have Aj8:=@Ags Tryz.prog;obtain⟨c1,c2,d1,d2,g1,g2⟩:=A7;obtain⟨e,he⟩:=AjJ (m.eds[i]);obtain⟨b,o,rfl,hg1,hg2,hg3,hg4⟩:=OC hB hi;rw [←he]at hg1 hg2 hg3 hg4 ⊢;obtain⟨r,hr⟩:=AjJ (IE m.pts.length m.nf (m.eds.take i) e);rw [←hr]
 have hr':r=if min e.f e.t<0 then 3 else if (m.pts.length:Int)<=max e.f e.t then 3 else if e.f=e.t then 17 else if (m.eds.take i).any (EN · e)then 9
  else if DZ m.nf e.l=false then 3 else if DZ m.nf e.r=false then 3 else if e.l=e.r then 7 else 0:=hr
 have HR:=AjK hr';have hpl:(m.eds.take i).length=i:=by rw [List.length_take];omega
 have hid:∀bb t w',Aa w w'→w'.heap[bb]?=some (.cells #[.int .i64 e.f,.int .i64 e.t,.int .i64 e.l,.int .i64 e.r] t)→Calls Tryz.prog 145 #[.slice (some ⟨b,o,none⟩) i d,.func (.func 146) #[] #[.pointer (some ⟨bb,0,none⟩)]] w' (BE ((m.eds.take i).any (EN · e)) w'):=by intro bb t w' hx h;have:=xf (m.eds.take i) e bb t (some ⟨b,o,none⟩) d w' (by rw [ze];exact(hB.ext hx).take _) (by omega) d2 h;rw [hpl]at this;exact this
 generalize (m.eds.take i).any (EN · e)=du at *;obtain⟨np,Y8⟩:=AjJ m.pts.length;obtain⟨ne,hne⟩:=AjJ m.eds.length;obtain⟨nf,Cb⟩:=AjJ m.nf;rw [←Y8]at c1 HR;rw [←hne]at d1 hi;rw [←Cb]at g1 HR;unfold AE;rw [←Y8,←hne,←Cb];have Oi:(0:Int)<=(i:Int):=(by omega);have Ub:(i:Int)<(ne:Int):=(by omega);have hix:(i:Int)<=(d:Int):=(by omega);have hM:=AjM w (.cells #[.slice A np c,.slice (some ⟨b,o,none⟩) ne d,.slice F nf g] 44);have hx0:=(Aa.refl w).alloc (.cells #[.slice A np c,.slice (some ⟨b,o,none⟩) ne d,.slice F nf g] 44);have j1:=hx0.cellS hg1;have j2:=hx0.cellS hg2;have j3:=hx0.cellS hg3;have j4:=hx0.cellS hg4;have hx1:=hx0.alloc (.cells #[.int .i64 e.f,.int .i64 e.t,.int .i64 e.l,.int .i64 e.r] 119);have hD:=AjM (w.alloc (.cells #[.slice A np c,.slice (some ⟨b,o,none⟩) ne d,.slice F nf g] 44)) (.cells #[.int .i64 e.f,.int .i64 e.t,.int .i64 e.l,.int .i64 e.r] 119);have Bi:=(((Aa.refl _).alloc (.cells #[.int .i64 e.f,.int .i64 e.t,.int .i64 e.l,.int .i64 e.r] 119)).block _ (AjL hM)).trans hM;rw [AjU]at hD;clear he hr hr' hpl Y8 hne Cb hB hg1 hg2 hg3 hg4 hM hi;go_enter Tryz.func82,Tryz.ntmps82
 go_upto_region 2 with fail
 clear j1 j2 j3 j4;generalize (w.alloc (.cells #[.slice A np c,.slice (some ⟨b,o,none⟩) ne d,.slice F nf g] 44)).alloc (.cells #[.int .i64 e.f,.int .i64 e.t,.int .i64 e.l,.int .i64 e.r] 119)=V at *;obtain⟨bm,AX⟩:=AjJ w.heap.size;rw [←AX]at Bi hD ⊢;clear AX hx0;have m1:=Ab (o:=0) Bi rfl;have m2:=Ab (o:=1) Bi rfl;have m3:=Ab (o:=2) Bi rfl;have e1:=Ab (o:=0) hD rfl;have e2:=Ab (o:=1) hD rfl;have e3:=Ab (o:=2) hD rfl;have e4:=Ab (o:=3) hD rfl;generalize hmn:min e.f e.t=mn at *;generalize hmx:max e.f e.t=mx at *;by_cases n1:mn<0
 ·have dd:decide (mn<0)=true:=decide_eq_true n1;have HH:=AjK (show r=3 by rw [HR.out,if_pos n1]);clear HR hid;go_wp2;go_ret;exact⟨by rw [HH.out];rfl,hx1⟩
 have iS:decide (mn<0)=false:=decide_eq_false n1;by_cases n2:(np:Int)<=mx
 ·have dd:decide ((np:Int)<=mx)=true:=decide_eq_true n2;have HH:=AjK (show r=3 by rw [HR.out,if_neg n1,if_pos n2]);clear HR hid n1;go_wp2;go_ret;exact⟨by rw [HH.out];rfl,hx1⟩
 have Wn:decide ((np:Int)<=mx)=false:=decide_eq_false n2;by_cases n3:e.f=e.t
 ·have dd:(e.f == e.t)=true:=(by rw [beq_iff_eq];exact n3);have HH:=AjK (show r=17 by rw [HR.out,if_neg n1,if_neg n2,if_pos n3]);clear HR hid n1 n2 n3;go_wp2;go_ret;exact⟨by rw [HH.out];rfl,hx1⟩
 have iT:(e.f == e.t)=false:=(by rw [beq_eq_false_iff_ne];exact n3);have Mb:=AjK (show r=if du=true then 9 else if DZ nf e.l=false then 3 else if DZ nf e.r=false then 3 else if e.l=e.r then 7 else 0 by rw [HR.out,if_neg n1,if_neg n2,if_neg n3]);have ci:=hid (bm+1) _ V hx1 hD;clear HR n1 n2 n3 hid
 cases IT:du
 rotate_left
 ·have HH:=AjK (show r=9 by rw [Mb.out,IT];rfl);rw [IT]at ci;clear Mb IT;(go_wp2_with fail);(with_reducible refine ci.mono ?_);rintro e w2 ⟨rfl,hx2⟩;go_wp2;go_ret;exact⟨by rw [HH.out];rfl,hx1.trans hx2⟩
 have RN:=AjK (show r=if DZ nf e.l=false then 3 else if DZ nf e.r=false then 3 else if e.l=e.r then 7 else 0 by rw [Mb.out,IT];rfl);rw [IT]at ci;clear Mb IT;(go_wp2_with fail);(with_reducible refine ci.mono ?_);rintro _ w2 ⟨rfl,hx2⟩;have Dw:=(hx2.block _ (AjL Bi)).trans Bi;have Mr:=(hx2.block _ (AjL hD)).trans hD;have s1:=yZ e.l bm nf g F _ _ _ w2 Dw;replace hx2:=hx1.trans hx2;clear m1 m2 m3 e1 e2 e3 e4 Bi hD hx1 ci;have e1:=Ab (o:=0) Mr rfl;have e2:=Ab (o:=1) Mr rfl;have e3:=Ab (o:=2) Mr rfl;have e4:=Ab (o:=3) Mr rfl
 cases h5:DZ nf e.l
 ·have HH:=AjK (show r=3 by rw [RN.out,h5];rfl);rw [h5]at s1;clear RN h5;(go_wp2_with fail);(with_reducible refine s1.mono ?_);rintro _ w3 ⟨rfl,hx3⟩;go_wp2;go_ret;exact⟨by rw [HH.out];rfl,hx2.trans hx3⟩
 have RO:=AjK (show r=if DZ nf e.r=false then 3 else if e.l=e.r then 7 else 0 by rw [RN.out,h5];rfl);rw [h5]at s1;clear RN h5;(go_wp2_with fail);(with_reducible refine s1.mono ?_);rintro _ w3 ⟨rfl,hx3⟩;have CJ:=(hx3.block _ (AjL Dw)).trans Dw;have Mt:=(hx3.block _ (AjL Mr)).trans Mr;have s2:=yZ e.r bm nf g F _ _ _ w3 CJ;replace hx3:=hx2.trans hx3;clear e1 e2 e3 e4 Dw Mr hx2 s1;have e1:=Ab (o:=0) Mt rfl;have e2:=Ab (o:=1) Mt rfl;have e3:=Ab (o:=2) Mt rfl;have e4:=Ab (o:=3) Mt rfl
 cases h6:DZ nf e.r
 ·have HH:=AjK (show r=3 by rw [RO.out,h6];rfl);rw [h6]at s2;clear RO h6;(go_wp2_with fail);(with_reducible refine s2.mono ?_);rintro _ w4 ⟨rfl,Aj⟩;go_wp2;go_ret;exact⟨by rw [HH.out];rfl,hx3.trans Aj⟩
 have RP:=AjK (show r=if e.l=e.r then 7 else 0 by rw [RO.out,h6];rfl);rw [h6]at s2;clear RO h6;(go_wp2_with fail);(with_reducible refine s2.mono ?_);rintro _ w4 ⟨rfl,Aj⟩;have Ti:=(Aj.block _ (AjL Mt)).trans Mt;replace Aj:=hx3.trans Aj;clear e1 e2 e3 e4 CJ Mt hx3 s2;have e1:=Ab (o:=0) Ti rfl;have e2:=Ab (o:=1) Ti rfl;have e3:=Ab (o:=2) Ti rfl;have e4:=Ab (o:=3) Ti rfl;by_cases n7:e.l=e.r
 ·have dd:(e.l == e.r)=true:=(by rw [beq_iff_eq];exact n7);have HH:=AjK (show r=7 by rw [RP.out,if_pos n7]);clear RP n7;go_wp2;go_ret;exact⟨by rw [HH.out];rfl,Aj⟩
 ·have dd:(e.l == e.r)=false:=(by rw [beq_eq_false_iff_ne];exact n7);have HH:=AjK (show r=0 by rw [RP.out,if_neg n7]);clear RP n7;go_wp2;go_ret;exact⟨by rw [HH.out];rfl,Aj⟩
def CS:List Pt→List Pt→Int
 | _,[]=>0
 | pre,p::l=>if pre.any (Ah p)then 9 else CS (pre ++ [p]) l
def Dd(np nf:Nat):List Au→List Au→Int
 | _,[]=>0
 | pre,e::l=>if IE np nf pre e≠0 then IE np nf pre e else Dd np nf (pre ++ [e]) l
def D8(l:List Pt)(z:Int):Pt:=l.getD z.toNat ⟨0,0⟩
def N3(l:List Pt)(e f:Au):Bool:=LL (D8 l e.f) (D8 l e.t) (D8 l f.f) (D8 l f.t)
def DF(pts:List Pt):List Au→List Au→Int
 | _,[]=>0
 | pre,e::l=>if pre.any (N3 pts e)then 26 else DF pts (pre ++ [e]) l
def KT(m:MapZ):Bool:=decide (400<m.pts.length)||(decide (1200<m.eds.length)||decide (800<m.nf))
theorem vk{l:List Pt}{j:Nat}(h:j<l.length):CS (l.take j) (l.drop j)=if (l.take j).any (Ah l[j])then 9 else CS (l.take (j+1)) (l.drop (j+1)):=by
 rw [List.drop_eq_getElem_cons h,AjQ h];rfl
theorem vn{np nf:Nat}{l:List Au}{j:Nat}(h:j<l.length):Dd np nf (l.take j) (l.drop j)=if IE np nf (l.take j) l[j]≠0 then IE np nf (l.take j) l[j] else Dd np nf (l.take (j+1)) (l.drop (j+1)):=by
 rw [List.drop_eq_getElem_cons h,AjQ h];rfl
theorem vo{pts:List Pt}{l:List Au}{j:Nat}(h:j<l.length):DF pts (l.take j) (l.drop j)=if (l.take j).any (N3 pts l[j])then 26 else DF pts (l.take (j+1)) (l.drop (j+1)):=by
 rw [List.drop_eq_getElem_cons h,AjQ h];rfl
theorem P8{np nf:Nat}{pre:List Au}{e:Au}(h:IE np nf pre e=0):0<=e.f/\0<=e.t/\e.f<(np:Int)/\e.t<(np:Int)/\e.f≠e.t/\pre.any (EN · e)=false/\DZ nf e.l=true/\DZ nf e.r=true/\e.l≠e.r:=by
 unfold IE at h
 split at h
 ·cases h
 split at h
 ·cases h
 split at h
 ·cases h
 split at h
 ·cases h
 split at h
 ·cases h
 split at h
 ·cases h
 split at h
 ·cases h
 rename_i h1 h2 h3 h4 h5 h6 h7
 exact⟨by omega,by omega,by omega,by omega,h3,by simpa using h4,by simpa using h5,by simpa using h6,h7⟩
theorem N1{np nf:Nat}{l:List Au} : ∀{pre rest:List Au},Dd np nf pre rest=0→∀(i:Nat) (h:i<rest.length),IE np nf (pre++rest.take i) rest[i]=0
 | pre,[],_,i,h=>by simp at h
 | pre,e::rest,hc,i,h=>by
  unfold Dd at hc
  split at hc
  ·rename_i hne
   exact absurd hc hne
  ·rename_i h0
   simp only [ne_eq,Decidable.not_not]at h0
   cases i with
   | zero=>simpa using h0
   | succ i=>
    have:=N1 (l:=l) hc i (by simpa using h)
    simpa using this
theorem gU{pts:List Pt} : ∀{pre rest:List Au},DF pts pre rest=0→∀(i:Nat) (h:i<rest.length),(pre++rest.take i).any (N3 pts rest[i])=false
 | pre,[],_,i,h=>by simp at h
 | pre,e::rest,hc,i,h=>by
  unfold DF at hc
  split at hc
  ·cases hc
  ·rename_i h0
   cases i with
   | zero=>simpa using h0
   | succ i=>
    have:=gU hc i (by simpa using h)
    simpa using this
theorem gR:∀{pre rest:List Pt},CS pre rest=0→∀(i:Nat) (h:i<rest.length),(pre++rest.take i).any (Ah rest[i])=false
 | pre,[],_,i,h=>by simp at h
 | pre,e::rest,hc,i,h=>by
  unfold CS at hc
  split at hc
  ·cases hc
  ·rename_i h0
   cases i with
   | zero=>simpa using h0
   | succ i=>
    have:=gR hc i (by simpa using h)
    simpa using this
def AK(s t:Sg):Bool:=Ah s.a t.a&&Ah s.b t.b
theorem Hg{s t:Sg} : AK s t=true↔s=t:=by
 unfold AK;rw [Bool.and_eq_true,BN,BN];constructor
 ·rintro⟨h1,h2⟩
  cases s;cases t;simp_all
 ·rintro rfl;exact⟨rfl,rfl⟩
theorem jH(p q:Pt)(W:World):(Op.equal 28 (Ag p) (Ag q)).run Tryz.prog W=.ok (Ah p q) W:=by
 unfold Ah Ag;rw [←I8,←I8]
 cases b1:(R p.x == R q.x)<;>cases b2:(R p.y == R q.y)<;>simp [go_sem,Op.equal,Op.maxDepth,b1,b2]
theorem jI(s t:Sg)(W:World):(Op.equal 176 (Ax s) (Ax t)).run Tryz.prog W=.ok (AK s t) W:=by
 unfold AK Ah Ax;rw [←I8,←I8,←I8,←I8]
 cases b1:(R s.a.x == R t.a.x)<;>cases b2:(R s.a.y == R t.a.y)<;>cases b3:(R s.b.x == R t.b.x)<;>cases b4:(R s.b.y == R t.b.y)<;>simp [go_sem,Op.equal,Op.maxDepth,b1,b2,b3,b4]
theorem gJ(b:Bool)(p:Pt)(W:World):(Instr.checkKey b 10000 28 (Ag p)).run Tryz.prog W=.ok () W:=by
 unfold Ag
 kernel_rfl
theorem gK(b:Bool)(s:Sg)(W:World):(Instr.checkKey b 10000 176 (Ax s)).run Tryz.prog W=.ok () W:=by
 unfold Ax
 kernel_rfl
/-! ### Entries -/
section
variable {α : Type} (enc : α → Value) (same : α → α → Bool)
def Az(l:List (α×Value×Nat)):List MapEntry:=l.map (fun e=>⟨enc e.1,e.2.1,e.2.2⟩)
theorem jO{kt:TypeId}(heq:∀x y W,(Op.equal kt (enc x) (enc y)).run Tryz.prog W=.ok (same x y) W)(k:α)(W:World):∀(l:List (α×Value×Nat)) (i:Nat),
  (Instr.findAsking kt (enc k) (Az enc l) i).run Tryz.prog W=.ok ((l.findIdx? (fun e=>same k e.1)).bind (fun j=>(l[j]?).map (fun e=>(i+j,e.2.1)))) W
 | [],i=>by simp [Az,Instr.findAsking]
 | e::l,i=>by
  have ih:=jO heq k W l (i+1);have e0:Az enc (e::l)=⟨enc e.1,e.2.1,e.2.2⟩::Az enc l:=rfl;rw [e0];unfold Instr.findAsking;simp only [Sem.run_bind,heq,Result.andThen_ok];rw [List.findIdx?_cons]
  cases h:same k e.1
  ·simp only [Bool.false_eq_true,if_false,ih]
   congr 1
   cases h2:l.findIdx? (fun e=>same k e.1)with
   | none=>simp
   | some j=>
    simp only [Option.map_some,Option.bind_some,List.getElem?_cons_succ]
    congr 1
    funext x
    rw [show i+1+j=i+(j+1)by omega]
  ·simp
end
section
variable {α : Type} {enc : α → Value} {same : α → α → Bool}
structure Jw(mt kt et:TypeId)(z:Value)(enc:α→Value)(same:α→α→Bool):Prop where
 map:Tryz.prog.underlying mt=some (.map kt et)
 st:∃fs,Tryz.prog.underlying kt=some (.struct fs)
 zero:∀W,(zeroValue et).run Tryz.prog W=.ok z W
 eq:∀x y W,(Op.equal kt (enc x) (enc y)).run Tryz.prog W=.ok (same x y) W
 chk:∀b x W,(Instr.checkKey b 10000 kt (enc x)).run Tryz.prog W=.ok () W
 iff:∀{x y},same x y=true↔x=y
 bits:∀x,Instr.sameBits 10000 (enc x) (enc x)=true
def FT(same:α→α→Bool)(k:α)(l:List (α×Value×Nat)):Option Nat:=l.findIdx? (fun e=>same k e.1)
theorem SL{mt kt et:TypeId}{z:Value}(K:Jw mt kt et z enc same)(k:α)(l:List (α×Value×Nat))(W:World) :
  (Instr.findKey kt (enc k) (Az enc l)).run Tryz.prog W=.ok ((FT same k l).bind (fun j=>(l[j]?).map (fun e=>(j,e.2.1)))) W:=by
 obtain⟨fs,Ye⟩:=K.st;unfold Instr.findKey;simp only [Sem.run_bind,run_underlying Ye,Result.andThen_ok]
 cases l with
 | nil=>simp [Az,Instr.findNow,FT]
 | cons e l=>
  have e0:Az enc (e::l)=⟨enc e.1,e.2.1,e.2.2⟩::Az enc l:=rfl
  have h1:Instr.findNow (.struct fs) (enc k) (Az enc (e::l)) 0=none:=by rw [e0];unfold Instr.findNow;have:Instr.sameNow (.struct fs) (enc k) (enc e.1)=none:=(by unfold Instr.sameNow;rfl);rw [this]
  rw [h1];have h2:=jO enc same K.eq k W (e::l) 0;simp only [Nat.zero_add]at h2;exact h2
def Fp(same:α→α→Bool)(z:Value)(k:α)(l:List (α×Value×Nat)):Value:=match l.find? (fun e=>same k e.1)with|some e=>e.2.1|none=>z
theorem Adg{k:α}{l:List (α×Value×Nat)} : (FT same k l).bind (fun j=>(l[j]?).map (fun e=>(j,e.2.1)))=(FT same k l).bind (fun j=>(l.find? (fun e=>same k e.1)).map (fun e=>(j,e.2.1))):=by
 unfold FT
 cases h:l.findIdx? (fun e=>same k e.1)with
 | none=>rfl
 | some j=>
  simp only [Option.bind_some];rw [List.findIdx?_eq_some_iff_getElem]at h;obtain⟨hj,h1,h2⟩:=h
  have h3:l.find? (fun e=>same k e.1)=some l[j]:=by rw [List.find?_eq_some_iff_getElem];exact⟨h1,j,hj,rfl,fun i hi=>by have:=h2 i hi;simpa using this⟩
  rw [h3,AjS hj]
theorem OG{mt kt et:TypeId}{z:Value}(K:Jw mt kt et z enc same)(k:α)(l:List (α×Value×Nat)){b clock:Nat}{W:World}(hb:W.heap[b]?=some (.map (Az enc l).toArray clock)) :
  (Instr.lookup mt (.map (some b)) (enc k) false).run Tryz.prog W=.ok (Fp same z k l) W:=by
 have hf:=SL K k l W;rw [Adg]at hf;unfold Fp
 cases h:l.find? (fun e=>same k e.1)with
 | none=>
  rw [h]at hf
  have hf':(Instr.findKey kt (enc k) (Az enc l)).run Tryz.prog W=.ok none W:=by rw [hf];cases FT same k l<;>rfl
  simp [Instr.lookup,run_underlying K.map,MapKept.run_getObj_map hb,K.chk,hf',K.zero,Result.andThen]
 | some e=>
  have hi:(FT same k l).isSome:=by unfold FT;rw [List.findIdx?_isSome,List.any_eq_true];exact⟨e,List.mem_of_find?_eq_some h,(by have:=List.find?_some h;exact this)⟩
  obtain⟨j,hj⟩:=Option.isSome_iff_exists.1 hi;rw [h,hj]at hf;simp only [Option.bind_some,Option.map_some]at hf;simp [Instr.lookup,run_underlying K.map,MapKept.run_getObj_map hb,K.chk,hf,Result.andThen]
end
theorem Ox:Jw 161 28 41 (.slice none 0 0) Ag Ah where
 map:=Tryz.underlying161
 st:=⟨_,Tryz.underlying28⟩
 zero:=fun W=>by simp [go_sem]
 eq:=jH
 chk:=gJ
 iff:=BN
 bits:=fun x=>by unfold Ag;simp [Instr.sameBits,beq_toListBytes]
theorem Zu:Jw 160 176 3 (.int .i64 0) Ax AK where
 map:=Tryz.underlying160
 st:=⟨_,Tryz.underlying176⟩
 zero:=fun W=>by simp [go_sem]
 eq:=jI
 chk:=gK
 iff:=Hg
 bits:=fun x=>by unfold Ax;simp [Instr.sameBits,beq_toListBytes]
section
open Go.ChangeMaps (setBlock)
theorem Kr{w:World}{b:Nat}{o o':Obj}(h:w.heap[b]?=some o'):(setBlock w b o).heap[b]?=some o:=by
 have hlt:=(Array.getElem?_eq_some_iff.1 h).1;show (w.heap.setIfInBounds b o)[b]?=some o;rw [Array.getElem?_setIfInBounds_self];simp [hlt]
theorem Rs{w:World}{b k:Nat}{o:Obj}(h:k≠b):(setBlock w b o).heap[k]?=w.heap[k]?:=by
 show (w.heap.setIfInBounds b o)[k]?=w.heap[k]?;rw [Array.getElem?_setIfInBounds_ne (by omega)]
theorem aP{w:World}{b:Nat}{o:Obj}(h:w.heap[b]?=some o):setBlock w b o=w:=by
 have hlt:=(Array.getElem?_eq_some_iff.1 h).1
 have e:w.heap.setIfInBounds b o=w.heap:=by
  apply Array.ext_getElem?;intro i;by_cases hi:i=b
  ·subst hi;rw [Array.getElem?_setIfInBounds_self];simp [hlt]at *;exact h.symm
  ·rw [Array.getElem?_setIfInBounds_ne (by omega)]
 unfold setBlock;rw [e]
section
variable {α : Type} {enc : α → Value} {same : α → α → Bool}
theorem aK{mt kt et:TypeId}{z:Value}(K:Jw mt kt et z enc same)(k:α)(l:List (α×Value×Nat))(hno:∀e∈l,same k e.1=false){b clock:Nat}{W:World}(hb:W.heap[b]?=some (.map (Az enc l).toArray clock)) :
  (Instr.mapEntry mt (.map (some b)) (enc k)).run Tryz.prog W=.ok (.tuple #[z,.int .i64 (clock:Nat)]) (setBlock W b (.map (Az enc (l ++ [(k,z,clock)])).toArray (clock+1))):=by
 have hf:=SL K k l W
 have hi:FT same k l=none:=by unfold FT;rw [List.findIdx?_eq_none_iff];exact hno
 rw [hi]at hf;simp only [Option.bind_none]at hf
 have e0:Az enc l ++ [{key:=enc k,val:=z,born:=clock}]=Az enc (l ++ [(k,z,clock)]):=by simp [Az]
 simp [Instr.mapEntry,run_underlying K.map,MapKept.run_getObj_map hb,K.chk,hf,K.zero,MapKept.run_setObj_map _ hb,Result.andThen,setBlock,e0,goInt]
theorem Agr{mt kt et:TypeId}{z:Value}(K:Jw mt kt et z enc same)(k:α)(l:List (α×Value×Nat)){j:Nat}(hj:j<l.length)(hno:∀e∈l.take j,same k e.1=false)(hk:l[j].1=k){b clock:Nat}{W:World}(hb:W.heap[b]?=some (.map (Az enc l).toArray clock)) :
  (Instr.mapEntry mt (.map (some b)) (enc k)).run Tryz.prog W=.ok (.tuple #[l[j].2.1,.int .i64 (l[j].2.2:Nat)]) W:=by
 have hf:=SL K k l W
 have hi:FT same k l=some j:=by unfold FT;rw [List.findIdx?_eq_some_iff_getElem];refine⟨hj,by rw [hk];exact K.iff.2 rfl,fun i AL=>?_⟩;rw [Bool.not_eq_true];refine hno l[i] ?_;rw [List.mem_take_iff_getElem];exact⟨i,by omega,rfl⟩
 rw [hi]at hf;simp only [Option.bind_some,AjS hj,Option.map_some]at hf
 have DR:(Az enc l)[j]?=some ⟨enc k,l[j].2.1,l[j].2.2⟩:=by simp [Az,AjS hj,hk]
 have hst:(Instr.keyThatStays (enc k) (enc k)).run Tryz.prog W=.ok (enc k) W:=by simp [Instr.keyThatStays,K.bits]
 have hmod:(Az enc l).modify j (fun e=>{e with key:=enc k})=Az enc l:=by
  apply List.ext_getElem?;intro i;rw [List.getElem?_modify];by_cases AL:j=i
  ·subst AL;rw [DR];simp
  ·simp [AL]
 have AU:(setBlock W b (.map (Az enc l).toArray clock))=W:=aP hb;unfold setBlock at AU;simp [Instr.mapEntry,run_underlying K.map,MapKept.run_getObj_map hb,K.chk,hf,DR,hst,MapKept.run_setObj_map _ hb,Result.andThen,goInt];rw [hmod];exact AU
theorem yI(mt:TypeId)(l:List (α×Value×Nat)){j:Nat}(hj:j<l.length)(hno:∀e∈l.take j,e.2.2≠l[j].2.2)(v:Value){b clock:Nat}{W:World}(hb:W.heap[b]?=some (.map (Az enc l).toArray clock)) :
  (Instr.entryStore mt (.map (some b)) (.int .i64 (l[j].2.2:Nat)) v).run Tryz.prog W=.ok () (setBlock W b (.map (Az enc (l.set j (l[j].1,v,l[j].2.2))).toArray clock)):=by
 have hf:(Az enc l).findIdx? (fun e=>(e.born:Int) == (l[j].2.2:Int))=some j:=by rw [List.findIdx?_eq_some_iff_getElem];refine⟨by simp [Az];exact hj,by simp [Az],fun i AL=>?_⟩;have:=hno l[i] (by rw [List.mem_take_iff_getElem];exact⟨i,by omega,rfl⟩);simp [Az];omega
 have e0:(Az enc l).modify j (fun e=>{e with val:=v})=Az enc (l.set j (l[j].1,v,l[j].2.2)):=by
  apply List.ext_getElem?;intro i;rw [List.getElem?_modify];by_cases AL:j=i
  ·subst AL;simp [Az,hj]
  ·simp [AL,Az,List.getElem?_set_ne AL]
 simp [Instr.entryStore,MapKept.run_getObj_map hb,asInt,asIntOf,hf,MapKept.run_setObj_map _ hb,Result.andThen,setBlock,e0]
end
end
section
open Go.ChangeMaps (setBlock)
def Bc(s:Sg):Sg:=⟨s.b,s.a⟩
theorem fL(s:Sg)(w:World):Calls Tryz.prog 130 #[Ax s] w (Cp (Ax (Bc s)) w):=by
 have hE:=((Aa.refl w).alloc (.cells #[S (R s.a.x),S (R s.a.y),S (R s.b.x),S (R s.b.y)] 176)).alloc (.cells #[S [],S [],S [],S []] 176);have hb1:=(Below.heap_alloc (w.alloc (.cells #[S (R s.a.x),S (R s.a.y),S (R s.b.x),S (R s.b.y)] 176)) (.cells #[S [],S [],S [],S []] 176) w.heap.size (by simp)).trans (AjM w (.cells #[S (R s.a.x),S (R s.a.y),S (R s.b.x),S (R s.b.y)] 176));have hb2:=AjM (w.alloc (.cells #[S (R s.a.x),S (R s.a.y),S (R s.b.x),S (R s.b.y)] 176)) (.cells #[S [],S [],S [],S []] 176);rw [AjU]at hb2;unfold Bc Ax;go_enter Tryz.func130,Tryz.ntmps130
 go_upto_region 1 with fail
 rw [show (⟨#[]⟩:ByteArray)=⟨([]:Bs).toArray⟩from rfl];generalize (w.alloc (.cells #[S (R s.a.x),S (R s.a.y),S (R s.b.x),S (R s.b.y)] 176)).alloc (.cells #[S [],S [],S [],S []] 176)=V at *;obtain⟨bb,BH⟩:=AjJ w.heap.size;have hle:w.heap.size<=bb+1:=(by omega);rw [←BH]at hb1 hb2 ⊢;clear BH;have k1:=Ab (o:=0) hb1 rfl;have k2:=Ab (o:=1) hb1 rfl;have k3:=Ab (o:=2) hb1 rfl;have k4:=Ab (o:=3) hb1 rfl;have y0:=Ao (o:=0) hb2;have y1:=Ao (o:=1) hb2;have y2:=Ao (o:=2) hb2;have y3:=Ao (o:=3) hb2;have z0:=Ab (o:=0) hb2 rfl;have z1:=Ab (o:=1) hb2 rfl;have z2:=Ab (o:=2) hb2 rfl;have z3:=Ab (o:=3) hb2 rfl;have hq:=Nz (S (R s.b.x)) (S (R s.b.y)) (S (R s.a.x)) (S (R s.a.y)) hb2;have q0:=Ab (o:=0) hq rfl;have q1:=Ab (o:=1) hq rfl;have q2:=Ab (o:=2) hq rfl;have q3:=Ab (o:=3) hq rfl;clear hq hb1 hb2;go_wp2;refine bodyPost_ret (v:=.agg #[S (R s.b.x),S (R s.b.y),S (R s.a.x),S (R s.a.y)]) (by simp [results,Tryz.results130,go_sem,q0,q1,q2,q3]) rfl ?_;exact⟨rfl,(((hE.setCell (p:=⟨bb+1,0,none⟩) hle _).setCell (p:=⟨bb+1,1,none⟩) hle _).setCell (p:=⟨bb+1,2,none⟩) hle _).setCell (p:=⟨bb+1,3,none⟩) hle _⟩
def PH(w:World):World:=((w.alloc (.map #[] 0)).alloc (.map #[] 0)).alloc (.cells #[.map (some w.heap.size),.map (some (w.heap.size+1))] 163)
theorem zt(w:World):Calls Tryz.prog 120 #[] w (fun e w'=>e=.returned (.pointer (some ⟨w.heap.size+1+1,0,none⟩))/\w'=PH w):=by
 have hmm:=@run_makeMap Tryz.prog;go_enter Tryz.func120,Tryz.ntmps120;go_wp2;go_ret;exact⟨rfl,rfl⟩
end
end Go.Proofs.YtnfedbopbcegjaaGreatDoor
