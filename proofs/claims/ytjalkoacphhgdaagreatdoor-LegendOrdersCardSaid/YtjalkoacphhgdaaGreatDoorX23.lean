/- X23: S1 S2 Rg S3 S4 S5 S6 S7. -/
import Derived.Test.YtjalkoacphhgdaaGreatDoorX22
set_option maxRecDepth 100000
set_option maxHeartbeats 16000000
namespace Go.Proofs.YtjalkoacphhgdaaGreatDoor
open Go.RowKit Kl
theorem IE(a b:Pt){k:Nat}(ha:Ar k a)(hb:Ar k b)(hk:0<k)(hk2:k<=400)(w:World)(hw:Am w) :
  Calls Tryz.prog 110 #[Ak a,Ak b] w (Ax (Be a b) w):=by
 have c1:=J0 a.x b.x (a:=k) (b:=k) ⟨ha.x,hb.x,hk,hk,by omega⟩;have c2:=J0 a.y b.y (a:=k) (b:=k) ⟨ha.y,hb.y,hk,hk,by omega⟩;have hE:=((Aa.refl w).alloc (.cells #[S (R a.x),S (R a.y)] 92)).alloc (.cells #[S (R b.x),S (R b.y)] 92);obtain⟨x,hx0⟩:=AqG (AU a.x b.x);obtain⟨y,Bj⟩:=AqG (AU a.y b.y)
 have hr:Be a b=if x≠0 then x else y:=by rw [hx0,Bj];rfl
 rw [hr];rw [←hx0]at c1;rw [←Bj]at c2
 have hA:(w.alloc (.cells #[S (R a.x),S (R a.y)] 92)).alloc (.cells #[S (R b.x),S (R b.y)] 92) |>.heap[w.heap.size]?=some (.cells #[S (R a.x),S (R a.y)] 92):=(Below.heap_alloc _ _ _ (by simp)).trans (AqJ w _)
 have hB:=AqJ (w.alloc (.cells #[S (R a.x),S (R a.y)] 92)) (.cells #[S (R b.x),S (R b.y)] 92);rw [AqR]at hB;obtain⟨r,Gm⟩:=AqG (if x≠0 then x else y:Int);have HRE:=AqH Gm;rw [←Gm];unfold Ak
 have N5:∀(b o:Nat) (w:World),w.cell? ⟨b,o,none⟩=some (.int .i64 x)→w.cell? ⟨b,o+1,none⟩=some (.int .i64 y)→Calls Tryz.prog 98 #[.slice (some ⟨b,o,none⟩) 2 2] w (Ax r w):=by intro b o w h1 h2;rw [Gm];exact XT x y b o w h1 h2
 clear ha hb hr hx0 Bj Gm;go_enter Tryz.func110,Tryz.ntmps110
 go_upto_region 1 with fail
 generalize (w.alloc (.cells #[S (R a.x),S (R a.y)] 92)).alloc (.cells #[S (R b.x),S (R b.y)] 92)=V at *;have hs:=hE.size;obtain⟨ba,Aq⟩:=AqG w.heap.size;rw [←Aq]at hA hB ⊢;clear Aq hs;have k1:=Ab (o:=0) hA rfl;have k2:=Ab (o:=1) hA rfl;have k3:=Ab (o:=0) hB rfl;have k4:=Ab (o:=1) hB rfl;have hV:=hw.ext hE;clear hA hB
 go_region_held3 (fun w'=>w'.cell? ⟨ba,0,none⟩=some (S (R a.x))/\w'.cell? ⟨ba,1,none⟩=some (S (R a.y))/\w'.cell? ⟨ba+1,0,none⟩=some (S (R b.x))/\w'.cell? ⟨ba+1,1,none⟩=some (S (R b.y)))
  (go_keep)
  (first|((with_reducible refine(c1 _ (hV.ext (Aa.refl V).drew)).mono ?_);rintro e w5 ⟨rfl,Ae⟩;have X5:Aa V w5:=(Aa.refl V).drew.trans Ae;have d1:=X5.cellS k1;have d2:=X5.cellS k2;have d3:=X5.cellS k3;have d4:=X5.cellS k4)|((with_reducible refine(c2 _ (hV.ext X5)).mono ?_);rintro e w6 ⟨rfl,Ay⟩;have X6:Aa V w6:=X5.trans Ay;have f1:=X6.cellS k1;have f2:=X6.cellS k2;have f3:=X6.cellS k3;have f4:=X6.cellS k4)|((with_reducible refine(N5 w6.heap.size 0 (w6.alloc (.cells #[.int .i64 x,.int .i64 y] 3)) (Ab (o:=0) (AqJ w6 _) rfl) (Ab (o:=1) (AqJ w6 _) rfl)).mono ?_);rintro e w7 ⟨rfl,Aw⟩;have X7:Aa V w7:=(X6.alloc _).trans Aw;have g1:=X7.cellS k1;have g2:=X7.cellS k2;have g3:=X7.cellS k3;have g4:=X7.cellS k4))
 go_wp2;go_ret;exact⟨rfl,hE.trans X7⟩
theorem sf(a b c:Pt){k:Nat}(ha:Ar k a)(hb:Ar k b)(hc:Ar k c)(hk:0<k)(hk2:k<=400)(w:World)(hw:Am w) :
  Calls Tryz.prog 229 #[Ak a,Ak b,Ak c] w (Bg (R (Al a b c)) w):=by
 have s1:=Ia b.x a.x (a:=k) (b:=k) ⟨hb.x,ha.x,hk,hk,by omega⟩;have s2:=Ia b.y a.y (a:=k) (b:=k) ⟨hb.y,ha.y,hk,hk,by omega⟩;have s3:=Ia c.x a.x (a:=k) (b:=k) ⟨hc.x,ha.x,hk,hk,by omega⟩;have s4:=Ia c.y a.y (a:=k) (b:=k) ⟨hc.y,ha.y,hk,hk,by omega⟩;have m1:=QM (b.x-a.x) (c.y-a.y) (a:=k+k+1) (b:=k+k+1) ⟨hb.x.sub ha.x,hc.y.sub ha.y,by omega,by omega,by omega⟩;have m2:=QM (b.y-a.y) (c.x-a.x) (a:=k+k+1) (b:=k+k+1) ⟨hb.y.sub ha.y,hc.x.sub ha.x,by omega,by omega,by omega⟩;have sb:=Ia ((b.x-a.x)*(c.y-a.y)) ((b.y-a.y)*(c.x-a.x)) (a:=k+k+1+(k+k+1)) (b:=k+k+1+(k+k+1)) ⟨(hb.x.sub ha.x).mul (hc.y.sub ha.y),(hb.y.sub ha.y).mul (hc.x.sub ha.x),by omega,by omega,by omega⟩;have e:Al a b c=(b.x-a.x)*(c.y-a.y)-(b.y-a.y)*(c.x-a.x):=rfl;rw [←e]at sb;obtain⟨r,hr⟩:=AqG (Al a b c);rw [←hr]at sb ⊢;unfold Ak;clear ha hb hc e hr;go_enter Tryz.func229,Tryz.ntmps229;(go_wp2_with fail);obtain⟨W,hW,hE,hb1,hb2,hb3⟩:=P0 w (.cells #[S (R a.x),S (R a.y)] 92) (.cells #[S (R b.x),S (R b.y)] 92) (.cells #[S (R c.x),S (R c.y)] 92);rw [←hW];clear hW
 have SO:∀w',Aa W w'→(w'.cell? ⟨w.heap.size,0,none⟩=some (S (R a.x))/\w'.cell? ⟨w.heap.size,1,none⟩=some (S (R a.y))/\w'.cell? ⟨w.heap.size+1,0,none⟩=some (S (R b.x))/\w'.cell? ⟨w.heap.size+1,1,none⟩=some (S (R b.y))/\w'.cell? ⟨w.heap.size+1+1,0,none⟩=some (S (R c.x))/\w'.cell? ⟨w.heap.size+1+1,1,none⟩=some (S (R c.y))):=fun w' h=>⟨h.cellS (Ab hb1 rfl),h.cellS (Ab hb1 rfl),h.cellS (Ab hb2 rfl),h.cellS (Ab hb2 rfl),h.cellS (Ab hb3 rfl),h.cellS (Ab hb3 rfl)⟩
 have CP:=hw.ext hE;have X:Aa W W:=Aa.refl W;clear hb1 hb2 hb3
 go_region_held3 (fun w'=>w'.cell? ⟨w.heap.size,0,none⟩=some (S (R a.x))/\w'.cell? ⟨w.heap.size,1,none⟩=some (S (R a.y))/\w'.cell? ⟨w.heap.size+1,0,none⟩=some (S (R b.x))/\w'.cell? ⟨w.heap.size+1,1,none⟩=some (S (R b.y))/\w'.cell? ⟨w.heap.size+1+1,0,none⟩=some (S (R c.x))/\w'.cell? ⟨w.heap.size+1+1,1,none⟩=some (S (R c.y)))
  (first|with_reducible exact SO _ X|with_reducible exact SO _ X.drew)
  (first|((with_reducible refine(s1 _ (CP.ext (by first|exact X|exact X.drew))).mono ?_);rintro e w1 ⟨rfl,hx1⟩;replace X:Aa W w1:=(by first|exact X.trans hx1|exact X.drew.trans hx1))|((with_reducible refine(s2 _ (CP.ext (by first|exact X|exact X.drew))).mono ?_);rintro e w1 ⟨rfl,hx1⟩;replace X:Aa W w1:=(by first|exact X.trans hx1|exact X.drew.trans hx1))|((with_reducible refine(s3 _ (CP.ext (by first|exact X|exact X.drew))).mono ?_);rintro e w1 ⟨rfl,hx1⟩;replace X:Aa W w1:=(by first|exact X.trans hx1|exact X.drew.trans hx1))|((with_reducible refine(s4 _ (CP.ext (by first|exact X|exact X.drew))).mono ?_);rintro e w1 ⟨rfl,hx1⟩;replace X:Aa W w1:=(by first|exact X.trans hx1|exact X.drew.trans hx1))|((with_reducible refine(m1 _ (CP.ext (by first|exact X|exact X.drew))).mono ?_);rintro e w1 ⟨rfl,hx1⟩;replace X:Aa W w1:=(by first|exact X.trans hx1|exact X.drew.trans hx1))|((with_reducible refine(m2 _ (CP.ext (by first|exact X|exact X.drew))).mono ?_);rintro e w1 ⟨rfl,hx1⟩;replace X:Aa W w1:=(by first|exact X.trans hx1|exact X.drew.trans hx1))|((with_reducible refine(sb _ (CP.ext (by first|exact X|exact X.drew))).mono ?_);rintro e w1 ⟨rfl,hx1⟩;replace X:Aa W w1:=(by first|exact X.trans hx1|exact X.drew.trans hx1)))
 go_wp2;go_ret;exact⟨rfl,hE.trans X⟩
theorem LQ(a b c:Pt){k:Nat}(ha:Ar k a)(hb:Ar k b)(hc:Ar k c)(hk:0<k)(hk2:k<=400)(w:World)(hw:Am w) :
  Calls Tryz.prog 153 #[Ak a,Ak b,Ak c] w (Ax (AH (Al a b c)) w):=by
 have ar:=sf a b c ha hb hc hk hk2;have sg:=QN (Al a b c);have hE:=(((Aa.refl w).alloc (.cells #[S (R a.x),S (R a.y)] 92)).alloc (.cells #[S (R b.x),S (R b.y)] 92)).alloc (.cells #[S (R c.x),S (R c.y)] 92);unfold Ak at ar ⊢;clear ha hb hc;go_enter Tryz.func153,Tryz.ntmps153;(go_wp2_with fail);(with_reducible refine(ar _ (hw.ext hE)).mono ?_);rintro e w1 ⟨rfl,hx⟩;(go_wp2_with fail);(with_reducible refine(sg _).mono ?_);rintro e w2 ⟨rfl,hx2⟩;go_wp2;go_ret;exact⟨rfl,hE.trans (hx.trans hx2)⟩
def Jv(y x:Int):Int:=if 0<y then 0 else if y=0 then (if 0<x then 0 else 1)else 1
def BK(p q:Pt):Int:=Jv (AU q.y p.y) (AU q.x p.x)
theorem Ajx{y x:Int}(h:0<y):Jv y x=0:=if_pos h
theorem Ajy{y x:Int}(h:y=0)(hx:0<x):Jv y x=0:=by unfold Jv;rw [if_neg (by omega),if_pos h,if_pos hx]
theorem Ajz{y x:Int}(h:y=0)(hx:¬0<x):Jv y x=1:=by unfold Jv;rw [if_neg (by omega),if_pos h,if_neg hx]
theorem Aj0{y x:Int}(h:y<0):Jv y x=1:=by unfold Jv;rw [if_neg (by omega),if_neg (by omega)]
theorem ue(p q:Pt){k:Nat}(hp:Ar k p)(hq:Ar k q)(hk:0<k)(hk2:k<=400)(w:World)(hw:Am w) :
  Calls Tryz.prog 231 #[Ak p,Ak q] w (Ax (BK p q) w):=by
 have c1:=J0 q.y p.y (a:=k) (b:=k) ⟨hq.y,hp.y,hk,hk,by omega⟩;have c2:=J0 q.x p.x (a:=k) (b:=k) ⟨hq.x,hp.x,hk,hk,by omega⟩;unfold BK;generalize AU q.y p.y=y at *;generalize AU q.x p.x=x at *;have hb1:=(Below.heap_alloc (w.alloc (.cells #[S (R p.x),S (R p.y)] 92)) (.cells #[S (R q.x),S (R q.y)] 92) w.heap.size (by simp)).trans (AqJ w (.cells #[S (R p.x),S (R p.y)] 92));have hb2:=AqJ (w.alloc (.cells #[S (R p.x),S (R p.y)] 92)) (.cells #[S (R q.x),S (R q.y)] 92);rw [AqR]at hb2;have hE:=((Aa.refl w).alloc (.cells #[S (R p.x),S (R p.y)] 92)).alloc (.cells #[S (R q.x),S (R q.y)] 92);unfold Ak;clear hp hq;obtain⟨r,hr⟩:=AqG (Jv y x);rw [←hr];have HR:=AqH hr;clear hr;go_enter Tryz.func231,Tryz.ntmps231
 go_upto_region 1 with fail
 generalize (w.alloc (.cells #[S (R p.x),S (R p.y)] 92)).alloc (.cells #[S (R q.x),S (R q.y)] 92)=V at *;obtain⟨ba,Aq⟩:=AqG w.heap.size;rw [←Aq]at hb1 hb2 ⊢;clear Aq;have k1:=Ab (o:=0) hb1 rfl;have k2:=Ab (o:=1) hb1 rfl;have k3:=Ab (o:=0) hb2 rfl;have k4:=Ab (o:=1) hb2 rfl;clear hb1 hb2;(go_wp2_with fail);(with_reducible refine(c1 _ (hw.ext hE)).mono ?_);rintro e w1 ⟨rfl,hx1⟩;have j1:=hx1.cellS k1;have j2:=hx1.cellS k2;have j3:=hx1.cellS k3;have j4:=hx1.cellS k4;replace hE:=hE.trans hx1;clear k1 k2 k3 k4 hx1;by_cases y1:0<y
 ·have e0:r=0:=(by rw [HR.out,Ajx y1]);subst e0;have d1:decide (0<y)=true:=decide_eq_true y1;clear c2 c1;go_wp2;go_ret;exact⟨rfl,hE⟩
 ·by_cases y0:y=0
  ·subst y0;by_cases x1:0<x
   ·have e0:r=0:=(by rw [HR.out,Ajy rfl x1]);subst e0;have d1:decide (0<x)=true:=decide_eq_true x1;clear c1 y1;(go_wp2_with fail);(with_reducible refine(c2 _ (hw.ext hE)).mono ?_);rintro e w2 ⟨rfl,hx2⟩;go_wp2;go_ret;exact⟨rfl,hE.trans hx2⟩
   ·have e0:r=1:=(by rw [HR.out,Ajz rfl x1]);subst e0;have d1:decide (0<x)=false:=decide_eq_false x1;have x2:x<=0:=(by omega);clear c1 y1 x1;(go_wp2_with fail);(with_reducible refine(c2 _ (hw.ext hE)).mono ?_);rintro e w2 ⟨rfl,hx2⟩;go_wp2;go_ret;exact⟨rfl,hE.trans hx2⟩
  ·have e0:r=1:=(by rw [HR.out,Aj0 (by omega)]);subst e0;have d1:decide (0<y)=false:=decide_eq_false y1;have d2:decide (y=0)=false:=decide_eq_false y0;have d3:(y == 0)=false:=(by rw [beq_eq_false_iff_ne];exact y0);have y2:y<0:=(by omega);clear c2 c1 y1;go_wp2;go_ret;exact⟨rfl,hE⟩
def Ks(u v t:Int):Bool:=decide (u<=0)&&(decide (v<=0)&&decide (t=0))
def N4(a b p:Pt):Bool:=Ks (Be a p) (Be p b) (AH (Al a b p))
def GM(a b p:Pt):Bool:=if 0<Be a b then N4 b a p else N4 a b p
theorem Alw(a b p:Pt){k:Nat}(ha:Ar k a)(hb:Ar k b)(hp:Ar k p)(hk:0<k)(hk2:k<=400)(hz:¬0<Be a b)(w:World)(hw:Am w) :
  Calls Tryz.prog 152 #[Ak a,Ak b,Ak p] w (Bv (N4 a b p) w):=by
 have c0:=IE a b ha hb hk hk2;have c1:=IE a p ha hp hk hk2;have c2:=IE p b hp hb hk hk2;have c3:=LQ a b p ha hb hp hk hk2;unfold N4;generalize Be a b=z at *;generalize Be a p=u at *;generalize Be p b=v at *;generalize AH (Al a b p)=t at *;obtain⟨W,hW,hE,hb1,hb2,hb3⟩:=P0 w (.cells #[S (R a.x),S (R a.y)] 92) (.cells #[S (R b.x),S (R b.y)] 92) (.cells #[S (R p.x),S (R p.y)] 92);obtain⟨r,hr⟩:=AqG (Ks u v t);rw [←hr];have HR:=AqH hr;unfold Ak at c0 c1 c2 c3 ⊢;clear ha hb hp hr;go_enter Tryz.func152,Tryz.ntmps152
 go_upto_region 1 with fail
 rw [←hW];clear hW;obtain⟨ba,Aq⟩:=AqG w.heap.size;have hle:w.heap.size<=ba:=(by omega);rw [←Aq]at hb1 hb2 hb3 ⊢;clear Aq;have k1:=Ab (o:=0) hb1 rfl;have k2:=Ab (o:=1) hb1 rfl;have k3:=Ab (o:=0) hb2 rfl;have k4:=Ab (o:=1) hb2 rfl;(go_wp2_with fail);(with_reducible refine(c0 _ (hw.ext hE)).mono ?_);rintro e w1 ⟨rfl,hx1⟩;replace hb1:=(hx1.block _ (AqI hb1)).trans hb1;replace hb2:=(hx1.block _ (AqI hb2)).trans hb2;replace hb3:=(hx1.block _ (AqI hb3)).trans hb3;replace hE:=hE.trans hx1;clear k1 k2 k3 k4 hx1 c0;have dz:decide (0<z)=false:=decide_eq_false (by omega);have hz':z<=0:=(by omega);clear hz
 go_upto_region 3 with fail
 have Ds:=hE;have n1:=hb1;have n2:=hb2;have n3:=hb3;obtain⟨V,hV⟩:=AqG w1;rw [←hV]at Ds n1 n2 n3 ⊢;clear hV hb1 hb2 hb3 hE dz;have k1:=Ab (o:=0) n1 rfl;have k2:=Ab (o:=1) n1 rfl;have k3:=Ab (o:=0) n2 rfl;have k4:=Ab (o:=1) n2 rfl;have k5:=Ab (o:=0) n3 rfl;have k6:=Ab (o:=1) n3 rfl;clear n1 n2 n3;(go_wp2_with fail);(with_reducible refine(c1 _ (hw.ext Ds)).mono ?_);rintro e w2 ⟨rfl,hx2⟩;have j1:=hx2.cellS k1;have j2:=hx2.cellS k2;have j3:=hx2.cellS k3;have j4:=hx2.cellS k4;have j5:=hx2.cellS k5;have j6:=hx2.cellS k6;replace Ds:=Ds.trans hx2;clear k1 k2 k3 k4 k5 k6 hx2 c1;by_cases hu:u<=0
 ·have du:decide (u<=0)=true:=decide_eq_true hu;(go_wp2_with fail);(with_reducible refine(c2 _ (hw.ext Ds)).mono ?_);rintro e w3 ⟨rfl,hx3⟩;have i1:=hx3.cellS j1;have i2:=hx3.cellS j2;have i3:=hx3.cellS j3;have i4:=hx3.cellS j4;have i5:=hx3.cellS j5;have i6:=hx3.cellS j6;replace Ds:=Ds.trans hx3;clear j1 j2 j3 j4 j5 j6 hx3 c2;by_cases hv:v<=0
  ·have dv:decide (v<=0)=true:=decide_eq_true hv;have hrt:r=decide (t=0):=(by rw [HR.out];unfold Ks;rw [du,dv];rfl);have YW:=AqH hrt;clear hrt;(go_wp2_with fail);(with_reducible refine(c3 _ (hw.ext Ds)).mono ?_);rintro e w4 ⟨rfl,Ai⟩;go_wp2;go_ret;exact⟨by rw [YW.out];rfl,Ds.trans Ai⟩
  ·have dv:decide (v<=0)=false:=decide_eq_false hv;have hrt:r=false:=(by rw [HR.out];unfold Ks;rw [du,dv];rfl);subst hrt;have hv':0<v:=(by omega);clear hv c3;go_wp2;go_ret;exact⟨rfl,Ds⟩
 ·have du:decide (u<=0)=false:=decide_eq_false hu;have hrt:r=false:=(by rw [HR.out];unfold Ks;rw [du];rfl);subst hrt;have Nq:0<u:=(by omega);clear hu c2 c3;go_wp2;go_ret;exact⟨rfl,Ds⟩
theorem Alv(a b p:Pt){k:Nat}(ha:Ar k a)(hb:Ar k b)(hp:Ar k p)(hk:0<k)(hk2:k<=400)(hz:0<Be a b)(w:World)(hw:Am w) :
  Calls Tryz.prog 152 #[Ak a,Ak b,Ak p] w (Bv (N4 b a p) w):=by
 have c0:=IE a b ha hb hk hk2;have c1:=IE b p hb hp hk hk2;have c2:=IE p a hp ha hk hk2;have c3:=LQ b a p hb ha hp hk hk2;unfold N4;generalize Be a b=z at *;generalize Be b p=u at *;generalize Be p a=v at *;generalize AH (Al b a p)=t at *;obtain⟨W,hW,hE,hb1,hb2,hb3⟩:=P0 w (.cells #[S (R a.x),S (R a.y)] 92) (.cells #[S (R b.x),S (R b.y)] 92) (.cells #[S (R p.x),S (R p.y)] 92);obtain⟨r,hr⟩:=AqG (Ks u v t);rw [←hr];have HR:=AqH hr;unfold Ak at c0 c1 c2 c3 ⊢;clear ha hb hp hr;go_enter Tryz.func152,Tryz.ntmps152
 go_upto_region 1 with fail
 rw [←hW];clear hW;obtain⟨ba,Aq⟩:=AqG w.heap.size;have hle:w.heap.size<=ba:=(by omega);rw [←Aq]at hb1 hb2 hb3 ⊢;clear Aq;have k1:=Ab (o:=0) hb1 rfl;have k2:=Ab (o:=1) hb1 rfl;have k3:=Ab (o:=0) hb2 rfl;have k4:=Ab (o:=1) hb2 rfl;(go_wp2_with fail);(with_reducible refine(c0 _ (hw.ext hE)).mono ?_);rintro e w1 ⟨rfl,hx1⟩;replace hb1:=(hx1.block _ (AqI hb1)).trans hb1;replace hb2:=(hx1.block _ (AqI hb2)).trans hb2;replace hb3:=(hx1.block _ (AqI hb3)).trans hb3;replace hE:=hE.trans hx1;clear k1 k2 k3 k4 hx1 c0;have dz:decide (0<z)=true:=decide_eq_true hz;have k1:=Ab (o:=0) hb1 rfl;have k2:=Ab (o:=1) hb1 rfl;have k3:=Ab (o:=0) hb2 rfl;have k4:=Ab (o:=1) hb2 rfl;have f1:=AK (o:=0) hb1;have f2:=AK (o:=1) hb1;have f3:=AK (o:=0) hb2;have f4:=AK (o:=1) hb2
 go_upto_region 3 with fail
 obtain⟨V,hV⟩:=AqG ((((w1.setCell ⟨ba,0,none⟩ (S (R b.x))).setCell ⟨ba,1,none⟩ (S (R b.y))).setCell ⟨ba+1,0,none⟩ (S (R a.x))).setCell ⟨ba+1,1,none⟩ (S (R a.y)));rw [←hV]
 have Ds:Aa w V:=by rw [hV];exact(((hE.setCell (p:=⟨ba,0,none⟩) hle _).setCell (p:=⟨ba,1,none⟩) hle _).setCell (p:=⟨ba+1,0,none⟩) (Nat.le_succ_of_le hle) _).setCell (p:=⟨ba+1,1,none⟩) (Nat.le_succ_of_le hle) _
 have n1:V.heap[ba]?=some (.cells #[S (R b.x),S (R b.y)] 92):=by rw [hV,Below.heap_setCell _ _ _ _ (show ba≠ba+1 by omega),Below.heap_setCell _ _ _ _ (show ba≠ba+1 by omega)];exact rO _ _ hb1
 have n2:V.heap[ba+1]?=some (.cells #[S (R a.x),S (R a.y)] 92):=by rw [hV];exact rO _ _ (by rw [Below.heap_setCell _ _ _ _ (show ba+1≠ba by omega),Below.heap_setCell _ _ _ _ (show ba+1≠ba by omega)];exact hb2)
 have n3:V.heap[ba+1+1]?=some (.cells #[S (R p.x),S (R p.y)] 92):=by rw [hV,Below.heap_setCell _ _ _ _ (show ba+1+1≠ba+1 by omega),Below.heap_setCell _ _ _ _ (show ba+1+1≠ba+1 by omega),Below.heap_setCell _ _ _ _ (show ba+1+1≠ba by omega),Below.heap_setCell _ _ _ _ (show ba+1+1≠ba by omega)];exact hb3
 clear hV k1 k2 k3 k4 f1 f2 f3 f4 hb1 hb2 hb3 hE dz;have k1:=Ab (o:=0) n1 rfl;have k2:=Ab (o:=1) n1 rfl;have k3:=Ab (o:=0) n2 rfl;have k4:=Ab (o:=1) n2 rfl;have k5:=Ab (o:=0) n3 rfl;have k6:=Ab (o:=1) n3 rfl;clear n1 n2 n3;(go_wp2_with fail);(with_reducible refine(c1 _ (hw.ext Ds)).mono ?_);rintro e w2 ⟨rfl,hx2⟩;have j1:=hx2.cellS k1;have j2:=hx2.cellS k2;have j3:=hx2.cellS k3;have j4:=hx2.cellS k4;have j5:=hx2.cellS k5;have j6:=hx2.cellS k6;replace Ds:=Ds.trans hx2;clear k1 k2 k3 k4 k5 k6 hx2 c1;by_cases hu:u<=0
 ·have du:decide (u<=0)=true:=decide_eq_true hu;(go_wp2_with fail);(with_reducible refine(c2 _ (hw.ext Ds)).mono ?_);rintro e w3 ⟨rfl,hx3⟩;have i1:=hx3.cellS j1;have i2:=hx3.cellS j2;have i3:=hx3.cellS j3;have i4:=hx3.cellS j4;have i5:=hx3.cellS j5;have i6:=hx3.cellS j6;replace Ds:=Ds.trans hx3;clear j1 j2 j3 j4 j5 j6 hx3 c2;by_cases hv:v<=0
  ·have dv:decide (v<=0)=true:=decide_eq_true hv;have hrt:r=decide (t=0):=(by rw [HR.out];unfold Ks;rw [du,dv];rfl);have YW:=AqH hrt;clear hrt;(go_wp2_with fail);(with_reducible refine(c3 _ (hw.ext Ds)).mono ?_);rintro e w4 ⟨rfl,Ai⟩;go_wp2;go_ret;exact⟨by rw [YW.out];rfl,Ds.trans Ai⟩
  ·have dv:decide (v<=0)=false:=decide_eq_false hv;have hrt:r=false:=(by rw [HR.out];unfold Ks;rw [du,dv];rfl);subst hrt;have hv':0<v:=(by omega);clear hv c3;go_wp2;go_ret;exact⟨rfl,Ds⟩
 ·have du:decide (u<=0)=false:=decide_eq_false hu;have hrt:r=false:=(by rw [HR.out];unfold Ks;rw [du];rfl);subst hrt;have Nq:0<u:=(by omega);clear hu c2 c3;go_wp2;go_ret;exact⟨rfl,Ds⟩
theorem ug(a b p:Pt){k:Nat}(ha:Ar k a)(hb:Ar k b)(hp:Ar k p)(hk:0<k)(hk2:k<=400)(w:World)(hw:Am w) :
  Calls Tryz.prog 152 #[Ak a,Ak b,Ak p] w (Bv (GM a b p) w):=by
 unfold GM
 split
 ·exact Alv a b p ha hb hp hk hk2 (by assumption) w hw
 ·exact Alw a b p ha hb hp hk hk2 (by assumption) w hw
structure Af(W:World) where
 w:World
 h:Aa W w
instance (W:World):Inhabited (Af W):=⟨⟨W,Aa.refl W⟩⟩
theorem Af.cell{W:World}{a:Addr}{v:Value}(h:W.cell? a=some v)(p:Af W):p.w.cell? a=some v:=p.h.cellS h
theorem F5{P:Program}{id:Nat}{Q:Exit→Act→World→Prop}{a:Act}{W:World}{l:List Oper}(hm:P.follows .mixedOrders=true)(hB:Region.lexB .any l.toArray=true)
  (h:wpQuiet P l.toArray (fun w'=>∃p:Af W,w'=p.w) (fun a'=>∀w',(∃p:Af W,w'=p.w)→Q .normal a' w') l a):(Code.region id l.toArray true).wp P Q a W:=
 wp_region_quiet (C:=fun w'=>∃p:Af W,w'=p.w) hm hB ⟨⟨W.drew,(Aa.refl W).drew⟩,rfl⟩ (by simpa using h)
section
variable {P : Program} {f : FuncId} {args : Array Value} {W : World} {p : Af W}
theorem Ei{n:Int}(h:Calls P f args p.w (Ax n p.w)):Calls P f args p.w fun e w''=>e=.returned (.int .i64 n)/\∃q:Af W,w''=q.w:=
 h.mono fun _ w1 ⟨he,hx⟩=>⟨he,⟨w1,p.h.trans hx⟩,rfl⟩
theorem uV{l:Bs}(h:Calls P f args p.w (Bg l p.w)):Calls P f args p.w fun e w''=>e=.returned (S l)/\∃q:Af W,w''=q.w:=
 h.mono fun _ w1 ⟨he,hx⟩=>⟨he,⟨w1,p.h.trans hx⟩,rfl⟩
theorem uU{b:Bool}(h:Calls P f args p.w (Bv b p.w)):Calls P f args p.w fun e w''=>e=.returned (.bool b)/\∃q:Af W,w''=q.w:=
 h.mono fun _ w1 ⟨he,hx⟩=>⟨he,⟨w1,p.h.trans hx⟩,rfl⟩
end
def Ap(p q:Pt):Bool:=decide (p.x=q.x)&&decide (p.y=q.y)
theorem C0{p q:Pt} : Ap p q=true↔p=q:=by
 unfold Ap;rw [Bool.and_eq_true,decide_eq_true_eq,decide_eq_true_eq];constructor
 ·rintro⟨h1,h2⟩
  cases p;cases q;simp_all
 ·rintro rfl;exact⟨rfl,rfl⟩
theorem JP(p q:Rat):(R p == R q)=decide (p=q):=by
 by_cases h:p=q
 ·subst h;simp
 ·rw [decide_eq_false h,beq_eq_false_iff_ne];exact fun e=>h (NQ e)
theorem lW(p q:Pt)(W:World):(binOp .eql 92 (.agg #[S (R p.x),S (R p.y)]) (.agg #[S (R q.x),S (R q.y)])).run Tryz.prog W=.ok (.bool (Ap p q)) W:=by
 unfold Ap;rw [←JP,←JP]
 cases b1:(R p.x == R q.x)<;>cases b2:(R p.y == R q.y)<;>simp [go_sem,b1,b2]
theorem xf(p q:Pt)(W:World):(binOp .neq 92 (.agg #[S (R p.x),S (R p.y)]) (.agg #[S (R q.x),S (R q.y)])).run Tryz.prog W=.ok (.bool (!Ap p q)) W:=by
 unfold Ap;rw [←JP,←JP]
 cases b1:(R p.x == R q.x)<;>cases b2:(R p.y == R q.y)<;>simp [go_sem,b1,b2]
theorem QR(q:Rat):-1<=AH q/\AH q<=1:=by unfold AH;split<;>(try split)<;>omega
def KX(x y z:Pt):Bool:=GM x y z&&(!Ap z x && !Ap z y)
def Yq(a b c d:Pt):Bool:=Ap a c||(Ap a d||(Ap b c||Ap b d))
def K2(a b c:Pt):Int:=AH (Al a b c)
def QH(a b c d:Pt):Bool:=decide (K2 a b c*K2 a b d<0)&&decide (K2 c d a*K2 c d b<0)
def IL(a b c d:Pt):List (Pt×Pt×Pt):=[(c,d,a),(c,d,b),(a,b,c),(a,b,d)]
def N7(a b c d:Pt):Bool:=(IL a b c d).any (fun t=>KX t.1 t.2.1 t.2.2)||(!Yq a b c d&&QH a b c d)
def QU(a b c d:Pt):Array Value:=#[S (R c.x),S (R c.y),S (R d.x),S (R d.y),S (R a.x),S (R a.y),S (R c.x),S (R c.y),S (R d.x),S (R d.y),S (R b.x),S (R b.y),S (R a.x),S (R a.y),S (R b.x),S (R b.y),S (R c.x),S (R c.y),S (R a.x),S (R a.y),S (R b.x),S (R b.y),S (R d.x),S (R d.y)]
theorem AnS(a b c d:Pt){k:Nat}(ha:Ar k a)(hb:Ar k b)(hc:Ar k c)(hd:Ar k d){j:Nat}(hj:j<4) :
  ∃x y z:Pt,(∀W,(Instr.index 205 (.agg (QU a b c d)) (.int .i64 (j:Nat))).run Tryz.prog W=.ok (.agg #[S (R x.x),S (R x.y),S (R y.x),S (R y.y),S (R z.x),S (R z.y)]) W)/\(IL a b c d)[j]?=some (x,y,z)/\Ar k x/\Ar k y/\Ar k z:=by
 obtain rfl|rfl|rfl|rfl:j=0∨j=1∨j=2∨j=3:=by omega
 ·exact⟨c,d,a,fun W=>by unfold QU;kernel_rfl,rfl,hc,hd,ha⟩
 ·exact⟨c,d,b,fun W=>by unfold QU;kernel_rfl,rfl,hc,hd,hb⟩
 ·exact⟨a,b,c,fun W=>by unfold QU;kernel_rfl,rfl,ha,hb,hc⟩
 ·exact⟨a,b,d,fun W=>by unfold QU;kernel_rfl,rfl,ha,hb,hd⟩
theorem AcQ(w:World)(o1 o2 o3 o4:Obj):∃W,W=(((w.alloc o1).alloc o2).alloc o3).alloc o4/\Aa w W/\W.heap[w.heap.size]?=some o1/\W.heap[w.heap.size+1]?=some o2/\W.heap[w.heap.size+1+1]?=some o3/\W.heap[w.heap.size+1+1+1]?=some o4:=by
 obtain⟨V,hV,hE,h1,h2,h3⟩:=P0 w o1 o2 o3;have hs:V.heap.size=w.heap.size+1+1+1:=(by rw [hV];simp);have h4:=AqJ V o4;have hx:=(Aa.refl V).alloc o4;rw [hs]at h4;exact⟨V.alloc o4,by rw [hV],hE.alloc o4,(hx.block _ (AqI h1)).trans h1,(hx.block _ (AqI h2)).trans h2,(hx.block _ (AqI h3)).trans h3,h4⟩
theorem Ali(a b c d:Pt){k:Nat}(ha:Ar k a)(hb:Ar k b)(hc:Ar k c)(hd:Ar k d)(hk:0<k)(hk2:k<=400)(w:World)(hw:Am w) :
  Calls Tryz.prog 80 #[Ak a,Ak b,Ak c,Ak d] w (Bv (N7 a b c d) w):=by
 have t1:=LQ a b c ha hb hc hk hk2;have t2:=LQ a b d ha hb hd hk hk2;have t3:=LQ c d a hc hd ha hk hk2;have t4:=LQ c d b hc hd hb hk hk2;have Xc:=@AnS a b c d k ha hb hc hd;unfold QU at Xc;have r1:=QR (Al a b c);have r2:=QR (Al a b d);have r3:=QR (Al c d a);have r4:=QR (Al c d b);obtain⟨r,hr⟩:=AqG (N7 a b c d);rw [←hr];have HR:=AqH hr;have HP:=AqH (show QH a b c d=(decide (K2 a b c*K2 a b d<0)&&decide (K2 c d a*K2 c d b<0))from rfl);have KE:=AqH (show Yq a b c d=(Ap a c||(Ap a d||(Ap b c||Ap b d)))from rfl);have pe:=lW;have pn:=xf;unfold Ak at t1 t2 t3 t4 ⊢;obtain⟨W,hW,hE,hb1,hb2,hb3,hb4⟩:=AcQ w (.cells #[S (R a.x),S (R a.y)] 92) (.cells #[S (R b.x),S (R b.y)] 92) (.cells #[S (R c.x),S (R c.y)] 92) (.cells #[S (R d.x),S (R d.y)] 92);clear hr ha hb hc hd;go_enter Tryz.func80,Tryz.ntmps80
 go_upto_region 1 with fail
 rw [←hW];clear hW;obtain⟨ba,Aq⟩:=AqG w.heap.size;rw [←Aq]at hb1 hb2 hb3 hb4 ⊢;clear Aq;have k1:=Ab (o:=0) hb1 rfl;have k2:=Ab (o:=1) hb1 rfl;have k3:=Ab (o:=0) hb2 rfl;have k4:=Ab (o:=1) hb2 rfl;have k5:=Ab (o:=0) hb3 rfl;have k6:=Ab (o:=1) hb3 rfl;have k7:=Ab (o:=0) hb4 rfl;have k8:=Ab (o:=1) hb4 rfl
 go_cut [9] (fun v9 wx=>∃sh,v9=.bool sh/\sh=Yq a b c d/\wx=W)
 case first=>
  cases e1:Ap a c
  ·cases e2:Ap a d
   ·cases e3:Ap b c
    ·cases e4:Ap b d
     ·go_wp2;go_meet;exact⟨_,rfl,by rw [KE.out,e1,e2,e3,e4];rfl,rfl⟩
     ·go_wp2;go_meet;exact⟨_,rfl,by rw [KE.out,e1,e2,e3,e4];rfl,rfl⟩
    ·go_wp2;go_meet;exact⟨_,rfl,by rw [KE.out,e1,e2,e3];rfl,rfl⟩
   ·go_wp2;go_meet;exact⟨_,rfl,by rw [KE.out,e1,e2];rfl,rfl⟩
  ·go_wp2;go_meet;exact⟨_,rfl,by rw [KE.out,e1];rfl,rfl⟩
 case rest=>
  obtain⟨sh,rfl,Nn,rfl⟩:=hcut;have DN:=AqH Nn;clear Nn KE;have CP:=hw.ext hE
  go_upto_region 3 with fail
  go_loopw [47] (fun i wr=>∃j:Nat,i=.int .i64 (j:Nat)/\j<=4/\(∀t∈(IL a b c d).take j,KX t.1 t.2.1 t.2.2=false)/\Aa wc wr) (fun i _=>4-(intOf i).toNat)
  case atStart=>exact⟨0,rfl,by omega,by simp,Aa.refl _⟩
  case round=>
   obtain⟨j,rfl,hj,Aj,Ac⟩:=hrel;have HO:=AqH Aj;clear Aj;by_cases hlt:j<4
   ·obtain⟨x,y,z,hix,Em,zx,zy,zz⟩:=Xc hlt;have kO:=ug x y z zx zy zz hk hk2;have HX:=AqH (show KX x y z=(GM x y z&&(!Ap z x && !Ap z y))from rfl);have HG:=AqH Em;have hj0:(j:Int)<4:=(by omega);unfold Ak at kO;clear Em Xc zx zy zz t1 t2 t3 t4 r1 r2 r3 r4 k1 k2 k3 k4 k5 k6 k7 k8 hb1 hb2 hb3 hb4
    go_upto_region 5 with fail
    have CX:=AqJ wr (.cells #[S (R x.x),S (R x.y),S (R y.x),S (R y.y),S (R z.x),S (R z.y)] 204);have AD:=Ac.alloc (.cells #[S (R x.x),S (R x.y),S (R y.x),S (R y.y),S (R z.x),S (R z.y)] 204);generalize wr.alloc (.cells #[S (R x.x),S (R x.y),S (R y.x),S (R y.y),S (R z.x),S (R z.y)] 204)=V at *;obtain⟨bv,zD⟩:=AqG wr.heap.size;rw [←zD]at CX ⊢;clear zD;have s1:=Ab (o:=0) CX rfl;have s2:=Ab (o:=1) CX rfl;have s3:=Ab (o:=2) CX rfl;have s4:=Ab (o:=3) CX rfl;have s5:=Ab (o:=4) CX rfl;have s6:=Ab (o:=5) CX rfl;(go_wp2_with fail);(with_reducible refine(kO _ (CP.ext AD)).mono ?_);rintro e w1 ⟨rfl,hx1⟩;have Dj:=(hx1.block _ (AqI CX)).trans CX;have hxb:=AD.trans hx1;have q1:=Ab (o:=0) Dj rfl;have q2:=Ab (o:=1) Dj rfl;have q3:=Ab (o:=2) Dj rfl;have q4:=Ab (o:=3) Dj rfl;have q5:=Ab (o:=4) Dj rfl;have q6:=Ab (o:=5) Dj rfl;clear s1 s2 s3 s4 s5 s6 CX hx1 AD kO Dj
    have hgo:KX x y z=false→∀t∈(IL a b c d).take (j+1),KX t.1 t.2.1 t.2.2=false:=by
     intro h0 t ht;have hl:j<(IL a b c d).length:=hlt;rw [AqN hl]at ht
     rcases List.mem_append.1 ht with h|h
     ·exact HO.out t h
     ·have e0:(IL a b c d)[j]=(x,y,z):=Option.some.inj ((AqP hl).symm.trans HG.out);rw [e0,AqW]at h;rw [h];exact h0
    have hst:KX x y z=true→r=true:=by
     intro h0;rw [HR.out];unfold N7;rw [Bool.or_eq_true]
     left
     rw [List.any_eq_true];exact⟨(x,y,z),List.mem_of_getElem? HG.out,h0⟩
    have YJ:=AqH hgo;have HST:=AqH hst;clear hgo hst
    cases e0:GM x y z
    ·have HE:=AqH e0;clear e0;go_wp2;go_roundw
     case rel=>exact⟨j+1,by go_num,by omega,YJ.out (by rw [HX.out,HE.out];rfl),hxb⟩
     case measure=>simp [intOf];omega
    ·cases e1:Ap z x
     ·cases e2:Ap z y
      ·have HE:=AqH (And.intro e0 (And.intro e1 e2));have hrt:r=true:=HST.out (by rw [HX.out,e0,e1,e2];rfl);subst hrt;go_wp2;go_ret;exact⟨rfl,hE.trans hxb⟩
      ·have HE:=AqH (And.intro e0 (And.intro e1 e2));go_wp2;go_roundw
       case rel=>exact⟨j+1,by go_num,by omega,YJ.out (by rw [HX.out,HE.out.1,HE.out.2.1,HE.out.2.2];rfl),hxb⟩
       case measure=>simp [intOf];omega
     ·have HE:=AqH (And.intro e0 e1);go_wp2;go_roundw
      case rel=>exact⟨j+1,by go_num,by omega,YJ.out (by rw [HX.out,HE.out.1,HE.out.2];rfl),hxb⟩
      case measure=>simp [intOf];omega
   ·have hle:(4:Int)<=(j:Int):=(by omega);obtain rfl:j=4:=by omega
    have hno:(IL a b c d).any (fun t=>KX t.1 t.2.1 t.2.2)=false:=by rw [List.any_eq_false];intro t ht;rw [HO.out t (by rw [AqS (by simp [IL])];exact ht)];simp
    have DI:r=(!sh&&QH a b c d):=(by rw [HR.out,DN.out];unfold N7;rw [hno];rfl);have Ev:=AqH DI;replace hb1:=(Ac.block _ (AqI hb1)).trans hb1;replace hb2:=(Ac.block _ (AqI hb2)).trans hb2;replace hb3:=(Ac.block _ (AqI hb3)).trans hb3;replace hb4:=(Ac.block _ (AqI hb4)).trans hb4;replace hE:=hE.trans Ac;clear k1 k2 k3 k4 k5 k6 k7 k8 hno DI HO DN CP Ac Xc
    cases sh
    ·have k1:∀p:Af wr,p.w.cell? ⟨ba,0,none⟩=some (S (R a.x)):=Af.cell (Ab hb1 rfl);have k2:∀p:Af wr,p.w.cell? ⟨ba,1,none⟩=some (S (R a.y)):=Af.cell (Ab hb1 rfl);have k3:∀p:Af wr,p.w.cell? ⟨ba+1,0,none⟩=some (S (R b.x)):=Af.cell (Ab hb2 rfl);have k4:∀p:Af wr,p.w.cell? ⟨ba+1,1,none⟩=some (S (R b.y)):=Af.cell (Ab hb2 rfl);have k5:∀p:Af wr,p.w.cell? ⟨ba+1+1,0,none⟩=some (S (R c.x)):=Af.cell (Ab hb3 rfl);have k6:∀p:Af wr,p.w.cell? ⟨ba+1+1,1,none⟩=some (S (R c.y)):=Af.cell (Ab hb3 rfl);have k7:∀p:Af wr,p.w.cell? ⟨ba+1+1+1,0,none⟩=some (S (R d.x)):=Af.cell (Ab hb4 rfl);have k8:∀p:Af wr,p.w.cell? ⟨ba+1+1+1,1,none⟩=some (S (R d.y)):=Af.cell (Ab hb4 rfl);have hwr:=hw.ext hE;have Hz:r=QH a b c d:=(by rw [Ev.out];simp);rw [HP.out]at Hz;unfold K2 at Hz;generalize AH (Al a b c)=u1 at *;generalize AH (Al a b d)=u2 at *;generalize AH (Al c d a)=u3 at *;generalize AH (Al c d b)=u4 at *;obtain⟨Xz,Sr⟩:=AqG (u1*u2);obtain⟨m34,Su⟩:=AqG (u3*u4)
     have Uw:IntKind.i64.wrap (u1*u2)=Xz:=by
      rw [Sr];clear Sr Su Hz;obtain rfl|rfl|rfl:u1 = -1∨u1=0∨u1=1:=by omega
      all_goals (obtain rfl|rfl|rfl:u2 = -1∨u2=0∨u2=1:=by omega)
      all_goals rfl
     have w34:IntKind.i64.wrap (u3*u4)=m34:=by
      rw [Su];clear Sr Su Hz;obtain rfl|rfl|rfl:u3 = -1∨u3=0∨u3=1:=by omega
      all_goals (obtain rfl|rfl|rfl:u4 = -1∨u4=0∨u4=1:=by omega)
      all_goals rfl
     rw [←Sr,←Su]at Hz;clear hb1 hb2 hb3 hb4 r1 r2 r3 r4 Ev HP Sr Su;by_cases n1:Xz<0
     ·have d1:decide (Xz<0)=true:=decide_eq_true n1;rw [d1,Bool.true_and]at Hz;have HRP:=AqH Hz;clear Hz n1
      go_upto_region 8 with fail
      refine F5 (by kernel_rfl) (by kernel_rfl) ?_
      repeat (go_big_quiet_step (first|(with_reducible refine Ei (t1 _ (hwr.ext (Af.h _))))|(with_reducible refine Ei (t2 _ (hwr.ext (Af.h _))))|(with_reducible refine Ei (t3 _ (hwr.ext (Af.h _))))|(with_reducible refine Ei (t4 _ (hwr.ext (Af.h _))))))
      refine wpQuiet_nil ?_;rintro _ ⟨p,rfl⟩;go_wp2;go_ret;exact⟨by rw [HRP.out];rfl,hE.trans p.h⟩
     ·have d1:decide (Xz<0)=false:=decide_eq_false n1;rw [d1,Bool.false_and]at Hz;subst Hz;clear t3 t4 n1
      go_upto_region 8 with fail
      refine F5 (by kernel_rfl) (by kernel_rfl) ?_
      repeat (go_big_quiet_step (first|(with_reducible refine Ei (t1 _ (hwr.ext (Af.h _))))|(with_reducible refine Ei (t2 _ (hwr.ext (Af.h _))))|(with_reducible refine Ei (t3 _ (hwr.ext (Af.h _))))|(with_reducible refine Ei (t4 _ (hwr.ext (Af.h _))))))
      refine wpQuiet_nil ?_;rintro _ ⟨p,rfl⟩;go_wp2;go_ret;exact⟨rfl,hE.trans p.h⟩
    ·have hrt:r=false:=(by rw [Ev.out];rfl);subst hrt
     go_upto_region 8 with fail
     refine F5 (by kernel_rfl) (by kernel_rfl) ?_
     repeat (go_big_quiet_step (first|(with_reducible refine Ei (t1 _ (hwr.ext (Af.h _))))|(with_reducible refine Ei (t2 _ (hwr.ext (Af.h _))))|(with_reducible refine Ei (t3 _ (hwr.ext (Af.h _))))|(with_reducible refine Ei (t4 _ (hwr.ext (Af.h _))))))
     refine wpQuiet_nil ?_;rintro _ ⟨p,rfl⟩;go_wp2;go_ret;exact⟨rfl,hE.trans p.h⟩
def GH(l:List Pt)(p:Pt):Int:=match l.findIdx? (Ap p)with|some j=>(j:Int)|none=>-1
theorem Ai4{l:List Pt}{p:Pt}{j:Nat}(hj:j<l.length)(hno:∀q∈l.take j,Ap p q=false)(h:Ap p l[j]=true):GH l p=(j:Int):=by
 unfold GH
 have:l.findIdx? (Ap p)=some j:=by rw [List.findIdx?_eq_some_iff_getElem];refine⟨hj,h,fun i hi=>?_⟩;rw [Bool.not_eq_true];refine hno l[i] ?_;rw [List.mem_take_iff_getElem];exact⟨i,by omega,rfl⟩
 rw [this]
theorem Ai6{l:List Pt}{p:Pt}(hno:∀q∈l,Ap p q=false):GH l p = -1:=by
 unfold GH
 have:l.findIdx? (Ap p)=none:=by rw [List.findIdx?_eq_none_iff];exact hno
 rw [this]
theorem Ai3(l:List Pt)(p:Pt):decide (0<=GH l p)=l.any (Ap p):=by
 unfold GH
 cases h:l.findIdx? (Ap p)with
 | none=>
  rw [List.findIdx?_eq_none_iff]at h
  symm
  simp only [Int.reduceNeg,Int.reduceLE,decide_false,List.any_eq_false];intro x hx;rw [h x hx];simp
 | some j=>
  rw [List.findIdx?_eq_some_iff_getElem]at h;obtain⟨hj,h1,_⟩:=h;rw [decide_eq_true (by simp)]
  symm
  rw [List.any_eq_true];exact⟨_,AqL hj,h1⟩
theorem li(l:List Pt)(p:Pt)(A:Option Addr)(c:Nat)(w:World)(hr:Ad w A (flat (Ao l)))(hc:l.length<=c)(hcm:c<=9223372036854775807) :
  Calls Tryz.prog 148 #[.slice A l.length c,Ak p] w (Ax (GH l p) w):=by
 have pe:=lW;have hb0:=AqJ w (.cells #[S (R p.x),S (R p.y)] 92);have hE:=(Aa.refl w).alloc (.cells #[S (R p.x),S (R p.y)] 92);obtain⟨r,hr0⟩:=AqG (GH l p);rw [←hr0];have HR:=AqH hr0;unfold Ak;clear hr0;go_enter Tryz.func148,Tryz.ntmps148
 go_upto_region 2 with fail
 generalize w.alloc (.cells #[S (R p.x),S (R p.y)] 92)=V at *;obtain⟨bp,AY⟩:=AqG w.heap.size;rw [←AY]at hb0 ⊢;clear AY
 go_loopw [8] (fun i wr=>∃j:Nat,i=.int .i64 (j:Nat)/\j<=l.length/\(∀q∈l.take j,Ap p q=false)/\Aa V wr) (fun i _=>l.length-(intOf i).toNat)
 case atStart=>exact⟨0,rfl,by omega,by simp,Aa.refl _⟩
 case round=>
  obtain⟨j,rfl,hj,Aj,Ac⟩:=hrel;have HO:=AqH Aj;clear Aj;have hbr:=(Ac.block _ (AqI hb0)).trans hb0;have s1:=Ab (o:=0) hbr rfl;have s2:=Ab (o:=1) hbr rfl;clear hbr;by_cases hlt:j<l.length
  ·obtain⟨b,o,rfl,hg1,hg2⟩:=C2 (hr.ext (hE.trans Ac)) hlt;obtain⟨q,hq⟩:=AqG (l[j]);rw [←hq]at hg1 hg2;have hj0:(0:Int)<=(j:Int):=(by omega);have AV:(j:Int)<(l.length:Int):=(by omega);have HQ:=AqH hq;clear hq
   cases e0:Ap p q
   ·have HE:=AqH e0
    go_upto_region 4 with fail
    go_quiet (fail)
    go_wp2;go_roundw
    case rel=>
     refine⟨j+1,by go_num,hlt,?_,Ac.drewN _⟩;intro x hx;rw [AqN hlt,←HQ.out]at hx
     rcases List.mem_append.1 hx with h|h
     ·exact HO.out x h
     ·simp only [AqW]at h;rw [h];exact HE.out
    case measure=>simp [intOf];omega
   ·have Er:r=(j:Int):=(by rw [HR.out];exact Ai4 hlt HO.out (by rw [←HQ.out];exact e0));subst Er
    go_upto_region 4 with fail
    go_quiet (fail)
    go_wp2;go_ret;exact⟨rfl,(hE.trans Ac).drewN _⟩
  ·have hle:(l.length:Int)<=(j:Int):=(by omega);have Er:r = -1:=(by rw [HR.out];exact Ai6 (by have:=HO.out;rw [AqS (by omega)]at this;exact this));subst Er;clear s1 s2;go_wp2;go_ret;exact⟨rfl,hE.trans Ac⟩
theorem contains_c(l:List Pt)(p:Pt)(A:Option Addr)(c:Nat)(w:World)(hr:Ad w A (flat (Ao l)))(hc:l.length<=c)(hcm:c<=9223372036854775807) :
  Calls Tryz.prog 78 #[.slice A l.length c,Ak p] w (Bv (l.any (Ap p)) w):=by
 have hE:=(Aa.refl w).alloc (.cells #[S (R p.x),S (R p.y)] 92);have ix:=li l p A c (w.alloc (.cells #[S (R p.x),S (R p.y)] 92)) (hr.ext hE) hc hcm;have ha:=Ai3 l p;obtain⟨r,hr0⟩:=AqG (l.any (Ap p));rw [←hr0]at ha ⊢;generalize GH l p=z at *;unfold Ak at ix ⊢;clear hr hr0;go_enter Tryz.func78,Tryz.ntmps78;(go_wp2_with fail);(with_reducible refine ix.mono ?_);rintro e w1 ⟨rfl,hx⟩;go_wp2;go_ret;exact⟨by rw [←ha];rfl,hE.trans hx⟩
/-! ### Edges -/
structure Az where
 f:Int
 t:Int
 l:Int
 r:Int
def aJ(e:Az):Value:=.agg #[.int .i64 e.f,.int .i64 e.t,.int .i64 e.l,.int .i64 e.r]
def B7(l:List Az):List Value:=l.flatMap (fun e=>[.int .i64 e.f,.int .i64 e.t,.int .i64 e.l,.int .i64 e.r])
theorem Ae0(l:List Az):(B7 l).length=l.length*4:=by
 induction l with
 | nil=>rfl
 | cons e l ih=>unfold B7 at *;simp only [List.flatMap_cons,List.length_append,ih,List.length_cons,List.length_nil];omega
theorem uE:∀(l:List Az) (j:Nat) (h:j<l.length),(B7 l)[j*4]?=some (.int .i64 l[j].f)/\(B7 l)[j*4+1]?=some (.int .i64 l[j].t)/\(B7 l)[j*4+2]?=some (.int .i64 l[j].l)/\(B7 l)[j*4+3]?=some (.int .i64 l[j].r)
 | e::l,0,_=>⟨rfl,rfl,rfl,rfl⟩
 | e::l,j+1,h=>by
  have ih:=uE l j (by simpa using h);have e0:B7 (e::l)=.int .i64 e.f :: .int .i64 e.t :: .int .i64 e.l :: .int .i64 e.r::B7 l:=rfl;rw [e0];have e1:(j+1)*4=j*4+1+1+1+1:=(by omega);rw [e1]
  simpa using ih
theorem Ui{w:World}{A:Option Addr}{l:List Az}(hr:Ad w A (B7 l)){j:Nat}(h:j<l.length):∃b o,A=some ⟨b,o,none⟩/\w.cell? ⟨b,o+j*4,none⟩=some (.int .i64 l[j].f)/\w.cell? ⟨b,o+j*4+1,none⟩=some (.int .i64 l[j].t)/\w.cell? ⟨b,o+j*4+2,none⟩=some (.int .i64 l[j].l)/\w.cell? ⟨b,o+j*4+3,none⟩=some (.int .i64 l[j].r):=by
 have hl:=Ae0 l;obtain⟨b,o,e,hcs⟩:=hr.ad (by omega);obtain⟨f1,f2,f3,f4⟩:=uE l j h;have g1:=hcs (j*4) (by omega);have g2:=hcs (j*4+1) (by omega);have g3:=hcs (j*4+2) (by omega);have g4:=hcs (j*4+3) (by omega);rw [AqP (by omega),AqO]at f1 f2 f3 f4;rw [f1]at g1;rw [f2,←Nat.add_assoc]at g2;rw [f3,←Nat.add_assoc]at g3;rw [f4,←Nat.add_assoc]at g4;exact⟨b,o,e,g1,g2,g3,g4⟩
theorem Am9{P:Program}{w:World}(ts:Array TypeId)(t:TypeId)(k:IntKind)(a b:Int):(Builtin.min_ ts t #[.int k a,.int k b]).run P w=.ok (.int k (min a b)) w:=by
 have m:∀x y:Int,(if y<x then y else x)=min x y:=(by intro x y;split<;>omega);simp only [Builtin.min_,List.foldlM_cons,List.foldlM_nil,Builtin.min2];simp [m]
theorem wz{P:Program}{w:World}(ts:Array TypeId)(t:TypeId)(k:IntKind)(a b:Int):(Builtin.max_ ts t #[.int k a,.int k b]).run P w=.ok (.int k (max a b)) w:=by
 have m:∀x y:Int,(if y>x then y else x)=max x y:=(by intro x y;split<;>omega);simp only [Builtin.max_,List.foldlM_cons,List.foldlM_nil,Builtin.max2];simp [m]
def FG(f e:Az):Bool:=(decide (f.f=e.f)&&decide (f.t=e.t))||(decide (f.f=e.t)&&decide (f.t=e.f))
theorem Aez(f e:Az)(b:Nat)(t:TypeId)(w:World)(hb:w.heap[b]?=some (.cells #[.int .i64 e.f,.int .i64 e.t,.int .i64 e.l,.int .i64 e.r] t)) :
  Calls Tryz.prog 151 #[aJ f,.pointer (some ⟨b,0,none⟩)] w (Bv (FG f e) w):=by
 have k1:=Ab (o:=0) hb rfl;have k2:=Ab (o:=1) hb rfl;have hx:=(Aa.refl w).alloc (.cells #[.int .i64 f.f,.int .i64 f.t,.int .i64 f.l,.int .i64 f.r] 126);have j1:=hx.cellS k1;have j2:=hx.cellS k2;obtain⟨r,hr⟩:=AqG (FG f e);rw [←hr];have HR:=AqH hr;have DI:r=((f.f == e.f)&&(f.t == e.t)||(f.f == e.t)&&(f.t == e.f)):=hr;unfold aJ;clear hr hb k1 k2 HR
 cases h1:(f.f == e.f)<;>cases h2:(f.t == e.t)<;>cases h3:(f.f == e.t)<;>cases h4:(f.t == e.f)
 all_goals (
  rw [h1,h2,h3,h4]at DI;have HH:=AqH DI;clear DI;go_enter Tryz.func151,Tryz.ntmps151;go_wp2;go_ret
  exact⟨by rw [HH.out];rfl,hx⟩)
def Et(n:Nat)(z:Int):Bool:=decide (-1<=z)&&decide (z<(n:Int))
theorem xy(z:Int)(b n g:Nat)(F:Option Addr)(v0 v1:Value)(t:TypeId)(w:World)(hb:w.heap[b]?=some (.cells #[v0,v1,.slice F n g] t)) :
  Calls Tryz.prog 149 #[.int .i64 z,.pointer (some ⟨b,0,none⟩)] w (Bv (Et n z) w):=by
 have k1:=Ab (o:=2) hb rfl;obtain⟨r,hr⟩:=AqG (Et n z);rw [←hr];have HR:=AqH hr;clear hr hb;by_cases h1:-1<=z
 ·have d1:decide (-1<=z)=true:=decide_eq_true h1;by_cases h2:z<(n:Int)
  ·have d2:decide (z<(n:Int))=true:=decide_eq_true h2;have HH:=AqH (show r=true by rw [HR.out];unfold Et;rw [d1,d2];rfl);go_enter Tryz.func149,Tryz.ntmps149;go_wp2;go_ret;exact⟨by rw [HH.out];rfl,Aa.refl _⟩
  ·have d2:decide (z<(n:Int))=false:=decide_eq_false h2;have HH:=AqH (show r=false by rw [HR.out];unfold Et;rw [d1,d2];rfl);clear h2;go_enter Tryz.func149,Tryz.ntmps149;go_wp2;go_ret;exact⟨by rw [HH.out];rfl,Aa.refl _⟩
 ·have d1:decide (-1<=z)=false:=decide_eq_false h1;have HH:=AqH (show r=false by rw [HR.out];unfold Et;rw [d1];rfl);clear h1;go_enter Tryz.func149,Tryz.ntmps149;go_wp2;go_ret;exact⟨by rw [HH.out];rfl,Aa.refl _⟩
def AbK(l:List Az)(e0:Az)(w:World)(e:Ending)(w':World):Prop:=∃k:Int,e=.returned (.int .i64 k)/\(0<=k↔∃p∈l,FG p e0=true)/\Aa w w'
theorem Ai9(l:List Az)(e:Az)(bb:Nat)(t:TypeId)(A:Option Addr)(c:Nat)(w:World)(hr:Ad w A (B7 l))(hc:l.length<=c)(hcm:c<=9223372036854775807)
  (hb:w.heap[bb]?=some (.cells #[.int .i64 e.f,.int .i64 e.t,.int .i64 e.l,.int .i64 e.r] t)) :
  Calls Tryz.prog 228 #[.slice A l.length c,.func (.func 151) #[] #[.pointer (some ⟨bb,0,none⟩)]] w (AbK l e w):=by
 go_enter Tryz.func228,Tryz.ntmps228;go_wp2
 go_loopw [8] (fun i wr=>∃j:Nat,i=.int .i64 (j:Nat)/\j<=l.length/\(∀p∈l.take j,FG p e=false)/\Aa w wr) (fun i _=>l.length-(intOf i).toNat)
 case atStart=>exact⟨0,rfl,by omega,by simp,Aa.refl _⟩
 case round=>
  obtain⟨j,rfl,hj,Aj,Ac⟩:=hrel;have HO:=AqH Aj;clear Aj;by_cases hlt:j<l.length
  ·obtain⟨b,o,rfl,hg1,hg2,hg3,hg4⟩:=Ui (hr.ext Ac) hlt;obtain⟨p,hp⟩:=AqG (l[j]);rw [←hp]at hg1 hg2 hg3 hg4;have hmem:p∈l:=(by rw [hp];exact AqL hlt);have HX:=AqH hp;clear hp;have hj0:(0:Int)<=(j:Int):=(by omega);have AV:(j:Int)<(l.length:Int):=(by omega);have bf:=Aez p e bb t wr ((Ac.block _ (AqI hb)).trans hb);unfold aJ at bf
   cases hL:FG p e
   ·rw [hL]at bf;have FW:=AqH hL;clear hL;(go_wp2_with fail);(with_reducible refine bf.mono ?_);rintro e w2 ⟨rfl,hx2⟩;go_wp2;go_roundw
    case rel=>
     refine⟨j+1,by go_num,hlt,?_,Ac.trans hx2⟩;intro q hq;rw [AqN hlt,←HX.out]at hq
     rcases List.mem_append.1 hq with h|h
     ·exact HO.out q h
     ·simp only [AqW]at h;rw [h];exact FW.out
    case measure=>simp [intOf];omega
   ·rw [hL]at bf;have FW:=AqH hL;clear hL;(go_wp2_with fail);(with_reducible refine bf.mono ?_);rintro e w2 ⟨rfl,hx2⟩;go_wp2;go_ret;exact⟨j,rfl,⟨fun _=>⟨_,hmem,FW.out⟩,fun _=>by omega⟩,Ac.trans hx2⟩
  ·have hle:(l.length:Int)<=(j:Int):=(by omega);go_wp2;go_ret;refine⟨-1,rfl,⟨fun h=>by omega,?_⟩,Ac⟩;rintro⟨p,hp,h⟩;have:=HO.out p (by rw [AqS (by omega)];exact hp);rw [this]at h;cases h
theorem AdV(l:List Az)(e:Az)(bb:Nat)(t:TypeId)(A:Option Addr)(c:Nat)(w:World)(hr:Ad w A (B7 l))(hc:l.length<=c)(hcm:c<=9223372036854775807)
  (hb:w.heap[bb]?=some (.cells #[.int .i64 e.f,.int .i64 e.t,.int .i64 e.l,.int .i64 e.r] t)) :
  Calls Tryz.prog 150 #[.slice A l.length c,.func (.func 151) #[] #[.pointer (some ⟨bb,0,none⟩)]] w (Bv (l.any (FG · e)) w):=by
 have ix:=Ai9 l e bb t A c w hr hc hcm hb;obtain⟨r,hr0⟩:=AqG (l.any (FG · e));rw [←hr0];have HR:=AqH hr0;clear hr hb hr0;go_enter Tryz.func150,Tryz.ntmps150;(go_wp2_with fail);(with_reducible refine ix.mono ?_);rintro e w2 ⟨k,rfl,hk,hx⟩;have HK:=AqH hk;clear hk;go_wp2;go_ret;refine⟨?_,hx⟩
 have e:decide (0<=k)=r:=by
  rw [HR.out]
  cases h:l.any (FG · _)
  ·rw [decide_eq_false_iff_not,HK.out];rintro⟨p,hp,h2⟩;rw [List.any_eq_false]at h;exact h p hp h2
  ·rw [decide_eq_true_eq,HK.out];rw [List.any_eq_true]at h;exact h
 rw [←e];rfl
def JS(np nf:Nat)(pre:List Az)(e:Az):Int:=
 if min e.f e.t<0 then 3 else if (np:Int)<=max e.f e.t then 3 else if e.f=e.t then 17 else if pre.any (FG · e)then 9
 else if Et nf e.l=false then 3 else if Et nf e.r=false then 3 else if e.l=e.r then 7 else 0
structure Cw where
 pts:List Pt
 eds:List Az
 nf:Nat
def DK(A B F:Option Addr)(m:Cw)(c d g:Nat):Value:=.agg #[.slice A m.pts.length c,.slice B m.eds.length d,.slice F m.nf g]
structure K3(m:Cw)(c d g:Nat):Prop where
 c1:m.pts.length<=c
 c2:c<=9223372036854775807
 d1:m.eds.length<=d
 d2:d<=9223372036854775807
 g1:m.nf<=g
 g2:g<=9223372036854775807
theorem Ae2(l:List Az)(i:Nat):B7 (l.take i)=(B7 l).take (i*4):=by
 induction l generalizing i with
 | nil=>simp [B7]
 | cons e l ih=>
  cases i with
  | zero=>simp [B7]
  | succ i=>have e0:∀l,B7 (e::l)=.int .i64 e.f :: .int .i64 e.t :: .int .i64 e.l :: .int .i64 e.r::B7 l:=fun _=>rfl;rw [List.take_succ_cons,e0,e0,ih];have e1:(i+1)*4=i*4+1+1+1+1:=(by omega);rw [e1];simp
theorem Ad.take{w:World}{A:Option Addr}{cs:List Value}(h:Ad w A cs)(n:Nat):Ad w A (cs.take n):=
 ⟨fun h0=>by
  obtain⟨b,o,e,hc⟩:=h.ad (by rw [List.length_take]at h0;omega);refine⟨b,o,e,fun j hj=>?_⟩;rw [List.length_take]at hj
  rw [hc j (by omega),List.getElem_take]⟩
theorem Adp(m:Cw)(A B F:Option Addr)(c d g:Nat)(C4:K3 m c d g)(i:Nat)(hi:i<m.eds.length)(w:World)(hB:Ad w B (B7 m.eds)) :
  Calls Tryz.prog 79 #[DK A B F m c d g,.int .i64 (i:Nat)] w (Ax (JS m.pts.length m.nf (m.eds.take i) m.eds[i]) w):=by
 have vv:=@Am9 Tryz.prog;have Amu:=@wz Tryz.prog;obtain⟨c1,c2,d1,d2,g1,g2⟩:=C4;obtain⟨e,he⟩:=AqG (m.eds[i]);obtain⟨b,o,rfl,hg1,hg2,hg3,hg4⟩:=Ui hB hi;rw [←he]at hg1 hg2 hg3 hg4 ⊢;obtain⟨r,hr⟩:=AqG (JS m.pts.length m.nf (m.eds.take i) e);rw [←hr]
 have hr':r=if min e.f e.t<0 then 3 else if (m.pts.length:Int)<=max e.f e.t then 3 else if e.f=e.t then 17 else if (m.eds.take i).any (FG · e)then 9
  else if Et m.nf e.l=false then 3 else if Et m.nf e.r=false then 3 else if e.l=e.r then 7 else 0:=hr
 have HR:=AqH hr';have hpl:(m.eds.take i).length=i:=by rw [List.length_take];omega
 have hid:∀bb t w',Aa w w'→w'.heap[bb]?=some (.cells #[.int .i64 e.f,.int .i64 e.t,.int .i64 e.l,.int .i64 e.r] t)→Calls Tryz.prog 150 #[.slice (some ⟨b,o,none⟩) i d,.func (.func 151) #[] #[.pointer (some ⟨bb,0,none⟩)]] w' (Bv ((m.eds.take i).any (FG · e)) w'):=by intro bb t w' hx h;have:=AdV (m.eds.take i) e bb t (some ⟨b,o,none⟩) d w' (by rw [Ae2];exact(hB.ext hx).take _) (by omega) d2 h;rw [hpl]at this;exact this
 generalize (m.eds.take i).any (FG · e)=du at *;obtain⟨np,Tp⟩:=AqG m.pts.length;obtain⟨ne,hne⟩:=AqG m.eds.length;obtain⟨nf,Qm⟩:=AqG m.nf;rw [←Tp]at c1 HR;rw [←hne]at d1 hi;rw [←Qm]at g1 HR;unfold DK;rw [←Tp,←hne,←Qm];have Lt:(0:Int)<=(i:Int):=(by omega);have Tb:(i:Int)<(ne:Int):=(by omega);have hix:(i:Int)<=(d:Int):=(by omega);have hM:=AqJ w (.cells #[.slice A np c,.slice (some ⟨b,o,none⟩) ne d,.slice F nf g] 36);have hx0:=(Aa.refl w).alloc (.cells #[.slice A np c,.slice (some ⟨b,o,none⟩) ne d,.slice F nf g] 36);have j1:=hx0.cellS hg1;have j2:=hx0.cellS hg2;have j3:=hx0.cellS hg3;have j4:=hx0.cellS hg4;have hx1:=hx0.alloc (.cells #[.int .i64 e.f,.int .i64 e.t,.int .i64 e.l,.int .i64 e.r] 126);have hD:=AqJ (w.alloc (.cells #[.slice A np c,.slice (some ⟨b,o,none⟩) ne d,.slice F nf g] 36)) (.cells #[.int .i64 e.f,.int .i64 e.t,.int .i64 e.l,.int .i64 e.r] 126);have Fe:=(((Aa.refl _).alloc (.cells #[.int .i64 e.f,.int .i64 e.t,.int .i64 e.l,.int .i64 e.r] 126)).block _ (AqI hM)).trans hM;rw [AqR]at hD;clear he hr hr' hpl Tp hne Qm hB hg1 hg2 hg3 hg4 hM hi;go_enter Tryz.func79,Tryz.ntmps79
 go_upto_region 2 with fail
 clear j1 j2 j3 j4;generalize (w.alloc (.cells #[.slice A np c,.slice (some ⟨b,o,none⟩) ne d,.slice F nf g] 36)).alloc (.cells #[.int .i64 e.f,.int .i64 e.t,.int .i64 e.l,.int .i64 e.r] 126)=V at *;obtain⟨bm,Dv⟩:=AqG w.heap.size;rw [←Dv]at Fe hD ⊢;clear Dv hx0;have m1:=Ab (o:=0) Fe rfl;have m2:=Ab (o:=1) Fe rfl;have m3:=Ab (o:=2) Fe rfl;have e1:=Ab (o:=0) hD rfl;have e2:=Ab (o:=1) hD rfl;have e3:=Ab (o:=2) hD rfl;have e4:=Ab (o:=3) hD rfl;generalize hmn:min e.f e.t=mn at *;generalize hmx:max e.f e.t=mx at *;by_cases n1:mn<0
 ·have dd:decide (mn<0)=true:=decide_eq_true n1;have HH:=AqH (show r=3 by rw [HR.out,if_pos n1]);clear HR hid;go_wp2;go_ret;exact⟨by rw [HH.out];rfl,hx1⟩
 have tO:decide (mn<0)=false:=decide_eq_false n1;by_cases n2:(np:Int)<=mx
 ·have dd:decide ((np:Int)<=mx)=true:=decide_eq_true n2;have HH:=AqH (show r=3 by rw [HR.out,if_neg n1,if_pos n2]);clear HR hid n1;go_wp2;go_ret;exact⟨by rw [HH.out];rfl,hx1⟩
 have aA:decide ((np:Int)<=mx)=false:=decide_eq_false n2;by_cases n3:e.f=e.t
 ·have dd:(e.f == e.t)=true:=(by rw [beq_iff_eq];exact n3);have HH:=AqH (show r=17 by rw [HR.out,if_neg n1,if_neg n2,if_pos n3]);clear HR hid n1 n2 n3;go_wp2;go_ret;exact⟨by rw [HH.out];rfl,hx1⟩
 have tP:(e.f == e.t)=false:=(by rw [beq_eq_false_iff_ne];exact n3);have Hd:=AqH (show r=if du=true then 9 else if Et nf e.l=false then 3 else if Et nf e.r=false then 3 else if e.l=e.r then 7 else 0 by rw [HR.out,if_neg n1,if_neg n2,if_neg n3]);have ci:=hid (bm+1) _ V hx1 hD;clear HR n1 n2 n3 hid
 cases Kc:du
 rotate_left
 ·have HH:=AqH (show r=9 by rw [Hd.out,Kc];rfl);rw [Kc]at ci;clear Hd Kc;(go_wp2_with fail);(with_reducible refine ci.mono ?_);rintro e w2 ⟨rfl,hx2⟩;go_wp2;go_ret;exact⟨by rw [HH.out];rfl,hx1.trans hx2⟩
 have UD:=AqH (show r=if Et nf e.l=false then 3 else if Et nf e.r=false then 3 else if e.l=e.r then 7 else 0 by rw [Hd.out,Kc];rfl);rw [Kc]at ci;clear Hd Kc;(go_wp2_with fail);(with_reducible refine ci.mono ?_);rintro _ w2 ⟨rfl,hx2⟩;have Ix:=(hx2.block _ (AqI Fe)).trans Fe;have Og:=(hx2.block _ (AqI hD)).trans hD;have s1:=xy e.l bm nf g F _ _ _ w2 Ix;replace hx2:=hx1.trans hx2;clear m1 m2 m3 e1 e2 e3 e4 Fe hD hx1 ci;have e1:=Ab (o:=0) Og rfl;have e2:=Ab (o:=1) Og rfl;have e3:=Ab (o:=2) Og rfl;have e4:=Ab (o:=3) Og rfl
 cases h5:Et nf e.l
 ·have HH:=AqH (show r=3 by rw [UD.out,h5];rfl);rw [h5]at s1;clear UD h5;(go_wp2_with fail);(with_reducible refine s1.mono ?_);rintro _ w3 ⟨rfl,hx3⟩;go_wp2;go_ret;exact⟨by rw [HH.out];rfl,hx2.trans hx3⟩
 have NK:=AqH (show r=if Et nf e.r=false then 3 else if e.l=e.r then 7 else 0 by rw [UD.out,h5];rfl);rw [h5]at s1;clear UD h5;(go_wp2_with fail);(with_reducible refine s1.mono ?_);rintro _ w3 ⟨rfl,hx3⟩;have Ho:=(hx3.block _ (AqI Ix)).trans Ix;have Oh:=(hx3.block _ (AqI Og)).trans Og;have s2:=xy e.r bm nf g F _ _ _ w3 Ho;replace hx3:=hx2.trans hx3;clear e1 e2 e3 e4 Ix Og hx2 s1;have e1:=Ab (o:=0) Oh rfl;have e2:=Ab (o:=1) Oh rfl;have e3:=Ab (o:=2) Oh rfl;have e4:=Ab (o:=3) Oh rfl
 cases h6:Et nf e.r
 ·have HH:=AqH (show r=3 by rw [NK.out,h6];rfl);rw [h6]at s2;clear NK h6;(go_wp2_with fail);(with_reducible refine s2.mono ?_);rintro _ w4 ⟨rfl,Ai⟩;go_wp2;go_ret;exact⟨by rw [HH.out];rfl,hx3.trans Ai⟩
 have Ph:=AqH (show r=if e.l=e.r then 7 else 0 by rw [NK.out,h6];rfl);rw [h6]at s2;clear NK h6;(go_wp2_with fail);(with_reducible refine s2.mono ?_);rintro _ w4 ⟨rfl,Ai⟩;have VI:=(Ai.block _ (AqI Oh)).trans Oh;replace Ai:=hx3.trans Ai;clear e1 e2 e3 e4 Ho Oh hx3 s2;have e1:=Ab (o:=0) VI rfl;have e2:=Ab (o:=1) VI rfl;have e3:=Ab (o:=2) VI rfl;have e4:=Ab (o:=3) VI rfl;by_cases n7:e.l=e.r
 ·have dd:(e.l == e.r)=true:=(by rw [beq_iff_eq];exact n7);have HH:=AqH (show r=7 by rw [Ph.out,if_pos n7]);clear Ph n7;go_wp2;go_ret;exact⟨by rw [HH.out];rfl,Ai⟩
 ·have dd:(e.l == e.r)=false:=(by rw [beq_eq_false_iff_ne];exact n7);have HH:=AqH (show r=0 by rw [Ph.out,if_neg n7]);clear Ph n7;go_wp2;go_ret;exact⟨by rw [HH.out];rfl,Ai⟩
def CV:List Pt→List Pt→Int
 | _,[]=>0
 | pre,p::l=>if pre.any (Ap p)then 9 else CV (pre ++ [p]) l
def Dg(np nf:Nat):List Az→List Az→Int
 | _,[]=>0
 | pre,e::l=>if JS np nf pre e≠0 then JS np nf pre e else Dg np nf (pre ++ [e]) l
def Fx(l:List Pt)(z:Int):Pt:=l.getD z.toNat ⟨0,0⟩
def P7(l:List Pt)(e f:Az):Bool:=N7 (Fx l e.f) (Fx l e.t) (Fx l f.f) (Fx l f.t)
def DU(pts:List Pt):List Az→List Az→Int
 | _,[]=>0
 | pre,e::l=>if pre.any (P7 pts e)then 26 else DU pts (pre ++ [e]) l
def M6(m:Cw):Bool:=decide (400<m.pts.length)||(decide (1200<m.eds.length)||decide (800<m.nf))
theorem Adv{l:List Pt}{j:Nat}(h:j<l.length):CV (l.take j) (l.drop j)=if (l.take j).any (Ap l[j])then 9 else CV (l.take (j+1)) (l.drop (j+1)):=by
 rw [List.drop_eq_getElem_cons h,AqN h];rfl
theorem Adx{np nf:Nat}{l:List Az}{j:Nat}(h:j<l.length):Dg np nf (l.take j) (l.drop j)=if JS np nf (l.take j) l[j]≠0 then JS np nf (l.take j) l[j] else Dg np nf (l.take (j+1)) (l.drop (j+1)):=by
 rw [List.drop_eq_getElem_cons h,AqN h];rfl
theorem Adz{pts:List Pt}{l:List Az}{j:Nat}(h:j<l.length):DU pts (l.take j) (l.drop j)=if (l.take j).any (P7 pts l[j])then 26 else DU pts (l.take (j+1)) (l.drop (j+1)):=by
 rw [List.drop_eq_getElem_cons h,AqN h];rfl
theorem Vh{np nf:Nat}{pre:List Az}{e:Az}(h:JS np nf pre e=0):0<=e.f/\0<=e.t/\e.f<(np:Int)/\e.t<(np:Int)/\e.f≠e.t/\pre.any (FG · e)=false/\Et nf e.l=true/\Et nf e.r=true/\e.l≠e.r:=by
 unfold JS at h
 split at h
 ·cases h
 split at h
 ·cases h
 split at h
 ·cases h
 split at h
 ·cases h
 split at h
 ·cases h
 split at h
 ·cases h
 split at h
 ·cases h
 rename_i h1 h2 h3 h4 h5 h6 h7
 exact⟨by omega,by omega,by omega,by omega,h3,by simpa using h4,by simpa using h5,by simpa using h6,h7⟩
theorem RO{np nf:Nat}{l:List Az} : ∀{pre rest:List Az},Dg np nf pre rest=0→∀(i:Nat) (h:i<rest.length),JS np nf (pre++rest.take i) rest[i]=0
 | pre,[],_,i,h=>by simp at h
 | pre,e::rest,hc,i,h=>by
  unfold Dg at hc
  split at hc
  ·rename_i hne
   exact absurd hc hne
  ·rename_i h0
   simp only [ne_eq,Decidable.not_not]at h0
   cases i with
   | zero=>simpa using h0
   | succ i=>
    have:=RO (l:=l) hc i (by simpa using h)
    simpa using this
theorem sM{pts:List Pt} : ∀{pre rest:List Az},DU pts pre rest=0→∀(i:Nat) (h:i<rest.length),(pre++rest.take i).any (P7 pts rest[i])=false
 | pre,[],_,i,h=>by simp at h
 | pre,e::rest,hc,i,h=>by
  unfold DU at hc
  split at hc
  ·cases hc
  ·rename_i h0
   cases i with
   | zero=>simpa using h0
   | succ i=>
    have:=sM hc i (by simpa using h)
    simpa using this
theorem sL:∀{pre rest:List Pt},CV pre rest=0→∀(i:Nat) (h:i<rest.length),(pre++rest.take i).any (Ap rest[i])=false
 | pre,[],_,i,h=>by simp at h
 | pre,e::rest,hc,i,h=>by
  unfold CV at hc
  split at hc
  ·cases hc
  ·rename_i h0
   cases i with
   | zero=>simpa using h0
   | succ i=>
    have:=sL hc i (by simpa using h)
    simpa using this
end Go.Proofs.YtjalkoacphhgdaaGreatDoor
