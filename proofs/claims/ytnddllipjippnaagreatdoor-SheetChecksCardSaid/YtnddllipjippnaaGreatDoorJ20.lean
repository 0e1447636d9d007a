/- J20: S1 S2 Rg S3 S4 S5 S6 S7 M1 M2 M3 M4. -/
import Derived.Test.YtnddllipjippnaaGreatDoorJ19
import Derived.Maps.RangeWalk
set_option maxRecDepth 100000
set_option maxHeartbeats 16000000
namespace Go.Proofs.YtnddllipjippnaaGreatDoor
open Go.RowKit Kl
theorem IM(a b:Pt){k:Nat}(ha:Az k a)(hb:Az k b)(hk:0<k)(hk2:k<=400)(w:World)(hw:Am w) :
  Calls Tryz.prog 88 #[Ak a,Ak b] w (AI (Bq a b) w):=by
 have c1:=K2 a.x b.x (a:=k) (b:=k) ⟨ha.x,hb.x,hk,hk,by omega⟩;have c2:=K2 a.y b.y (a:=k) (b:=k) ⟨ha.y,hb.y,hk,hk,by omega⟩;have hE:=((Ab.refl w).alloc (.cells #[S (R a.x),S (R a.y)] 24)).alloc (.cells #[S (R b.x),S (R b.y)] 24);obtain⟨x,hx0⟩:=Ao3 (Bo a.x b.x);obtain⟨y,BA⟩:=Ao3 (Bo a.y b.y)
 have hr:Bq a b=if x≠0 then x else y:=by rw [hx0,BA];rfl
 rw [hr];rw [←hx0]at c1;rw [←BA]at c2
 have hA:(w.alloc (.cells #[S (R a.x),S (R a.y)] 24)).alloc (.cells #[S (R b.x),S (R b.y)] 24) |>.heap[w.heap.size]?=some (.cells #[S (R a.x),S (R a.y)] 24):=(Below.heap_alloc _ _ _ (by simp)).trans (Ao6 w _)
 have hB:=Ao6 (w.alloc (.cells #[S (R a.x),S (R a.y)] 24)) (.cells #[S (R b.x),S (R b.y)] 24);rw [AoE]at hB;obtain⟨r,G2⟩:=Ao3 (if x≠0 then x else y:Int);have HRE:=Ao4 G2;rw [←G2];unfold Ak
 have Uy:∀(b o:Nat) (w:World),w.cell? ⟨b,o,none⟩=some (.int .i64 x)→w.cell? ⟨b,o+1,none⟩=some (.int .i64 y)→Calls Tryz.prog 141 #[.slice (some ⟨b,o,none⟩) 2 2] w (AI r w):=by intro b o w h1 h2;rw [G2];exact kG x y b o w h1 h2
 clear ha hb hr hx0 BA G2;go_enter Tryz.func88,Tryz.ntmps88
 go_upto_region 1 with fail
 generalize (w.alloc (.cells #[S (R a.x),S (R a.y)] 24)).alloc (.cells #[S (R b.x),S (R b.y)] 24)=V at *;have hs:=hE.size;obtain⟨ba,Av⟩:=Ao3 w.heap.size;rw [←Av]at hA hB ⊢;clear Av hs;have k1:=Aa (o:=0) hA rfl;have k2:=Aa (o:=1) hA rfl;have k3:=Aa (o:=0) hB rfl;have k4:=Aa (o:=1) hB rfl;have hV:=hw.ext hE;clear hA hB
 go_region_held3 (fun w'=>w'.cell? ⟨ba,0,none⟩=some (S (R a.x))/\w'.cell? ⟨ba,1,none⟩=some (S (R a.y))/\w'.cell? ⟨ba+1,0,none⟩=some (S (R b.x))/\w'.cell? ⟨ba+1,1,none⟩=some (S (R b.y)))
  (go_keep)
  (first|((with_reducible refine(c1 _ (hV.ext (Ab.refl V).drew)).mono ?_);rintro e w5 ⟨rfl,Ae⟩;have X5:Ab V w5:=(Ab.refl V).drew.trans Ae;have d1:=X5.cellS k1;have d2:=X5.cellS k2;have d3:=X5.cellS k3;have d4:=X5.cellS k4)|((with_reducible refine(c2 _ (hV.ext X5)).mono ?_);rintro e w6 ⟨rfl,AG⟩;have X6:Ab V w6:=X5.trans AG;have f1:=X6.cellS k1;have f2:=X6.cellS k2;have f3:=X6.cellS k3;have f4:=X6.cellS k4)|((with_reducible refine(Uy w6.heap.size 0 (w6.alloc (.cells #[.int .i64 x,.int .i64 y] 3)) (Aa (o:=0) (Ao6 w6 _) rfl) (Aa (o:=1) (Ao6 w6 _) rfl)).mono ?_);rintro e w7 ⟨rfl,Aw⟩;have X7:Ab V w7:=(X6.alloc _).trans Aw;have g1:=X7.cellS k1;have g2:=X7.cellS k2;have g3:=X7.cellS k3;have g4:=X7.cellS k4))
 go_wp2;go_ret;exact⟨rfl,hE.trans X7⟩
theorem oz(a b c:Pt){k:Nat}(ha:Az k a)(hb:Az k b)(hc:Az k c)(hk:0<k)(hk2:k<=400)(w:World)(hw:Am w) :
  Calls Tryz.prog 150 #[Ak a,Ak b,Ak c] w (By (R (Ar a b c)) w):=by
 have s1:=Hi b.x a.x (a:=k) (b:=k) ⟨hb.x,ha.x,hk,hk,by omega⟩;have s2:=Hi b.y a.y (a:=k) (b:=k) ⟨hb.y,ha.y,hk,hk,by omega⟩;have s3:=Hi c.x a.x (a:=k) (b:=k) ⟨hc.x,ha.x,hk,hk,by omega⟩;have s4:=Hi c.y a.y (a:=k) (b:=k) ⟨hc.y,ha.y,hk,hk,by omega⟩;have m1:=Pe (b.x-a.x) (c.y-a.y) (a:=k+k+1) (b:=k+k+1) ⟨hb.x.sub ha.x,hc.y.sub ha.y,by omega,by omega,by omega⟩;have m2:=Pe (b.y-a.y) (c.x-a.x) (a:=k+k+1) (b:=k+k+1) ⟨hb.y.sub ha.y,hc.x.sub ha.x,by omega,by omega,by omega⟩;have sb:=Hi ((b.x-a.x)*(c.y-a.y)) ((b.y-a.y)*(c.x-a.x)) (a:=k+k+1+(k+k+1)) (b:=k+k+1+(k+k+1)) ⟨(hb.x.sub ha.x).mul (hc.y.sub ha.y),(hb.y.sub ha.y).mul (hc.x.sub ha.x),by omega,by omega,by omega⟩;have e:Ar a b c=(b.x-a.x)*(c.y-a.y)-(b.y-a.y)*(c.x-a.x):=rfl;rw [←e]at sb;obtain⟨r,hr⟩:=Ao3 (Ar a b c);rw [←hr]at sb ⊢;unfold Ak;clear ha hb hc e hr;go_enter Tryz.func150,Tryz.ntmps150;(go_wp2_with fail);obtain⟨W,hW,hE,hb1,hb2,hb3⟩:=Oe w (.cells #[S (R a.x),S (R a.y)] 24) (.cells #[S (R b.x),S (R b.y)] 24) (.cells #[S (R c.x),S (R c.y)] 24);rw [←hW];clear hW
 have SO:∀w',Ab W w'→(w'.cell? ⟨w.heap.size,0,none⟩=some (S (R a.x))/\w'.cell? ⟨w.heap.size,1,none⟩=some (S (R a.y))/\w'.cell? ⟨w.heap.size+1,0,none⟩=some (S (R b.x))/\w'.cell? ⟨w.heap.size+1,1,none⟩=some (S (R b.y))/\w'.cell? ⟨w.heap.size+1+1,0,none⟩=some (S (R c.x))/\w'.cell? ⟨w.heap.size+1+1,1,none⟩=some (S (R c.y))):=fun w' h=>⟨h.cellS (Aa hb1 rfl),h.cellS (Aa hb1 rfl),h.cellS (Aa hb2 rfl),h.cellS (Aa hb2 rfl),h.cellS (Aa hb3 rfl),h.cellS (Aa hb3 rfl)⟩
 have Df:=hw.ext hE;have X:Ab W W:=Ab.refl W;clear hb1 hb2 hb3
 go_region_held3 (fun w'=>w'.cell? ⟨w.heap.size,0,none⟩=some (S (R a.x))/\w'.cell? ⟨w.heap.size,1,none⟩=some (S (R a.y))/\w'.cell? ⟨w.heap.size+1,0,none⟩=some (S (R b.x))/\w'.cell? ⟨w.heap.size+1,1,none⟩=some (S (R b.y))/\w'.cell? ⟨w.heap.size+1+1,0,none⟩=some (S (R c.x))/\w'.cell? ⟨w.heap.size+1+1,1,none⟩=some (S (R c.y)))
  (first|with_reducible exact SO _ X|with_reducible exact SO _ X.drew)
  (first|((with_reducible refine(s1 _ (Df.ext (by first|exact X|exact X.drew))).mono ?_);rintro e w1 ⟨rfl,hx1⟩;replace X:Ab W w1:=(by first|exact X.trans hx1|exact X.drew.trans hx1))|((with_reducible refine(s2 _ (Df.ext (by first|exact X|exact X.drew))).mono ?_);rintro e w1 ⟨rfl,hx1⟩;replace X:Ab W w1:=(by first|exact X.trans hx1|exact X.drew.trans hx1))|((with_reducible refine(s3 _ (Df.ext (by first|exact X|exact X.drew))).mono ?_);rintro e w1 ⟨rfl,hx1⟩;replace X:Ab W w1:=(by first|exact X.trans hx1|exact X.drew.trans hx1))|((with_reducible refine(s4 _ (Df.ext (by first|exact X|exact X.drew))).mono ?_);rintro e w1 ⟨rfl,hx1⟩;replace X:Ab W w1:=(by first|exact X.trans hx1|exact X.drew.trans hx1))|((with_reducible refine(m1 _ (Df.ext (by first|exact X|exact X.drew))).mono ?_);rintro e w1 ⟨rfl,hx1⟩;replace X:Ab W w1:=(by first|exact X.trans hx1|exact X.drew.trans hx1))|((with_reducible refine(m2 _ (Df.ext (by first|exact X|exact X.drew))).mono ?_);rintro e w1 ⟨rfl,hx1⟩;replace X:Ab W w1:=(by first|exact X.trans hx1|exact X.drew.trans hx1))|((with_reducible refine(sb _ (Df.ext (by first|exact X|exact X.drew))).mono ?_);rintro e w1 ⟨rfl,hx1⟩;replace X:Ab W w1:=(by first|exact X.trans hx1|exact X.drew.trans hx1)))
 go_wp2;go_ret;exact⟨rfl,hE.trans X⟩
theorem Mb(a b c:Pt){k:Nat}(ha:Az k a)(hb:Az k b)(hc:Az k c)(hk:0<k)(hk2:k<=400)(w:World)(hw:Am w) :
  Calls Tryz.prog 103 #[Ak a,Ak b,Ak c] w (AI (AZ (Ar a b c)) w):=by
 have ar:=oz a b c ha hb hc hk hk2;have sg:=Ra (Ar a b c);have hE:=(((Ab.refl w).alloc (.cells #[S (R a.x),S (R a.y)] 24)).alloc (.cells #[S (R b.x),S (R b.y)] 24)).alloc (.cells #[S (R c.x),S (R c.y)] 24);unfold Ak at ar ⊢;clear ha hb hc;go_enter Tryz.func103,Tryz.ntmps103;(go_wp2_with fail);(with_reducible refine(ar _ (hw.ext hE)).mono ?_);rintro e w1 ⟨rfl,hx⟩;(go_wp2_with fail);(with_reducible refine(sg _).mono ?_);rintro e w2 ⟨rfl,hx2⟩;go_wp2;go_ret;exact⟨rfl,hE.trans (hx.trans hx2)⟩
def J6(y x:Int):Int:=if 0<y then 0 else if y=0 then (if 0<x then 0 else 1)else 1
def Cb(p q:Pt):Int:=J6 (Bo q.y p.y) (Bo q.x p.x)
theorem AhK{y x:Int}(h:0<y):J6 y x=0:=if_pos h
theorem AhL{y x:Int}(h:y=0)(hx:0<x):J6 y x=0:=by unfold J6;rw [if_neg (by omega),if_pos h,if_pos hx]
theorem AhM{y x:Int}(h:y=0)(hx:¬0<x):J6 y x=1:=by unfold J6;rw [if_neg (by omega),if_pos h,if_neg hx]
theorem AhN{y x:Int}(h:y<0):J6 y x=1:=by unfold J6;rw [if_neg (by omega),if_neg (by omega)]
theorem qf(p q:Pt){k:Nat}(hp:Az k p)(hq:Az k q)(hk:0<k)(hk2:k<=400)(w:World)(hw:Am w) :
  Calls Tryz.prog 152 #[Ak p,Ak q] w (AI (Cb p q) w):=by
 have c1:=K2 q.y p.y (a:=k) (b:=k) ⟨hq.y,hp.y,hk,hk,by omega⟩;have c2:=K2 q.x p.x (a:=k) (b:=k) ⟨hq.x,hp.x,hk,hk,by omega⟩;unfold Cb;generalize Bo q.y p.y=y at *;generalize Bo q.x p.x=x at *;have hb1:=(Below.heap_alloc (w.alloc (.cells #[S (R p.x),S (R p.y)] 24)) (.cells #[S (R q.x),S (R q.y)] 24) w.heap.size (by simp)).trans (Ao6 w (.cells #[S (R p.x),S (R p.y)] 24));have hb2:=Ao6 (w.alloc (.cells #[S (R p.x),S (R p.y)] 24)) (.cells #[S (R q.x),S (R q.y)] 24);rw [AoE]at hb2;have hE:=((Ab.refl w).alloc (.cells #[S (R p.x),S (R p.y)] 24)).alloc (.cells #[S (R q.x),S (R q.y)] 24);unfold Ak;clear hp hq;obtain⟨r,hr⟩:=Ao3 (J6 y x);rw [←hr];have HR:=Ao4 hr;clear hr;go_enter Tryz.func152,Tryz.ntmps152
 go_upto_region 1 with fail
 generalize (w.alloc (.cells #[S (R p.x),S (R p.y)] 24)).alloc (.cells #[S (R q.x),S (R q.y)] 24)=V at *;obtain⟨ba,Av⟩:=Ao3 w.heap.size;rw [←Av]at hb1 hb2 ⊢;clear Av;have k1:=Aa (o:=0) hb1 rfl;have k2:=Aa (o:=1) hb1 rfl;have k3:=Aa (o:=0) hb2 rfl;have k4:=Aa (o:=1) hb2 rfl;clear hb1 hb2;(go_wp2_with fail);(with_reducible refine(c1 _ (hw.ext hE)).mono ?_);rintro e w1 ⟨rfl,hx1⟩;have j1:=hx1.cellS k1;have j2:=hx1.cellS k2;have j3:=hx1.cellS k3;have j4:=hx1.cellS k4;replace hE:=hE.trans hx1;clear k1 k2 k3 k4 hx1;by_cases y1:0<y
 ·have e0:r=0:=(by rw [HR.out,AhK y1]);subst e0;have d1:decide (0<y)=true:=decide_eq_true y1;clear c2 c1;go_wp2;go_ret;exact⟨rfl,hE⟩
 ·by_cases y0:y=0
  ·subst y0;by_cases x1:0<x
   ·have e0:r=0:=(by rw [HR.out,AhL rfl x1]);subst e0;have d1:decide (0<x)=true:=decide_eq_true x1;clear c1 y1;(go_wp2_with fail);(with_reducible refine(c2 _ (hw.ext hE)).mono ?_);rintro e w2 ⟨rfl,hx2⟩;go_wp2;go_ret;exact⟨rfl,hE.trans hx2⟩
   ·have e0:r=1:=(by rw [HR.out,AhM rfl x1]);subst e0;have d1:decide (0<x)=false:=decide_eq_false x1;have x2:x<=0:=(by omega);clear c1 y1 x1;(go_wp2_with fail);(with_reducible refine(c2 _ (hw.ext hE)).mono ?_);rintro e w2 ⟨rfl,hx2⟩;go_wp2;go_ret;exact⟨rfl,hE.trans hx2⟩
  ·have e0:r=1:=(by rw [HR.out,AhN (by omega)]);subst e0;have d1:decide (0<y)=false:=decide_eq_false y1;have d2:decide (y=0)=false:=decide_eq_false y0;have d3:(y == 0)=false:=(by rw [beq_eq_false_iff_ne];exact y0);have y2:y<0:=(by omega);clear c2 c1 y1;go_wp2;go_ret;exact⟨rfl,hE⟩
def Kz(u v t:Int):Bool:=decide (u<=0)&&(decide (v<=0)&&decide (t=0))
def ND(a b p:Pt):Bool:=Kz (Bq a p) (Bq p b) (AZ (Ar a b p))
def FM(a b p:Pt):Bool:=if 0<Bq a b then ND b a p else ND a b p
theorem Ajm(a b p:Pt){k:Nat}(ha:Az k a)(hb:Az k b)(hp:Az k p)(hk:0<k)(hk2:k<=400)(hz:¬0<Bq a b)(w:World)(hw:Am w) :
  Calls Tryz.prog 102 #[Ak a,Ak b,Ak p] w (BF (ND a b p) w):=by
 have c0:=IM a b ha hb hk hk2;have c1:=IM a p ha hp hk hk2;have c2:=IM p b hp hb hk hk2;have c3:=Mb a b p ha hb hp hk hk2;unfold ND;generalize Bq a b=z at *;generalize Bq a p=u at *;generalize Bq p b=v at *;generalize AZ (Ar a b p)=t at *;obtain⟨W,hW,hE,hb1,hb2,hb3⟩:=Oe w (.cells #[S (R a.x),S (R a.y)] 24) (.cells #[S (R b.x),S (R b.y)] 24) (.cells #[S (R p.x),S (R p.y)] 24);obtain⟨r,hr⟩:=Ao3 (Kz u v t);rw [←hr];have HR:=Ao4 hr;unfold Ak at c0 c1 c2 c3 ⊢;clear ha hb hp hr;go_enter Tryz.func102,Tryz.ntmps102
 go_upto_region 1 with fail
 rw [←hW];clear hW;obtain⟨ba,Av⟩:=Ao3 w.heap.size;have hle:w.heap.size<=ba:=(by omega);rw [←Av]at hb1 hb2 hb3 ⊢;clear Av;have k1:=Aa (o:=0) hb1 rfl;have k2:=Aa (o:=1) hb1 rfl;have k3:=Aa (o:=0) hb2 rfl;have k4:=Aa (o:=1) hb2 rfl;(go_wp2_with fail);(with_reducible refine(c0 _ (hw.ext hE)).mono ?_);rintro e w1 ⟨rfl,hx1⟩;replace hb1:=(hx1.block _ (Ao5 hb1)).trans hb1;replace hb2:=(hx1.block _ (Ao5 hb2)).trans hb2;replace hb3:=(hx1.block _ (Ao5 hb3)).trans hb3;replace hE:=hE.trans hx1;clear k1 k2 k3 k4 hx1 c0;have dz:decide (0<z)=false:=decide_eq_false (by omega);have hz':z<=0:=(by omega);clear hz
 go_upto_region 3 with fail
 have DD:=hE;have n1:=hb1;have n2:=hb2;have n3:=hb3;obtain⟨V,hV⟩:=Ao3 w1;rw [←hV]at DD n1 n2 n3 ⊢;clear hV hb1 hb2 hb3 hE dz;have k1:=Aa (o:=0) n1 rfl;have k2:=Aa (o:=1) n1 rfl;have k3:=Aa (o:=0) n2 rfl;have k4:=Aa (o:=1) n2 rfl;have k5:=Aa (o:=0) n3 rfl;have k6:=Aa (o:=1) n3 rfl;clear n1 n2 n3;(go_wp2_with fail);(with_reducible refine(c1 _ (hw.ext DD)).mono ?_);rintro e w2 ⟨rfl,hx2⟩;have j1:=hx2.cellS k1;have j2:=hx2.cellS k2;have j3:=hx2.cellS k3;have j4:=hx2.cellS k4;have j5:=hx2.cellS k5;have j6:=hx2.cellS k6;replace DD:=DD.trans hx2;clear k1 k2 k3 k4 k5 k6 hx2 c1;by_cases hu:u<=0
 ·have du:decide (u<=0)=true:=decide_eq_true hu;(go_wp2_with fail);(with_reducible refine(c2 _ (hw.ext DD)).mono ?_);rintro e w3 ⟨rfl,hx3⟩;have i1:=hx3.cellS j1;have i2:=hx3.cellS j2;have i3:=hx3.cellS j3;have i4:=hx3.cellS j4;have i5:=hx3.cellS j5;have i6:=hx3.cellS j6;replace DD:=DD.trans hx3;clear j1 j2 j3 j4 j5 j6 hx3 c2;by_cases hv:v<=0
  ·have dv:decide (v<=0)=true:=decide_eq_true hv;have hrt:r=decide (t=0):=(by rw [HR.out];unfold Kz;rw [du,dv];rfl);have Zb:=Ao4 hrt;clear hrt;(go_wp2_with fail);(with_reducible refine(c3 _ (hw.ext DD)).mono ?_);rintro e w4 ⟨rfl,Ag⟩;go_wp2;go_ret;exact⟨by rw [Zb.out];rfl,DD.trans Ag⟩
  ·have dv:decide (v<=0)=false:=decide_eq_false hv;have hrt:r=false:=(by rw [HR.out];unfold Kz;rw [du,dv];rfl);subst hrt;have hv':0<v:=(by omega);clear hv c3;go_wp2;go_ret;exact⟨rfl,DD⟩
 ·have du:decide (u<=0)=false:=decide_eq_false hu;have hrt:r=false:=(by rw [HR.out];unfold Kz;rw [du];rfl);subst hrt;have Kp:0<u:=(by omega);clear hu c2 c3;go_wp2;go_ret;exact⟨rfl,DD⟩
theorem Ajl(a b p:Pt){k:Nat}(ha:Az k a)(hb:Az k b)(hp:Az k p)(hk:0<k)(hk2:k<=400)(hz:0<Bq a b)(w:World)(hw:Am w) :
  Calls Tryz.prog 102 #[Ak a,Ak b,Ak p] w (BF (ND b a p) w):=by
 have c0:=IM a b ha hb hk hk2;have c1:=IM b p hb hp hk hk2;have c2:=IM p a hp ha hk hk2;have c3:=Mb b a p hb ha hp hk hk2;unfold ND;generalize Bq a b=z at *;generalize Bq b p=u at *;generalize Bq p a=v at *;generalize AZ (Ar b a p)=t at *;obtain⟨W,hW,hE,hb1,hb2,hb3⟩:=Oe w (.cells #[S (R a.x),S (R a.y)] 24) (.cells #[S (R b.x),S (R b.y)] 24) (.cells #[S (R p.x),S (R p.y)] 24);obtain⟨r,hr⟩:=Ao3 (Kz u v t);rw [←hr];have HR:=Ao4 hr;unfold Ak at c0 c1 c2 c3 ⊢;clear ha hb hp hr;go_enter Tryz.func102,Tryz.ntmps102
 go_upto_region 1 with fail
 rw [←hW];clear hW;obtain⟨ba,Av⟩:=Ao3 w.heap.size;have hle:w.heap.size<=ba:=(by omega);rw [←Av]at hb1 hb2 hb3 ⊢;clear Av;have k1:=Aa (o:=0) hb1 rfl;have k2:=Aa (o:=1) hb1 rfl;have k3:=Aa (o:=0) hb2 rfl;have k4:=Aa (o:=1) hb2 rfl;(go_wp2_with fail);(with_reducible refine(c0 _ (hw.ext hE)).mono ?_);rintro e w1 ⟨rfl,hx1⟩;replace hb1:=(hx1.block _ (Ao5 hb1)).trans hb1;replace hb2:=(hx1.block _ (Ao5 hb2)).trans hb2;replace hb3:=(hx1.block _ (Ao5 hb3)).trans hb3;replace hE:=hE.trans hx1;clear k1 k2 k3 k4 hx1 c0;have dz:decide (0<z)=true:=decide_eq_true hz;have k1:=Aa (o:=0) hb1 rfl;have k2:=Aa (o:=1) hb1 rfl;have k3:=Aa (o:=0) hb2 rfl;have k4:=Aa (o:=1) hb2 rfl;have f1:=Aj (o:=0) hb1;have f2:=Aj (o:=1) hb1;have f3:=Aj (o:=0) hb2;have f4:=Aj (o:=1) hb2
 go_upto_region 3 with fail
 obtain⟨V,hV⟩:=Ao3 ((((w1.setCell ⟨ba,0,none⟩ (S (R b.x))).setCell ⟨ba,1,none⟩ (S (R b.y))).setCell ⟨ba+1,0,none⟩ (S (R a.x))).setCell ⟨ba+1,1,none⟩ (S (R a.y)));rw [←hV]
 have DD:Ab w V:=by rw [hV];exact(((hE.setCell (p:=⟨ba,0,none⟩) hle _).setCell (p:=⟨ba,1,none⟩) hle _).setCell (p:=⟨ba+1,0,none⟩) (Nat.le_succ_of_le hle) _).setCell (p:=⟨ba+1,1,none⟩) (Nat.le_succ_of_le hle) _
 have n1:V.heap[ba]?=some (.cells #[S (R b.x),S (R b.y)] 24):=by rw [hV,Below.heap_setCell _ _ _ _ (show ba≠ba+1 by omega),Below.heap_setCell _ _ _ _ (show ba≠ba+1 by omega)];exact qG _ _ hb1
 have n2:V.heap[ba+1]?=some (.cells #[S (R a.x),S (R a.y)] 24):=by rw [hV];exact qG _ _ (by rw [Below.heap_setCell _ _ _ _ (show ba+1≠ba by omega),Below.heap_setCell _ _ _ _ (show ba+1≠ba by omega)];exact hb2)
 have n3:V.heap[ba+1+1]?=some (.cells #[S (R p.x),S (R p.y)] 24):=by rw [hV,Below.heap_setCell _ _ _ _ (show ba+1+1≠ba+1 by omega),Below.heap_setCell _ _ _ _ (show ba+1+1≠ba+1 by omega),Below.heap_setCell _ _ _ _ (show ba+1+1≠ba by omega),Below.heap_setCell _ _ _ _ (show ba+1+1≠ba by omega)];exact hb3
 clear hV k1 k2 k3 k4 f1 f2 f3 f4 hb1 hb2 hb3 hE dz;have k1:=Aa (o:=0) n1 rfl;have k2:=Aa (o:=1) n1 rfl;have k3:=Aa (o:=0) n2 rfl;have k4:=Aa (o:=1) n2 rfl;have k5:=Aa (o:=0) n3 rfl;have k6:=Aa (o:=1) n3 rfl;clear n1 n2 n3;(go_wp2_with fail);(with_reducible refine(c1 _ (hw.ext DD)).mono ?_);rintro e w2 ⟨rfl,hx2⟩;have j1:=hx2.cellS k1;have j2:=hx2.cellS k2;have j3:=hx2.cellS k3;have j4:=hx2.cellS k4;have j5:=hx2.cellS k5;have j6:=hx2.cellS k6;replace DD:=DD.trans hx2;clear k1 k2 k3 k4 k5 k6 hx2 c1;by_cases hu:u<=0
 ·have du:decide (u<=0)=true:=decide_eq_true hu;(go_wp2_with fail);(with_reducible refine(c2 _ (hw.ext DD)).mono ?_);rintro e w3 ⟨rfl,hx3⟩;have i1:=hx3.cellS j1;have i2:=hx3.cellS j2;have i3:=hx3.cellS j3;have i4:=hx3.cellS j4;have i5:=hx3.cellS j5;have i6:=hx3.cellS j6;replace DD:=DD.trans hx3;clear j1 j2 j3 j4 j5 j6 hx3 c2;by_cases hv:v<=0
  ·have dv:decide (v<=0)=true:=decide_eq_true hv;have hrt:r=decide (t=0):=(by rw [HR.out];unfold Kz;rw [du,dv];rfl);have Zb:=Ao4 hrt;clear hrt;(go_wp2_with fail);(with_reducible refine(c3 _ (hw.ext DD)).mono ?_);rintro e w4 ⟨rfl,Ag⟩;go_wp2;go_ret;exact⟨by rw [Zb.out];rfl,DD.trans Ag⟩
  ·have dv:decide (v<=0)=false:=decide_eq_false hv;have hrt:r=false:=(by rw [HR.out];unfold Kz;rw [du,dv];rfl);subst hrt;have hv':0<v:=(by omega);clear hv c3;go_wp2;go_ret;exact⟨rfl,DD⟩
 ·have du:decide (u<=0)=false:=decide_eq_false hu;have hrt:r=false:=(by rw [HR.out];unfold Kz;rw [du];rfl);subst hrt;have Kp:0<u:=(by omega);clear hu c2 c3;go_wp2;go_ret;exact⟨rfl,DD⟩
theorem kS(a b p:Pt){k:Nat}(ha:Az k a)(hb:Az k b)(hp:Az k p)(hk:0<k)(hk2:k<=400)(w:World)(hw:Am w) :
  Calls Tryz.prog 102 #[Ak a,Ak b,Ak p] w (BF (FM a b p) w):=by
 unfold FM
 split
 ·exact Ajl a b p ha hb hp hk hk2 (by assumption) w hw
 ·exact Ajm a b p ha hb hp hk hk2 (by assumption) w hw
structure Ad(W:World) where
 w:World
 h:Ab W w
instance (W:World):Inhabited (Ad W):=⟨⟨W,Ab.refl W⟩⟩
theorem Ad.cell{W:World}{a:Addr}{v:Value}(h:W.cell? a=some v)(p:Ad W):p.w.cell? a=some v:=p.h.cellS h
theorem Di{P:Program}{id:Nat}{Q:Exit→Act→World→Prop}{a:Act}{W:World}{l:List Oper}(hm:P.follows .mixedOrders=true)(hB:Region.lexB .any l.toArray=true)
  (h:wpQuiet P l.toArray (fun w'=>∃p:Ad W,w'=p.w) (fun a'=>∀w',(∃p:Ad W,w'=p.w)→Q .normal a' w') l a):(Code.region id l.toArray true).wp P Q a W:=
 wp_region_quiet (C:=fun w'=>∃p:Ad W,w'=p.w) hm hB ⟨⟨W.drew,(Ab.refl W).drew⟩,rfl⟩ (by simpa using h)
section
variable {P : Program} {f : FuncId} {args : Array Value} {W : World} {p : Ad W}
theorem tI{v:Value}(h:Calls P f args p.w (BG v p.w)):Calls P f args p.w fun e w''=>e=.returned v/\∃q:Ad W,w''=q.w:=
 h.mono fun _ w1 ⟨he,hx⟩=>⟨he,⟨w1,p.h.trans hx⟩,rfl⟩
theorem Gq{n:Int}(h:Calls P f args p.w (AI n p.w)):Calls P f args p.w fun e w''=>e=.returned (.int .i64 n)/\∃q:Ad W,w''=q.w:=
 h.mono fun _ w1 ⟨he,hx⟩=>⟨he,⟨w1,p.h.trans hx⟩,rfl⟩
theorem tH{l:Bs}(h:Calls P f args p.w (By l p.w)):Calls P f args p.w fun e w''=>e=.returned (S l)/\∃q:Ad W,w''=q.w:=
 h.mono fun _ w1 ⟨he,hx⟩=>⟨he,⟨w1,p.h.trans hx⟩,rfl⟩
theorem ZY{b:Bool}(h:Calls P f args p.w (BF b p.w)):Calls P f args p.w fun e w''=>e=.returned (.bool b)/\∃q:Ad W,w''=q.w:=
 h.mono fun _ w1 ⟨he,hx⟩=>⟨he,⟨w1,p.h.trans hx⟩,rfl⟩
end
def Ax(p q:Pt):Bool:=decide (p.x=q.x)&&decide (p.y=q.y)
theorem CP{p q:Pt} : Ax p q=true↔p=q:=by
 unfold Ax;rw [Bool.and_eq_true,decide_eq_true_eq,decide_eq_true_eq];constructor
 ·rintro⟨h1,h2⟩
  cases p;cases q;simp_all
 ·rintro rfl;exact⟨rfl,rfl⟩
theorem JQ(p q:Rat):(R p == R q)=decide (p=q):=by
 by_cases h:p=q
 ·subst h;simp
 ·rw [decide_eq_false h,beq_eq_false_iff_ne];exact fun e=>h (P3 e)
theorem lH(p q:Pt)(W:World):(binOp .eql 24 (.agg #[S (R p.x),S (R p.y)]) (.agg #[S (R q.x),S (R q.y)])).run Tryz.prog W=.ok (.bool (Ax p q)) W:=by
 unfold Ax;rw [←JQ,←JQ]
 cases b1:(R p.x == R q.x)<;>cases b2:(R p.y == R q.y)<;>simp [go_sem,b1,b2]
theorem rx(p q:Pt)(W:World):(binOp .neq 24 (.agg #[S (R p.x),S (R p.y)]) (.agg #[S (R q.x),S (R q.y)])).run Tryz.prog W=.ok (.bool (!Ax p q)) W:=by
 unfold Ax;rw [←JQ,←JQ]
 cases b1:(R p.x == R q.x)<;>cases b2:(R p.y == R q.y)<;>simp [go_sem,b1,b2]
theorem Ri(q:Rat):-1<=AZ q/\AZ q<=1:=by unfold AZ;split<;>(try split)<;>omega
def Lc(x y z:Pt):Bool:=FM x y z&&(!Ax z x && !Ax z y)
def Yv(a b c d:Pt):Bool:=Ax a c||(Ax a d||(Ax b c||Ax b d))
def KI(a b c:Pt):Int:=AZ (Ar a b c)
def QV(a b c d:Pt):Bool:=decide (KI a b c*KI a b d<0)&&decide (KI c d a*KI c d b<0)
def IR(a b c d:Pt):List (Pt×Pt×Pt):=[(c,d,a),(c,d,b),(a,b,c),(a,b,d)]
def NG(a b c d:Pt):Bool:=(IR a b c d).any (fun t=>Lc t.1 t.2.1 t.2.2)||(!Yv a b c d&&QV a b c d)
def Rl(a b c d:Pt):Array Value:=#[S (R c.x),S (R c.y),S (R d.x),S (R d.y),S (R a.x),S (R a.y),S (R c.x),S (R c.y),S (R d.x),S (R d.y),S (R b.x),S (R b.y),S (R a.x),S (R a.y),S (R b.x),S (R b.y),S (R c.x),S (R c.y),S (R a.x),S (R a.y),S (R b.x),S (R b.y),S (R d.x),S (R d.y)]
theorem Aly(a b c d:Pt){k:Nat}(ha:Az k a)(hb:Az k b)(hc:Az k c)(hd:Az k d){j:Nat}(hj:j<4) :
  ∃x y z:Pt,(∀W,(Instr.index 165 (.agg (Rl a b c d)) (.int .i64 (j:Nat))).run Tryz.prog W=.ok (.agg #[S (R x.x),S (R x.y),S (R y.x),S (R y.y),S (R z.x),S (R z.y)]) W)/\(IR a b c d)[j]?=some (x,y,z)/\Az k x/\Az k y/\Az k z:=by
 obtain rfl|rfl|rfl|rfl:j=0∨j=1∨j=2∨j=3:=by omega
 ·exact⟨c,d,a,fun W=>by unfold Rl;kernel_rfl,rfl,hc,hd,ha⟩
 ·exact⟨c,d,b,fun W=>by unfold Rl;kernel_rfl,rfl,hc,hd,hb⟩
 ·exact⟨a,b,c,fun W=>by unfold Rl;kernel_rfl,rfl,ha,hb,hc⟩
 ·exact⟨a,b,d,fun W=>by unfold Rl;kernel_rfl,rfl,ha,hb,hd⟩
theorem Ack(w:World)(o1 o2 o3 o4:Obj):∃W,W=(((w.alloc o1).alloc o2).alloc o3).alloc o4/\Ab w W/\W.heap[w.heap.size]?=some o1/\W.heap[w.heap.size+1]?=some o2/\W.heap[w.heap.size+1+1]?=some o3/\W.heap[w.heap.size+1+1+1]?=some o4:=by
 obtain⟨V,hV,hE,h1,h2,h3⟩:=Oe w o1 o2 o3;have hs:V.heap.size=w.heap.size+1+1+1:=(by rw [hV];simp);have h4:=Ao6 V o4;have hx:=(Ab.refl V).alloc o4;rw [hs]at h4;exact⟨V.alloc o4,by rw [hV],hE.alloc o4,(hx.block _ (Ao5 h1)).trans h1,(hx.block _ (Ao5 h2)).trans h2,(hx.block _ (Ao5 h3)).trans h3,h4⟩
theorem AiZ(a b c d:Pt){k:Nat}(ha:Az k a)(hb:Az k b)(hc:Az k c)(hd:Az k d)(hk:0<k)(hk2:k<=400)(w:World)(hw:Am w) :
  Calls Tryz.prog 50 #[Ak a,Ak b,Ak c,Ak d] w (BF (NG a b c d) w):=by
 have t1:=Mb a b c ha hb hc hk hk2;have t2:=Mb a b d ha hb hd hk hk2;have t3:=Mb c d a hc hd ha hk hk2;have t4:=Mb c d b hc hd hb hk hk2;have Xr:=@Aly a b c d k ha hb hc hd;unfold Rl at Xr;have r1:=Ri (Ar a b c);have r2:=Ri (Ar a b d);have r3:=Ri (Ar c d a);have r4:=Ri (Ar c d b);obtain⟨r,hr⟩:=Ao3 (NG a b c d);rw [←hr];have HR:=Ao4 hr;have HP:=Ao4 (show QV a b c d=(decide (KI a b c*KI a b d<0)&&decide (KI c d a*KI c d b<0))from rfl);have Py:=Ao4 (show Yv a b c d=(Ax a c||(Ax a d||(Ax b c||Ax b d)))from rfl);have pe:=lH;have pn:=rx;unfold Ak at t1 t2 t3 t4 ⊢;obtain⟨W,hW,hE,hb1,hb2,hb3,hb4⟩:=Ack w (.cells #[S (R a.x),S (R a.y)] 24) (.cells #[S (R b.x),S (R b.y)] 24) (.cells #[S (R c.x),S (R c.y)] 24) (.cells #[S (R d.x),S (R d.y)] 24);clear hr ha hb hc hd;go_enter Tryz.func50,Tryz.ntmps50
 go_upto_region 1 with fail
 rw [←hW];clear hW;obtain⟨ba,Av⟩:=Ao3 w.heap.size;rw [←Av]at hb1 hb2 hb3 hb4 ⊢;clear Av;have k1:=Aa (o:=0) hb1 rfl;have k2:=Aa (o:=1) hb1 rfl;have k3:=Aa (o:=0) hb2 rfl;have k4:=Aa (o:=1) hb2 rfl;have k5:=Aa (o:=0) hb3 rfl;have k6:=Aa (o:=1) hb3 rfl;have k7:=Aa (o:=0) hb4 rfl;have k8:=Aa (o:=1) hb4 rfl
 go_cut [9] (fun v9 wx=>∃sh,v9=.bool sh/\sh=Yv a b c d/\wx=W)
 case first=>
  cases e1:Ax a c
  ·cases e2:Ax a d
   ·cases e3:Ax b c
    ·cases e4:Ax b d
     ·go_wp2;go_meet;exact⟨_,rfl,by rw [Py.out,e1,e2,e3,e4];rfl,rfl⟩
     ·go_wp2;go_meet;exact⟨_,rfl,by rw [Py.out,e1,e2,e3,e4];rfl,rfl⟩
    ·go_wp2;go_meet;exact⟨_,rfl,by rw [Py.out,e1,e2,e3];rfl,rfl⟩
   ·go_wp2;go_meet;exact⟨_,rfl,by rw [Py.out,e1,e2];rfl,rfl⟩
  ·go_wp2;go_meet;exact⟨_,rfl,by rw [Py.out,e1];rfl,rfl⟩
 case rest=>
  obtain⟨sh,rfl,Ua,rfl⟩:=hcut;have JL:=Ao4 Ua;clear Ua Py;have Df:=hw.ext hE
  go_upto_region 3 with fail
  go_loopw [47] (fun i wr=>∃j:Nat,i=.int .i64 (j:Nat)/\j<=4/\(∀t∈(IR a b c d).take j,Lc t.1 t.2.1 t.2.2=false)/\Ab wc wr) (fun i _=>4-(intOf i).toNat)
  case atStart=>exact⟨0,rfl,by omega,by simp,Ab.refl _⟩
  case round=>
   obtain⟨j,rfl,hj,Ai,Ac⟩:=hrel;have HO:=Ao4 Ai;clear Ai;by_cases hlt:j<4
   ·obtain⟨x,y,z,hix,EG,zx,zy,zz⟩:=Xr hlt;have QN:=kS x y z zx zy zz hk hk2;have HX:=Ao4 (show Lc x y z=(FM x y z&&(!Ax z x && !Ax z y))from rfl);have HG:=Ao4 EG;have hj0:(j:Int)<4:=(by omega);unfold Ak at QN;clear EG Xr zx zy zz t1 t2 t3 t4 r1 r2 r3 r4 k1 k2 k3 k4 k5 k6 k7 k8 hb1 hb2 hb3 hb4
    go_upto_region 5 with fail
    have Ds:=Ao6 wr (.cells #[S (R x.x),S (R x.y),S (R y.x),S (R y.y),S (R z.x),S (R z.y)] 164);have AQ:=Ac.alloc (.cells #[S (R x.x),S (R x.y),S (R y.x),S (R y.y),S (R z.x),S (R z.y)] 164);generalize wr.alloc (.cells #[S (R x.x),S (R x.y),S (R y.x),S (R y.y),S (R z.x),S (R z.y)] 164)=V at *;obtain⟨bv,yD⟩:=Ao3 wr.heap.size;rw [←yD]at Ds ⊢;clear yD;have s1:=Aa (o:=0) Ds rfl;have s2:=Aa (o:=1) Ds rfl;have s3:=Aa (o:=2) Ds rfl;have s4:=Aa (o:=3) Ds rfl;have s5:=Aa (o:=4) Ds rfl;have s6:=Aa (o:=5) Ds rfl;(go_wp2_with fail);(with_reducible refine(QN _ (Df.ext AQ)).mono ?_);rintro e w1 ⟨rfl,hx1⟩;have Dd:=(hx1.block _ (Ao5 Ds)).trans Ds;have hxb:=AQ.trans hx1;have q1:=Aa (o:=0) Dd rfl;have q2:=Aa (o:=1) Dd rfl;have q3:=Aa (o:=2) Dd rfl;have q4:=Aa (o:=3) Dd rfl;have q5:=Aa (o:=4) Dd rfl;have q6:=Aa (o:=5) Dd rfl;clear s1 s2 s3 s4 s5 s6 Ds hx1 AQ QN Dd
    have hgo:Lc x y z=false→∀t∈(IR a b c d).take (j+1),Lc t.1 t.2.1 t.2.2=false:=by
     intro h0 t ht;have hl:j<(IR a b c d).length:=hlt;rw [AoA hl]at ht
     rcases List.mem_append.1 ht with h|h
     ·exact HO.out t h
     ·have e0:(IR a b c d)[j]=(x,y,z):=Option.some.inj ((AoC hl).symm.trans HG.out);rw [e0,AoJ]at h;rw [h];exact h0
    have hst:Lc x y z=true→r=true:=by
     intro h0;rw [HR.out];unfold NG;rw [Bool.or_eq_true]
     left
     rw [List.any_eq_true];exact⟨(x,y,z),List.mem_of_getElem? HG.out,h0⟩
    have YL:=Ao4 hgo;have HST:=Ao4 hst;clear hgo hst
    cases e0:FM x y z
    ·have HE:=Ao4 e0;clear e0;go_wp2;go_roundw
     case rel=>exact⟨j+1,by go_num,by omega,YL.out (by rw [HX.out,HE.out];rfl),hxb⟩
     case measure=>simp [intOf];omega
    ·cases e1:Ax z x
     ·cases e2:Ax z y
      ·have HE:=Ao4 (And.intro e0 (And.intro e1 e2));have hrt:r=true:=HST.out (by rw [HX.out,e0,e1,e2];rfl);subst hrt;go_wp2;go_ret;exact⟨rfl,hE.trans hxb⟩
      ·have HE:=Ao4 (And.intro e0 (And.intro e1 e2));go_wp2;go_roundw
       case rel=>exact⟨j+1,by go_num,by omega,YL.out (by rw [HX.out,HE.out.1,HE.out.2.1,HE.out.2.2];rfl),hxb⟩
       case measure=>simp [intOf];omega
     ·have HE:=Ao4 (And.intro e0 e1);go_wp2;go_roundw
      case rel=>exact⟨j+1,by go_num,by omega,YL.out (by rw [HX.out,HE.out.1,HE.out.2];rfl),hxb⟩
      case measure=>simp [intOf];omega
   ·have hle:(4:Int)<=(j:Int):=(by omega);obtain rfl:j=4:=by omega
    have hno:(IR a b c d).any (fun t=>Lc t.1 t.2.1 t.2.2)=false:=by rw [List.any_eq_false];intro t ht;rw [HO.out t (by rw [AoF (by simp [IR])];exact ht)];simp
    have DY:r=(!sh&&QV a b c d):=(by rw [HR.out,JL.out];unfold NG;rw [hno];rfl);have Za:=Ao4 DY;replace hb1:=(Ac.block _ (Ao5 hb1)).trans hb1;replace hb2:=(Ac.block _ (Ao5 hb2)).trans hb2;replace hb3:=(Ac.block _ (Ao5 hb3)).trans hb3;replace hb4:=(Ac.block _ (Ao5 hb4)).trans hb4;replace hE:=hE.trans Ac;clear k1 k2 k3 k4 k5 k6 k7 k8 hno DY HO JL Df Ac Xr
    cases sh
    ·have k1:∀p:Ad wr,p.w.cell? ⟨ba,0,none⟩=some (S (R a.x)):=Ad.cell (Aa hb1 rfl);have k2:∀p:Ad wr,p.w.cell? ⟨ba,1,none⟩=some (S (R a.y)):=Ad.cell (Aa hb1 rfl);have k3:∀p:Ad wr,p.w.cell? ⟨ba+1,0,none⟩=some (S (R b.x)):=Ad.cell (Aa hb2 rfl);have k4:∀p:Ad wr,p.w.cell? ⟨ba+1,1,none⟩=some (S (R b.y)):=Ad.cell (Aa hb2 rfl);have k5:∀p:Ad wr,p.w.cell? ⟨ba+1+1,0,none⟩=some (S (R c.x)):=Ad.cell (Aa hb3 rfl);have k6:∀p:Ad wr,p.w.cell? ⟨ba+1+1,1,none⟩=some (S (R c.y)):=Ad.cell (Aa hb3 rfl);have k7:∀p:Ad wr,p.w.cell? ⟨ba+1+1+1,0,none⟩=some (S (R d.x)):=Ad.cell (Aa hb4 rfl);have k8:∀p:Ad wr,p.w.cell? ⟨ba+1+1+1,1,none⟩=some (S (R d.y)):=Ad.cell (Aa hb4 rfl);have hwr:=hw.ext hE;have Ij:r=QV a b c d:=(by rw [Za.out];simp);rw [HP.out]at Ij;unfold KI at Ij;generalize AZ (Ar a b c)=u1 at *;generalize AZ (Ar a b d)=u2 at *;generalize AZ (Ar c d a)=u3 at *;generalize AZ (Ar c d b)=u4 at *;obtain⟨XG,S8⟩:=Ao3 (u1*u2);obtain⟨m34,SA⟩:=Ao3 (u3*u4)
     have Ex:IntKind.i64.wrap (u1*u2)=XG:=by
      rw [S8];clear S8 SA Ij;obtain rfl|rfl|rfl:u1 = -1∨u1=0∨u1=1:=by omega
      all_goals (obtain rfl|rfl|rfl:u2 = -1∨u2=0∨u2=1:=by omega)
      all_goals rfl
     have w34:IntKind.i64.wrap (u3*u4)=m34:=by
      rw [SA];clear S8 SA Ij;obtain rfl|rfl|rfl:u3 = -1∨u3=0∨u3=1:=by omega
      all_goals (obtain rfl|rfl|rfl:u4 = -1∨u4=0∨u4=1:=by omega)
      all_goals rfl
     rw [←S8,←SA]at Ij;clear hb1 hb2 hb3 hb4 r1 r2 r3 r4 Za HP S8 SA;by_cases n1:XG<0
     ·have d1:decide (XG<0)=true:=decide_eq_true n1;rw [d1,Bool.true_and]at Ij;have HRP:=Ao4 Ij;clear Ij n1
      go_upto_region 8 with fail
      refine Di (by kernel_rfl) (by kernel_rfl) ?_
      repeat (go_big_quiet_step (first|(with_reducible refine Gq (t1 _ (hwr.ext (Ad.h _))))|(with_reducible refine Gq (t2 _ (hwr.ext (Ad.h _))))|(with_reducible refine Gq (t3 _ (hwr.ext (Ad.h _))))|(with_reducible refine Gq (t4 _ (hwr.ext (Ad.h _))))))
      refine wpQuiet_nil ?_;rintro _ ⟨p,rfl⟩;go_wp2;go_ret;exact⟨by rw [HRP.out];rfl,hE.trans p.h⟩
     ·have d1:decide (XG<0)=false:=decide_eq_false n1;rw [d1,Bool.false_and]at Ij;subst Ij;clear t3 t4 n1
      go_upto_region 8 with fail
      refine Di (by kernel_rfl) (by kernel_rfl) ?_
      repeat (go_big_quiet_step (first|(with_reducible refine Gq (t1 _ (hwr.ext (Ad.h _))))|(with_reducible refine Gq (t2 _ (hwr.ext (Ad.h _))))|(with_reducible refine Gq (t3 _ (hwr.ext (Ad.h _))))|(with_reducible refine Gq (t4 _ (hwr.ext (Ad.h _))))))
      refine wpQuiet_nil ?_;rintro _ ⟨p,rfl⟩;go_wp2;go_ret;exact⟨rfl,hE.trans p.h⟩
    ·have hrt:r=false:=(by rw [Za.out];rfl);subst hrt
     go_upto_region 8 with fail
     refine Di (by kernel_rfl) (by kernel_rfl) ?_
     repeat (go_big_quiet_step (first|(with_reducible refine Gq (t1 _ (hwr.ext (Ad.h _))))|(with_reducible refine Gq (t2 _ (hwr.ext (Ad.h _))))|(with_reducible refine Gq (t3 _ (hwr.ext (Ad.h _))))|(with_reducible refine Gq (t4 _ (hwr.ext (Ad.h _))))))
     refine wpQuiet_nil ?_;rintro _ ⟨p,rfl⟩;go_wp2;go_ret;exact⟨rfl,hE.trans p.h⟩
def Et(l:List Pt)(p:Pt):Int:=match l.findIdx? (Ax p)with|some j=>(j:Int)|none=>-1
theorem AgP{l:List Pt}{p:Pt}{j:Nat}(hj:j<l.length)(hno:∀q∈l.take j,Ax p q=false)(h:Ax p l[j]=true):Et l p=(j:Int):=by
 unfold Et
 have:l.findIdx? (Ax p)=some j:=by rw [List.findIdx?_eq_some_iff_getElem];refine⟨hj,h,fun i hi=>?_⟩;rw [Bool.not_eq_true];refine hno l[i] ?_;rw [List.mem_take_iff_getElem];exact⟨i,by omega,rfl⟩
 rw [this]
theorem AgR{l:List Pt}{p:Pt}(hno:∀q∈l,Ax p q=false):Et l p = -1:=by
 unfold Et
 have:l.findIdx? (Ax p)=none:=by rw [List.findIdx?_eq_none_iff];exact hno
 rw [this]
theorem AgO(l:List Pt)(p:Pt):decide (0<=Et l p)=l.any (Ax p):=by
 unfold Et
 cases h:l.findIdx? (Ax p)with
 | none=>
  rw [List.findIdx?_eq_none_iff]at h
  symm
  simp only [Int.reduceNeg,Int.reduceLE,decide_false,List.any_eq_false];intro x hx;rw [h x hx];simp
 | some j=>
  rw [List.findIdx?_eq_some_iff_getElem]at h;obtain⟨hj,h1,_⟩:=h;rw [decide_eq_true (by simp)]
  symm
  rw [List.any_eq_true];exact⟨_,Ao8 hj,h1⟩
theorem Xz(l:List Pt)(p:Pt)(A:Option Addr)(c:Nat)(w:World)(hr:Af w A (flat (Aq l)))(hc:l.length<=c)(hcm:c<=9223372036854775807) :
  Calls Tryz.prog 75 #[.slice A l.length c,Ak p] w (AI (Et l p) w):=by
 have pe:=lH;have hb0:=Ao6 w (.cells #[S (R p.x),S (R p.y)] 24);have hE:=(Ab.refl w).alloc (.cells #[S (R p.x),S (R p.y)] 24);obtain⟨r,hr0⟩:=Ao3 (Et l p);rw [←hr0];have HR:=Ao4 hr0;unfold Ak;clear hr0;go_enter Tryz.func75,Tryz.ntmps75
 go_upto_region 2 with fail
 generalize w.alloc (.cells #[S (R p.x),S (R p.y)] 24)=V at *;obtain⟨bp,Au⟩:=Ao3 w.heap.size;rw [←Au]at hb0 ⊢;clear Au
 go_loopw [8] (fun i wr=>∃j:Nat,i=.int .i64 (j:Nat)/\j<=l.length/\(∀q∈l.take j,Ax p q=false)/\Ab V wr) (fun i _=>l.length-(intOf i).toNat)
 case atStart=>exact⟨0,rfl,by omega,by simp,Ab.refl _⟩
 case round=>
  obtain⟨j,rfl,hj,Ai,Ac⟩:=hrel;have HO:=Ao4 Ai;clear Ai;have hbr:=(Ac.block _ (Ao5 hb0)).trans hb0;have s1:=Aa (o:=0) hbr rfl;have s2:=Aa (o:=1) hbr rfl;clear hbr;by_cases hlt:j<l.length
  ·obtain⟨b,o,rfl,hg1,hg2⟩:=Co (hr.ext (hE.trans Ac)) hlt;obtain⟨q,hq⟩:=Ao3 (l[j]);rw [←hq]at hg1 hg2;have hj0:(0:Int)<=(j:Int):=(by omega);have Bc:(j:Int)<(l.length:Int):=(by omega);have HQ:=Ao4 hq;clear hq
   cases e0:Ax p q
   ·have HE:=Ao4 e0
    go_upto_region 4 with fail
    go_quiet (fail)
    go_wp2;go_roundw
    case rel=>
     refine⟨j+1,by go_num,hlt,?_,Ac.drewN _⟩;intro x hx;rw [AoA hlt,←HQ.out]at hx
     rcases List.mem_append.1 hx with h|h
     ·exact HO.out x h
     ·simp only [AoJ]at h;rw [h];exact HE.out
    case measure=>simp [intOf];omega
   ·have EJ:r=(j:Int):=(by rw [HR.out];exact AgP hlt HO.out (by rw [←HQ.out];exact e0));subst EJ
    go_upto_region 4 with fail
    go_quiet (fail)
    go_wp2;go_ret;exact⟨rfl,(hE.trans Ac).drewN _⟩
  ·have hle:(l.length:Int)<=(j:Int):=(by omega);have EJ:r = -1:=(by rw [HR.out];exact AgR (by have:=HO.out;rw [AoF (by omega)]at this;exact this));subst EJ;clear s1 s2;go_wp2;go_ret;exact⟨rfl,hE.trans Ac⟩
theorem contains_c(l:List Pt)(p:Pt)(A:Option Addr)(c:Nat)(w:World)(hr:Af w A (flat (Aq l)))(hc:l.length<=c)(hcm:c<=9223372036854775807) :
  Calls Tryz.prog 48 #[.slice A l.length c,Ak p] w (BF (l.any (Ax p)) w):=by
 have hE:=(Ab.refl w).alloc (.cells #[S (R p.x),S (R p.y)] 24);have ix:=Xz l p A c (w.alloc (.cells #[S (R p.x),S (R p.y)] 24)) (hr.ext hE) hc hcm;have ha:=AgO l p;obtain⟨r,hr0⟩:=Ao3 (l.any (Ax p));rw [←hr0]at ha ⊢;generalize Et l p=z at *;unfold Ak at ix ⊢;clear hr hr0;go_enter Tryz.func48,Tryz.ntmps48;(go_wp2_with fail);(with_reducible refine ix.mono ?_);rintro e w1 ⟨rfl,hx⟩;go_wp2;go_ret;exact⟨by rw [←ha];rfl,hE.trans hx⟩
/-! ### Edges -/
structure EdZ where
 f:Int
 t:Int
 l:Int
 r:Int
def I2(e:EdZ):Value:=.agg #[.int .i64 e.f,.int .i64 e.t,.int .i64 e.l,.int .i64 e.r]
def A9(l:List EdZ):List Value:=l.flatMap (fun e=>[.int .i64 e.f,.int .i64 e.t,.int .i64 e.l,.int .i64 e.r])
theorem Su(l:List EdZ):(A9 l).length=l.length*4:=by
 induction l with
 | nil=>rfl
 | cons e l ih=>unfold A9 at *;simp only [List.flatMap_cons,List.length_append,ih,List.length_cons,List.length_nil];omega
theorem PO:∀(l:List EdZ) (j:Nat) (h:j<l.length),(A9 l)[j*4]?=some (.int .i64 l[j].f)/\(A9 l)[j*4+1]?=some (.int .i64 l[j].t)/\(A9 l)[j*4+2]?=some (.int .i64 l[j].l)/\(A9 l)[j*4+3]?=some (.int .i64 l[j].r)
 | e::l,0,_=>⟨rfl,rfl,rfl,rfl⟩
 | e::l,j+1,h=>by
  have ih:=PO l j (by simpa using h);have e0:A9 (e::l)=.int .i64 e.f :: .int .i64 e.t :: .int .i64 e.l :: .int .i64 e.r::A9 l:=rfl;rw [e0];have e1:(j+1)*4=j*4+1+1+1+1:=(by omega);rw [e1]
  simpa using ih
theorem Mf{w:World}{A:Option Addr}{l:List EdZ}(hr:Af w A (A9 l)){j:Nat}(h:j<l.length):∃b o,A=some ⟨b,o,none⟩/\w.cell? ⟨b,o+j*4,none⟩=some (.int .i64 l[j].f)/\w.cell? ⟨b,o+j*4+1,none⟩=some (.int .i64 l[j].t)/\w.cell? ⟨b,o+j*4+2,none⟩=some (.int .i64 l[j].l)/\w.cell? ⟨b,o+j*4+3,none⟩=some (.int .i64 l[j].r):=by
 have hl:=Su l;obtain⟨b,o,e,hcs⟩:=hr.ad (by omega);obtain⟨f1,f2,f3,f4⟩:=PO l j h;have g1:=hcs (j*4) (by omega);have g2:=hcs (j*4+1) (by omega);have g3:=hcs (j*4+2) (by omega);have g4:=hcs (j*4+3) (by omega);rw [AoC (by omega),AoB]at f1 f2 f3 f4;rw [f1]at g1;rw [f2,←Nat.add_assoc]at g2;rw [f3,←Nat.add_assoc]at g3;rw [f4,←Nat.add_assoc]at g4;exact⟨b,o,e,g1,g2,g3,g4⟩
theorem Akk{P:Program}{w:World}(ts:Array TypeId)(t:TypeId)(k:IntKind)(a b:Int):(Builtin.min_ ts t #[.int k a,.int k b]).run P w=.ok (.int k (min a b)) w:=by
 have m:∀x y:Int,(if y<x then y else x)=min x y:=(by intro x y;split<;>omega);simp only [Builtin.min_,List.foldlM_cons,List.foldlM_nil,Builtin.min2];simp [m]
theorem Akh{P:Program}{w:World}(ts:Array TypeId)(t:TypeId)(k:IntKind)(a b:Int):(Builtin.max_ ts t #[.int k a,.int k b]).run P w=.ok (.int k (max a b)) w:=by
 have m:∀x y:Int,(if y>x then y else x)=max x y:=(by intro x y;split<;>omega);simp only [Builtin.max_,List.foldlM_cons,List.foldlM_nil,Builtin.max2];simp [m]
def FZ(f e:EdZ):Bool:=(decide (f.f=e.f)&&decide (f.t=e.t))||(decide (f.f=e.t)&&decide (f.t=e.f))
theorem Adt(f e:EdZ)(b:Nat)(t:TypeId)(w:World)(hb:w.heap[b]?=some (.cells #[.int .i64 e.f,.int .i64 e.t,.int .i64 e.l,.int .i64 e.r] t)) :
  Calls Tryz.prog 101 #[I2 f,.pointer (some ⟨b,0,none⟩)] w (BF (FZ f e) w):=by
 have k1:=Aa (o:=0) hb rfl;have k2:=Aa (o:=1) hb rfl;have hx:=(Ab.refl w).alloc (.cells #[.int .i64 f.f,.int .i64 f.t,.int .i64 f.l,.int .i64 f.r] 51);have j1:=hx.cellS k1;have j2:=hx.cellS k2;obtain⟨r,hr⟩:=Ao3 (FZ f e);rw [←hr];have HR:=Ao4 hr;have DY:r=((f.f == e.f)&&(f.t == e.t)||(f.f == e.t)&&(f.t == e.f)):=hr;unfold I2;clear hr hb k1 k2 HR
 cases h1:(f.f == e.f)<;>cases h2:(f.t == e.t)<;>cases h3:(f.f == e.t)<;>cases h4:(f.t == e.f)
 all_goals (
  rw [h1,h2,h3,h4]at DY;have HH:=Ao4 DY;clear DY;go_enter Tryz.func101,Tryz.ntmps101;go_wp2;go_ret
  exact⟨by rw [HH.out];rfl,hx⟩)
def EL(n:Nat)(z:Int):Bool:=decide (-1<=z)&&decide (z<(n:Int))
theorem ua(z:Int)(b n g:Nat)(F:Option Addr)(v0 v1:Value)(t:TypeId)(w:World)(hb:w.heap[b]?=some (.cells #[v0,v1,.slice F n g] t)) :
  Calls Tryz.prog 99 #[.int .i64 z,.pointer (some ⟨b,0,none⟩)] w (BF (EL n z) w):=by
 have k1:=Aa (o:=2) hb rfl;obtain⟨r,hr⟩:=Ao3 (EL n z);rw [←hr];have HR:=Ao4 hr;clear hr hb;by_cases h1:-1<=z
 ·have d1:decide (-1<=z)=true:=decide_eq_true h1;by_cases h2:z<(n:Int)
  ·have d2:decide (z<(n:Int))=true:=decide_eq_true h2;have HH:=Ao4 (show r=true by rw [HR.out];unfold EL;rw [d1,d2];rfl);go_enter Tryz.func99,Tryz.ntmps99;go_wp2;go_ret;exact⟨by rw [HH.out];rfl,Ab.refl _⟩
  ·have d2:decide (z<(n:Int))=false:=decide_eq_false h2;have HH:=Ao4 (show r=false by rw [HR.out];unfold EL;rw [d1,d2];rfl);clear h2;go_enter Tryz.func99,Tryz.ntmps99;go_wp2;go_ret;exact⟨by rw [HH.out];rfl,Ab.refl _⟩
 ·have d1:decide (-1<=z)=false:=decide_eq_false h1;have HH:=Ao4 (show r=false by rw [HR.out];unfold EL;rw [d1];rfl);clear h1;go_enter Tryz.func99,Tryz.ntmps99;go_wp2;go_ret;exact⟨by rw [HH.out];rfl,Ab.refl _⟩
def Abe(l:List EdZ)(e0:EdZ)(w:World)(e:Ending)(w':World):Prop:=∃k:Int,e=.returned (.int .i64 k)/\(0<=k↔∃p∈l,FZ p e0=true)/\Ab w w'
theorem AgY(l:List EdZ)(e:EdZ)(bb:Nat)(t:TypeId)(A:Option Addr)(c:Nat)(w:World)(hr:Af w A (A9 l))(hc:l.length<=c)(hcm:c<=9223372036854775807)
  (hb:w.heap[bb]?=some (.cells #[.int .i64 e.f,.int .i64 e.t,.int .i64 e.l,.int .i64 e.r] t)) :
  Calls Tryz.prog 76 #[.slice A l.length c,.func (.func 101) #[] #[.pointer (some ⟨bb,0,none⟩)]] w (Abe l e w):=by
 go_enter Tryz.func76,Tryz.ntmps76;go_wp2
 go_loopw [8] (fun i wr=>∃j:Nat,i=.int .i64 (j:Nat)/\j<=l.length/\(∀p∈l.take j,FZ p e=false)/\Ab w wr) (fun i _=>l.length-(intOf i).toNat)
 case atStart=>exact⟨0,rfl,by omega,by simp,Ab.refl _⟩
 case round=>
  obtain⟨j,rfl,hj,Ai,Ac⟩:=hrel;have HO:=Ao4 Ai;clear Ai;by_cases hlt:j<l.length
  ·obtain⟨b,o,rfl,hg1,hg2,hg3,hg4⟩:=Mf (hr.ext Ac) hlt;obtain⟨p,hp⟩:=Ao3 (l[j]);rw [←hp]at hg1 hg2 hg3 hg4;have hmem:p∈l:=(by rw [hp];exact Ao8 hlt);have HX:=Ao4 hp;clear hp;have hj0:(0:Int)<=(j:Int):=(by omega);have Bc:(j:Int)<(l.length:Int):=(by omega);have bf:=Adt p e bb t wr ((Ac.block _ (Ao5 hb)).trans hb);unfold I2 at bf
   cases hL:FZ p e
   ·rw [hL]at bf;have JK:=Ao4 hL;clear hL;(go_wp2_with fail);(with_reducible refine bf.mono ?_);rintro e w2 ⟨rfl,hx2⟩;go_wp2;go_roundw
    case rel=>
     refine⟨j+1,by go_num,hlt,?_,Ac.trans hx2⟩;intro q hq;rw [AoA hlt,←HX.out]at hq
     rcases List.mem_append.1 hq with h|h
     ·exact HO.out q h
     ·simp only [AoJ]at h;rw [h];exact JK.out
    case measure=>simp [intOf];omega
   ·rw [hL]at bf;have JK:=Ao4 hL;clear hL;(go_wp2_with fail);(with_reducible refine bf.mono ?_);rintro e w2 ⟨rfl,hx2⟩;go_wp2;go_ret;exact⟨j,rfl,⟨fun _=>⟨_,hmem,JK.out⟩,fun _=>by omega⟩,Ac.trans hx2⟩
  ·have hle:(l.length:Int)<=(j:Int):=(by omega);go_wp2;go_ret;refine⟨-1,rfl,⟨fun h=>by omega,?_⟩,Ac⟩;rintro⟨p,hp,h⟩;have:=HO.out p (by rw [AoF (by omega)];exact hp);rw [this]at h;cases h
theorem AcP(l:List EdZ)(e:EdZ)(bb:Nat)(t:TypeId)(A:Option Addr)(c:Nat)(w:World)(hr:Af w A (A9 l))(hc:l.length<=c)(hcm:c<=9223372036854775807)
  (hb:w.heap[bb]?=some (.cells #[.int .i64 e.f,.int .i64 e.t,.int .i64 e.l,.int .i64 e.r] t)) :
  Calls Tryz.prog 100 #[.slice A l.length c,.func (.func 101) #[] #[.pointer (some ⟨bb,0,none⟩)]] w (BF (l.any (FZ · e)) w):=by
 have ix:=AgY l e bb t A c w hr hc hcm hb;obtain⟨r,hr0⟩:=Ao3 (l.any (FZ · e));rw [←hr0];have HR:=Ao4 hr0;clear hr hb hr0;go_enter Tryz.func100,Tryz.ntmps100;(go_wp2_with fail);(with_reducible refine ix.mono ?_);rintro e w2 ⟨k,rfl,hk,hx⟩;have HK:=Ao4 hk;clear hk;go_wp2;go_ret;refine⟨?_,hx⟩
 have e:decide (0<=k)=r:=by
  rw [HR.out]
  cases h:l.any (FZ · _)
  ·rw [decide_eq_false_iff_not,HK.out];rintro⟨p,hp,h2⟩;rw [List.any_eq_false]at h;exact h p hp h2
  ·rw [decide_eq_true_eq,HK.out];rw [List.any_eq_true]at h;exact h
 rw [←e];rfl
def JU(np nf:Nat)(pre:List EdZ)(e:EdZ):Int:=
 if min e.f e.t<0 then 3 else if (np:Int)<=max e.f e.t then 3 else if e.f=e.t then 17 else if pre.any (FZ · e)then 9
 else if EL nf e.l=false then 3 else if EL nf e.r=false then 3 else if e.l=e.r then 7 else 0
structure MapZ where
 pts:List Pt
 eds:List EdZ
 nf:Nat
def AO(A B F:Option Addr)(m:MapZ)(c d g:Nat):Value:=.agg #[.slice A m.pts.length c,.slice B m.eds.length d,.slice F m.nf g]
structure CY(m:MapZ)(c d g:Nat):Prop where
 c1:m.pts.length<=c
 c2:c<=9223372036854775807
 d1:m.eds.length<=d
 d2:d<=9223372036854775807
 g1:m.nf<=g
 g2:g<=9223372036854775807
theorem sX(l:List EdZ)(i:Nat):A9 (l.take i)=(A9 l).take (i*4):=by
 induction l generalizing i with
 | nil=>simp [A9]
 | cons e l ih=>
  cases i with
  | zero=>simp [A9]
  | succ i=>have e0:∀l,A9 (e::l)=.int .i64 e.f :: .int .i64 e.t :: .int .i64 e.l :: .int .i64 e.r::A9 l:=fun _=>rfl;rw [List.take_succ_cons,e0,e0,ih];have e1:(i+1)*4=i*4+1+1+1+1:=(by omega);rw [e1];simp
theorem Af.take{w:World}{A:Option Addr}{cs:List Value}(h:Af w A cs)(n:Nat):Af w A (cs.take n):=
 ⟨fun h0=>by
  obtain⟨b,o,e,hc⟩:=h.ad (by rw [List.length_take]at h0;omega);refine⟨b,o,e,fun j hj=>?_⟩;rw [List.length_take]at hj
  rw [hc j (by omega),List.getElem_take]⟩
theorem Acy(m:MapZ)(A B F:Option Addr)(c d g:Nat)(AP:CY m c d g)(i:Nat)(hi:i<m.eds.length)(w:World)(hB:Af w B (A9 m.eds)) :
  Calls Tryz.prog 49 #[AO A B F m c d g,.int .i64 (i:Nat)] w (AI (JU m.pts.length m.nf (m.eds.take i) m.eds[i]) w):=by
 have Aos:=@Akk Tryz.prog;have Aor:=@Akh Tryz.prog;obtain⟨c1,c2,d1,d2,g1,g2⟩:=AP;obtain⟨e,he⟩:=Ao3 (m.eds[i]);obtain⟨b,o,rfl,hg1,hg2,hg3,hg4⟩:=Mf hB hi;rw [←he]at hg1 hg2 hg3 hg4 ⊢;obtain⟨r,hr⟩:=Ao3 (JU m.pts.length m.nf (m.eds.take i) e);rw [←hr]
 have hr':r=if min e.f e.t<0 then 3 else if (m.pts.length:Int)<=max e.f e.t then 3 else if e.f=e.t then 17 else if (m.eds.take i).any (FZ · e)then 9
  else if EL m.nf e.l=false then 3 else if EL m.nf e.r=false then 3 else if e.l=e.r then 7 else 0:=hr
 have HR:=Ao4 hr';have hpl:(m.eds.take i).length=i:=by rw [List.length_take];omega
 have hid:∀bb t w',Ab w w'→w'.heap[bb]?=some (.cells #[.int .i64 e.f,.int .i64 e.t,.int .i64 e.l,.int .i64 e.r] t)→Calls Tryz.prog 100 #[.slice (some ⟨b,o,none⟩) i d,.func (.func 101) #[] #[.pointer (some ⟨bb,0,none⟩)]] w' (BF ((m.eds.take i).any (FZ · e)) w'):=by intro bb t w' hx h;have:=AcP (m.eds.take i) e bb t (some ⟨b,o,none⟩) d w' (by rw [sX];exact(hB.ext hx).take _) (by omega) d2 h;rw [hpl]at this;exact this
 generalize (m.eds.take i).any (FZ · e)=du at *;obtain⟨np,Nw⟩:=Ao3 m.pts.length;obtain⟨ne,hne⟩:=Ao3 m.eds.length;obtain⟨nf,Cr⟩:=Ao3 m.nf;rw [←Nw]at c1 HR;rw [←hne]at d1 hi;rw [←Cr]at g1 HR;unfold AO;rw [←Nw,←hne,←Cr];have Kh:(0:Int)<=(i:Int):=(by omega);have Nq:(i:Int)<(ne:Int):=(by omega);have hix:(i:Int)<=(d:Int):=(by omega);have hM:=Ao6 w (.cells #[.slice A np c,.slice (some ⟨b,o,none⟩) ne d,.slice F nf g] 35);have hx0:=(Ab.refl w).alloc (.cells #[.slice A np c,.slice (some ⟨b,o,none⟩) ne d,.slice F nf g] 35);have j1:=hx0.cellS hg1;have j2:=hx0.cellS hg2;have j3:=hx0.cellS hg3;have j4:=hx0.cellS hg4;have hx1:=hx0.alloc (.cells #[.int .i64 e.f,.int .i64 e.t,.int .i64 e.l,.int .i64 e.r] 51);have hD:=Ao6 (w.alloc (.cells #[.slice A np c,.slice (some ⟨b,o,none⟩) ne d,.slice F nf g] 35)) (.cells #[.int .i64 e.f,.int .i64 e.t,.int .i64 e.l,.int .i64 e.r] 51);have Cp:=(((Ab.refl _).alloc (.cells #[.int .i64 e.f,.int .i64 e.t,.int .i64 e.l,.int .i64 e.r] 51)).block _ (Ao5 hM)).trans hM;rw [AoE]at hD;clear he hr hr' hpl Nw hne Cr hB hg1 hg2 hg3 hg4 hM hi;go_enter Tryz.func49,Tryz.ntmps49
 go_upto_region 2 with fail
 clear j1 j2 j3 j4;generalize (w.alloc (.cells #[.slice A np c,.slice (some ⟨b,o,none⟩) ne d,.slice F nf g] 35)).alloc (.cells #[.int .i64 e.f,.int .i64 e.t,.int .i64 e.l,.int .i64 e.r] 51)=V at *;obtain⟨bm,AW⟩:=Ao3 w.heap.size;rw [←AW]at Cp hD ⊢;clear AW hx0;have m1:=Aa (o:=0) Cp rfl;have m2:=Aa (o:=1) Cp rfl;have m3:=Aa (o:=2) Cp rfl;have e1:=Aa (o:=0) hD rfl;have e2:=Aa (o:=1) hD rfl;have e3:=Aa (o:=2) hD rfl;have e4:=Aa (o:=3) hD rfl;generalize hmn:min e.f e.t=mn at *;generalize hmx:max e.f e.t=mx at *;by_cases n1:mn<0
 ·have dd:decide (mn<0)=true:=decide_eq_true n1;have HH:=Ao4 (show r=3 by rw [HR.out,if_pos n1]);clear HR hid;go_wp2;go_ret;exact⟨by rw [HH.out];rfl,hx1⟩
 have sH:decide (mn<0)=false:=decide_eq_false n1;by_cases n2:(np:Int)<=mx
 ·have dd:decide ((np:Int)<=mx)=true:=decide_eq_true n2;have HH:=Ao4 (show r=3 by rw [HR.out,if_neg n1,if_pos n2]);clear HR hid n1;go_wp2;go_ret;exact⟨by rw [HH.out];rfl,hx1⟩
 have ZQ:decide ((np:Int)<=mx)=false:=decide_eq_false n2;by_cases n3:e.f=e.t
 ·have dd:(e.f == e.t)=true:=(by rw [beq_iff_eq];exact n3);have HH:=Ao4 (show r=17 by rw [HR.out,if_neg n1,if_neg n2,if_pos n3]);clear HR hid n1 n2 n3;go_wp2;go_ret;exact⟨by rw [HH.out];rfl,hx1⟩
 have sJ:(e.f == e.t)=false:=(by rw [beq_eq_false_iff_ne];exact n3);have NW:=Ao4 (show r=if du=true then 9 else if EL nf e.l=false then 3 else if EL nf e.r=false then 3 else if e.l=e.r then 7 else 0 by rw [HR.out,if_neg n1,if_neg n2,if_neg n3]);have ci:=hid (bm+1) _ V hx1 hD;clear HR n1 n2 n3 hid
 cases Kd:du
 rotate_left
 ·have HH:=Ao4 (show r=9 by rw [NW.out,Kd];rfl);rw [Kd]at ci;clear NW Kd;(go_wp2_with fail);(with_reducible refine ci.mono ?_);rintro e w2 ⟨rfl,hx2⟩;go_wp2;go_ret;exact⟨by rw [HH.out];rfl,hx1.trans hx2⟩
 have Vd:=Ao4 (show r=if EL nf e.l=false then 3 else if EL nf e.r=false then 3 else if e.l=e.r then 7 else 0 by rw [NW.out,Kd];rfl);rw [Kd]at ci;clear NW Kd;(go_wp2_with fail);(with_reducible refine ci.mono ?_);rintro _ w2 ⟨rfl,hx2⟩;have F7:=(hx2.block _ (Ao5 Cp)).trans Cp;have Ox:=(hx2.block _ (Ao5 hD)).trans hD;have s1:=ua e.l bm nf g F _ _ _ w2 F7;replace hx2:=hx1.trans hx2;clear m1 m2 m3 e1 e2 e3 e4 Cp hD hx1 ci;have e1:=Aa (o:=0) Ox rfl;have e2:=Aa (o:=1) Ox rfl;have e3:=Aa (o:=2) Ox rfl;have e4:=Aa (o:=3) Ox rfl
 cases h5:EL nf e.l
 ·have HH:=Ao4 (show r=3 by rw [Vd.out,h5];rfl);rw [h5]at s1;clear Vd h5;(go_wp2_with fail);(with_reducible refine s1.mono ?_);rintro _ w3 ⟨rfl,hx3⟩;go_wp2;go_ret;exact⟨by rw [HH.out];rfl,hx2.trans hx3⟩
 have R9:=Ao4 (show r=if EL nf e.r=false then 3 else if e.l=e.r then 7 else 0 by rw [Vd.out,h5];rfl);rw [h5]at s1;clear Vd h5;(go_wp2_with fail);(with_reducible refine s1.mono ?_);rintro _ w3 ⟨rfl,hx3⟩;have CV:=(hx3.block _ (Ao5 F7)).trans F7;have Oy:=(hx3.block _ (Ao5 Ox)).trans Ox;have s2:=ua e.r bm nf g F _ _ _ w3 CV;replace hx3:=hx2.trans hx3;clear e1 e2 e3 e4 F7 Ox hx2 s1;have e1:=Aa (o:=0) Oy rfl;have e2:=Aa (o:=1) Oy rfl;have e3:=Aa (o:=2) Oy rfl;have e4:=Aa (o:=3) Oy rfl
 cases h6:EL nf e.r
 ·have HH:=Ao4 (show r=3 by rw [R9.out,h6];rfl);rw [h6]at s2;clear R9 h6;(go_wp2_with fail);(with_reducible refine s2.mono ?_);rintro _ w4 ⟨rfl,Ag⟩;go_wp2;go_ret;exact⟨by rw [HH.out];rfl,hx3.trans Ag⟩
 have Ve:=Ao4 (show r=if e.l=e.r then 7 else 0 by rw [R9.out,h6];rfl);rw [h6]at s2;clear R9 h6;(go_wp2_with fail);(with_reducible refine s2.mono ?_);rintro _ w4 ⟨rfl,Ag⟩;have We:=(Ag.block _ (Ao5 Oy)).trans Oy;replace Ag:=hx3.trans Ag;clear e1 e2 e3 e4 CV Oy hx3 s2;have e1:=Aa (o:=0) We rfl;have e2:=Aa (o:=1) We rfl;have e3:=Aa (o:=2) We rfl;have e4:=Aa (o:=3) We rfl;by_cases n7:e.l=e.r
 ·have dd:(e.l == e.r)=true:=(by rw [beq_iff_eq];exact n7);have HH:=Ao4 (show r=7 by rw [Ve.out,if_pos n7]);clear Ve n7;go_wp2;go_ret;exact⟨by rw [HH.out];rfl,Ag⟩
 ·have dd:(e.l == e.r)=false:=(by rw [beq_eq_false_iff_ne];exact n7);have HH:=Ao4 (show r=0 by rw [Ve.out,if_neg n7]);clear Ve n7;go_wp2;go_ret;exact⟨by rw [HH.out];rfl,Ag⟩
def Dn:List Pt→List Pt→Int
 | _,[]=>0
 | pre,p::l=>if pre.any (Ax p)then 9 else Dn (pre ++ [p]) l
def D2(np nf:Nat):List EdZ→List EdZ→Int
 | _,[]=>0
 | pre,e::l=>if JU np nf pre e≠0 then JU np nf pre e else D2 np nf (pre ++ [e]) l
def Ev(l:List Pt)(z:Int):Pt:=l.getD z.toNat ⟨0,0⟩
def PK(l:List Pt)(e f:EdZ):Bool:=NG (Ev l e.f) (Ev l e.t) (Ev l f.f) (Ev l f.t)
def Ej(pts:List Pt):List EdZ→List EdZ→Int
 | _,[]=>0
 | pre,e::l=>if pre.any (PK pts e)then 26 else Ej pts (pre ++ [e]) l
def MJ(m:MapZ):Bool:=decide (400<m.pts.length)||(decide (1200<m.eds.length)||decide (800<m.nf))
theorem Ac4{l:List Pt}{j:Nat}(h:j<l.length):Dn (l.take j) (l.drop j)=if (l.take j).any (Ax l[j])then 9 else Dn (l.take (j+1)) (l.drop (j+1)):=by
 rw [List.drop_eq_getElem_cons h,AoA h];rfl
theorem Ac5{np nf:Nat}{l:List EdZ}{j:Nat}(h:j<l.length):D2 np nf (l.take j) (l.drop j)=if JU np nf (l.take j) l[j]≠0 then JU np nf (l.take j) l[j] else D2 np nf (l.take (j+1)) (l.drop (j+1)):=by
 rw [List.drop_eq_getElem_cons h,AoA h];rfl
theorem Ac6{pts:List Pt}{l:List EdZ}{j:Nat}(h:j<l.length):Ej pts (l.take j) (l.drop j)=if (l.take j).any (PK pts l[j])then 26 else Ej pts (l.take (j+1)) (l.drop (j+1)):=by
 rw [List.drop_eq_getElem_cons h,AoA h];rfl
theorem Sj{np nf:Nat}{pre:List EdZ}{e:EdZ}(h:JU np nf pre e=0):0<=e.f/\0<=e.t/\e.f<(np:Int)/\e.t<(np:Int)/\e.f≠e.t/\pre.any (FZ · e)=false/\EL nf e.l=true/\EL nf e.r=true/\e.l≠e.r:=by
 unfold JU at h
 split at h
 ·cases h
 split at h
 ·cases h
 split at h
 ·cases h
 split at h
 ·cases h
 split at h
 ·cases h
 split at h
 ·cases h
 split at h
 ·cases h
 rename_i h1 h2 h3 h4 h5 h6 h7
 exact⟨by omega,by omega,by omega,by omega,h3,by simpa using h4,by simpa using h5,by simpa using h6,h7⟩
theorem PG{np nf:Nat}{l:List EdZ} : ∀{pre rest:List EdZ},D2 np nf pre rest=0→∀(i:Nat) (h:i<rest.length),JU np nf (pre++rest.take i) rest[i]=0
 | pre,[],_,i,h=>by simp at h
 | pre,e::rest,hc,i,h=>by
  unfold D2 at hc
  split at hc
  ·rename_i hne
   exact absurd hc hne
  ·rename_i h0
   simp only [ne_eq,Decidable.not_not]at h0
   cases i with
   | zero=>simpa using h0
   | succ i=>
    have:=PG (l:=l) hc i (by simpa using h)
    simpa using this
theorem rE{pts:List Pt} : ∀{pre rest:List EdZ},Ej pts pre rest=0→∀(i:Nat) (h:i<rest.length),(pre++rest.take i).any (PK pts rest[i])=false
 | pre,[],_,i,h=>by simp at h
 | pre,e::rest,hc,i,h=>by
  unfold Ej at hc
  split at hc
  ·cases hc
  ·rename_i h0
   cases i with
   | zero=>simpa using h0
   | succ i=>
    have:=rE hc i (by simpa using h)
    simpa using this
theorem rD:∀{pre rest:List Pt},Dn pre rest=0→∀(i:Nat) (h:i<rest.length),(pre++rest.take i).any (Ax rest[i])=false
 | pre,[],_,i,h=>by simp at h
 | pre,e::rest,hc,i,h=>by
  unfold Dn at hc
  split at hc
  ·cases hc
  ·rename_i h0
   cases i with
   | zero=>simpa using h0
   | succ i=>
    have:=rD hc i (by simpa using h)
    simpa using this
def Be(s t:Sg):Bool:=Ax s.a t.a&&Ax s.b t.b
theorem Ip{s t:Sg} : Be s t=true↔s=t:=by
 unfold Be;rw [Bool.and_eq_true,CP,CP];constructor
 ·rintro⟨h1,h2⟩
  cases s;cases t;simp_all
 ·rintro rfl;exact⟨rfl,rfl⟩
theorem tD(p q:Pt)(W:World):(Op.equal 24 (Ak p) (Ak q)).run Tryz.prog W=.ok (Ax p q) W:=by
 unfold Ax Ak;rw [←JQ,←JQ]
 cases b1:(R p.x == R q.x)<;>cases b2:(R p.y == R q.y)<;>simp [go_sem,Op.equal,Op.maxDepth,b1,b2]
theorem tG(s t:Sg)(W:World):(Op.equal 140 (AC s) (AC t)).run Tryz.prog W=.ok (Be s t) W:=by
 unfold Be Ax AC;rw [←JQ,←JQ,←JQ,←JQ]
 cases b1:(R s.a.x == R t.a.x)<;>cases b2:(R s.a.y == R t.a.y)<;>cases b3:(R s.b.x == R t.b.x)<;>cases b4:(R s.b.y == R t.b.y)<;>simp [go_sem,Op.equal,Op.maxDepth,b1,b2,b3,b4]
theorem qZ(b:Bool)(p:Pt)(W:World):(Instr.checkKey b 10000 24 (Ak p)).run Tryz.prog W=.ok () W:=by
 unfold Ak
 kernel_rfl
theorem rA(b:Bool)(s:Sg)(W:World):(Instr.checkKey b 10000 140 (AC s)).run Tryz.prog W=.ok () W:=by
 unfold AC
 kernel_rfl
/-! ### Entries -/
section
variable {α : Type} (enc : α → Value) (same : α → α → Bool)
def AN(l:List (α×Value×Nat)):List MapEntry:=l.map (fun e=>⟨enc e.1,e.2.1,e.2.2⟩)
theorem tY{kt:TypeId}(heq:∀x y W,(Op.equal kt (enc x) (enc y)).run Tryz.prog W=.ok (same x y) W)(k:α)(W:World):∀(l:List (α×Value×Nat)) (i:Nat),
  (Instr.findAsking kt (enc k) (AN enc l) i).run Tryz.prog W=.ok ((l.findIdx? (fun e=>same k e.1)).bind (fun j=>(l[j]?).map (fun e=>(i+j,e.2.1)))) W
 | [],i=>by simp [AN,Instr.findAsking]
 | e::l,i=>by
  have ih:=tY heq k W l (i+1);have e0:AN enc (e::l)=⟨enc e.1,e.2.1,e.2.2⟩::AN enc l:=rfl;rw [e0];unfold Instr.findAsking;simp only [Sem.run_bind,heq,Result.andThen_ok];rw [List.findIdx?_cons]
  cases h:same k e.1
  ·simp only [Bool.false_eq_true,if_false,ih]
   congr 1
   cases h2:l.findIdx? (fun e=>same k e.1)with
   | none=>simp
   | some j=>
    simp only [Option.map_some,Option.bind_some,List.getElem?_cons_succ]
    congr 1
    funext x
    rw [show i+1+j=i+(j+1)by omega]
  ·simp
end
section
variable {α : Type} {enc : α → Value} {same : α → α → Bool}
structure JM(mt kt et:TypeId)(z:Value)(enc:α→Value)(same:α→α→Bool):Prop where
 map:Tryz.prog.underlying mt=some (.map kt et)
 st:∃fs,Tryz.prog.underlying kt=some (.struct fs)
 zero:∀W,(zeroValue et).run Tryz.prog W=.ok z W
 eq:∀x y W,(Op.equal kt (enc x) (enc y)).run Tryz.prog W=.ok (same x y) W
 chk:∀b x W,(Instr.checkKey b 10000 kt (enc x)).run Tryz.prog W=.ok () W
 iff:∀{x y},same x y=true↔x=y
 bits:∀x,Instr.sameBits 10000 (enc x) (enc x)=true
def FH(same:α→α→Bool)(k:α)(l:List (α×Value×Nat)):Option Nat:=l.findIdx? (fun e=>same k e.1)
theorem S4{mt kt et:TypeId}{z:Value}(K:JM mt kt et z enc same)(k:α)(l:List (α×Value×Nat))(W:World) :
  (Instr.findKey kt (enc k) (AN enc l)).run Tryz.prog W=.ok ((FH same k l).bind (fun j=>(l[j]?).map (fun e=>(j,e.2.1)))) W:=by
 obtain⟨fs,hfs⟩:=K.st;unfold Instr.findKey;simp only [Sem.run_bind,run_underlying hfs,Result.andThen_ok]
 cases l with
 | nil=>simp [AN,Instr.findNow,FH]
 | cons e l=>
  have e0:AN enc (e::l)=⟨enc e.1,e.2.1,e.2.2⟩::AN enc l:=rfl
  have h1:Instr.findNow (.struct fs) (enc k) (AN enc (e::l)) 0=none:=by rw [e0];unfold Instr.findNow;have:Instr.sameNow (.struct fs) (enc k) (enc e.1)=none:=(by unfold Instr.sameNow;rfl);rw [this]
  rw [h1];have h2:=tY enc same K.eq k W (e::l) 0;simp only [Nat.zero_add]at h2;exact h2
def FI(same:α→α→Bool)(z:Value)(k:α)(l:List (α×Value×Nat)):Value:=match l.find? (fun e=>same k e.1)with|some e=>e.2.1|none=>z
theorem jl{k:α}{l:List (α×Value×Nat)} : (FH same k l).bind (fun j=>(l[j]?).map (fun e=>(j,e.2.1)))=(FH same k l).bind (fun j=>(l.find? (fun e=>same k e.1)).map (fun e=>(j,e.2.1))):=by
 unfold FH
 cases h:l.findIdx? (fun e=>same k e.1)with
 | none=>rfl
 | some j=>
  simp only [Option.bind_some];rw [List.findIdx?_eq_some_iff_getElem]at h;obtain⟨hj,h1,h2⟩:=h
  have h3:l.find? (fun e=>same k e.1)=some l[j]:=by rw [List.find?_eq_some_iff_getElem];exact⟨h1,j,hj,rfl,fun i hi=>by have:=h2 i hi;simpa using this⟩
  rw [h3,AoC hj]
theorem Rf{mt kt et:TypeId}{z:Value}(K:JM mt kt et z enc same)(k:α)(l:List (α×Value×Nat)){b clock:Nat}{W:World}(hb:W.heap[b]?=some (.map (AN enc l).toArray clock)) :
  (Instr.lookup mt (.map (some b)) (enc k) false).run Tryz.prog W=.ok (FI same z k l) W:=by
 have hf:=S4 K k l W;rw [jl]at hf;unfold FI
 cases h:l.find? (fun e=>same k e.1)with
 | none=>
  rw [h]at hf
  have hf':(Instr.findKey kt (enc k) (AN enc l)).run Tryz.prog W=.ok none W:=by rw [hf];cases FH same k l<;>rfl
  simp [Instr.lookup,run_underlying K.map,MapKept.run_getObj_map hb,K.chk,hf',K.zero,Result.andThen]
 | some e=>
  have hi:(FH same k l).isSome:=by unfold FH;rw [List.findIdx?_isSome,List.any_eq_true];exact⟨e,List.mem_of_find?_eq_some h,(by have:=List.find?_some h;exact this)⟩
  obtain⟨j,hj⟩:=Option.isSome_iff_exists.1 hi;rw [h,hj]at hf;simp only [Option.bind_some,Option.map_some]at hf;simp [Instr.lookup,run_underlying K.map,MapKept.run_getObj_map hb,K.chk,hf,Result.andThen]
end
theorem QE:JM 96 24 31 (.slice none 0 0) Ak Ax where
 map:=Tryz.underlying96
 st:=⟨_,Tryz.underlying24⟩
 zero:=fun W=>by simp [go_sem]
 eq:=tD
 chk:=qZ
 iff:=CP
 bits:=fun x=>by unfold Ak;simp [Instr.sameBits,beq_toListBytes]
theorem XB:JM 95 140 3 (.int .i64 0) AC Be where
 map:=Tryz.underlying95
 st:=⟨_,Tryz.underlying140⟩
 zero:=fun W=>by simp [go_sem]
 eq:=tG
 chk:=rA
 iff:=Ip
 bits:=fun x=>by unfold AC;simp [Instr.sameBits,beq_toListBytes]
section
open Go.ChangeMaps (setBlock)
theorem Mi{w:World}{b:Nat}{o o':Obj}(h:w.heap[b]?=some o'):(setBlock w b o).heap[b]?=some o:=by
 have hlt:=(Array.getElem?_eq_some_iff.1 h).1;show (w.heap.setIfInBounds b o)[b]?=some o;rw [Array.getElem?_setIfInBounds_self];simp [hlt]
theorem UA{w:World}{b k:Nat}{o:Obj}(h:k≠b):(setBlock w b o).heap[k]?=w.heap[k]?:=by
 show (w.heap.setIfInBounds b o)[k]?=w.heap[k]?;rw [Array.getElem?_setIfInBounds_ne (by omega)]
theorem lI{w:World}{b:Nat}{o:Obj}(h:w.heap[b]?=some o):setBlock w b o=w:=by
 have hlt:=(Array.getElem?_eq_some_iff.1 h).1
 have e:w.heap.setIfInBounds b o=w.heap:=by
  apply Array.ext_getElem?;intro i;by_cases hi:i=b
  ·subst hi;rw [Array.getElem?_setIfInBounds_self];simp [hlt]at *;exact h.symm
  ·rw [Array.getElem?_setIfInBounds_ne (by omega)]
 unfold setBlock;rw [e]
section
variable {α : Type} {enc : α → Value} {same : α → α → Bool}
theorem lF{mt kt et:TypeId}{z:Value}(K:JM mt kt et z enc same)(k:α)(l:List (α×Value×Nat))(hno:∀e∈l,same k e.1=false){b clock:Nat}{W:World}(hb:W.heap[b]?=some (.map (AN enc l).toArray clock)) :
  (Instr.mapEntry mt (.map (some b)) (enc k)).run Tryz.prog W=.ok (.tuple #[z,.int .i64 (clock:Nat)]) (setBlock W b (.map (AN enc (l ++ [(k,z,clock)])).toArray (clock+1))):=by
 have hf:=S4 K k l W
 have hi:FH same k l=none:=by unfold FH;rw [List.findIdx?_eq_none_iff];exact hno
 rw [hi]at hf;simp only [Option.bind_none]at hf
 have e0:AN enc l ++ [{key:=enc k,val:=z,born:=clock}]=AN enc (l ++ [(k,z,clock)]):=by simp [AN]
 simp [Instr.mapEntry,run_underlying K.map,MapKept.run_getObj_map hb,K.chk,hf,K.zero,MapKept.run_setObj_map _ hb,Result.andThen,setBlock,e0,goInt]
theorem Akg{mt kt et:TypeId}{z:Value}(K:JM mt kt et z enc same)(k:α)(l:List (α×Value×Nat)){j:Nat}(hj:j<l.length)(hno:∀e∈l.take j,same k e.1=false)(hk:l[j].1=k){b clock:Nat}{W:World}(hb:W.heap[b]?=some (.map (AN enc l).toArray clock)) :
  (Instr.mapEntry mt (.map (some b)) (enc k)).run Tryz.prog W=.ok (.tuple #[l[j].2.1,.int .i64 (l[j].2.2:Nat)]) W:=by
 have hf:=S4 K k l W
 have hi:FH same k l=some j:=by unfold FH;rw [List.findIdx?_eq_some_iff_getElem];refine⟨hj,by rw [hk];exact K.iff.2 rfl,fun i Bu=>?_⟩;rw [Bool.not_eq_true];refine hno l[i] ?_;rw [List.mem_take_iff_getElem];exact⟨i,by omega,rfl⟩
 rw [hi]at hf;simp only [Option.bind_some,AoC hj,Option.map_some]at hf
 have EG:(AN enc l)[j]?=some ⟨enc k,l[j].2.1,l[j].2.2⟩:=by simp [AN,AoC hj,hk]
 have hst:(Instr.keyThatStays (enc k) (enc k)).run Tryz.prog W=.ok (enc k) W:=by simp [Instr.keyThatStays,K.bits]
 have hmod:(AN enc l).modify j (fun e=>{e with key:=enc k})=AN enc l:=by
  apply List.ext_getElem?;intro i;rw [List.getElem?_modify];by_cases Bu:j=i
  ·subst Bu;rw [EG];simp
  ·simp [Bu]
 have CC:(setBlock W b (.map (AN enc l).toArray clock))=W:=lI hb;unfold setBlock at CC;simp [Instr.mapEntry,run_underlying K.map,MapKept.run_getObj_map hb,K.chk,hf,EG,hst,MapKept.run_setObj_map _ hb,Result.andThen,goInt];rw [hmod];exact CC
theorem rq(mt:TypeId)(l:List (α×Value×Nat)){j:Nat}(hj:j<l.length)(hno:∀e∈l.take j,e.2.2≠l[j].2.2)(v:Value){b clock:Nat}{W:World}(hb:W.heap[b]?=some (.map (AN enc l).toArray clock)) :
  (Instr.entryStore mt (.map (some b)) (.int .i64 (l[j].2.2:Nat)) v).run Tryz.prog W=.ok () (setBlock W b (.map (AN enc (l.set j (l[j].1,v,l[j].2.2))).toArray clock)):=by
 have hf:(AN enc l).findIdx? (fun e=>(e.born:Int) == (l[j].2.2:Int))=some j:=by rw [List.findIdx?_eq_some_iff_getElem];refine⟨by simp [AN];exact hj,by simp [AN],fun i Bu=>?_⟩;have:=hno l[i] (by rw [List.mem_take_iff_getElem];exact⟨i,by omega,rfl⟩);simp [AN];omega
 have e0:(AN enc l).modify j (fun e=>{e with val:=v})=AN enc (l.set j (l[j].1,v,l[j].2.2)):=by
  apply List.ext_getElem?;intro i;rw [List.getElem?_modify];by_cases Bu:j=i
  ·subst Bu;simp [AN,hj]
  ·simp [Bu,AN,List.getElem?_set_ne Bu]
 simp [Instr.entryStore,MapKept.run_getObj_map hb,asInt,asIntOf,hf,MapKept.run_setObj_map _ hb,Result.andThen,setBlock,e0]
end
end
section
open Go.ChangeMaps (setBlock)
def Bh(s:Sg):Sg:=⟨s.b,s.a⟩
theorem Vz(s:Sg)(w:World):Calls Tryz.prog 82 #[AC s] w (BG (AC (Bh s)) w):=by
 have hE:=((Ab.refl w).alloc (.cells #[S (R s.a.x),S (R s.a.y),S (R s.b.x),S (R s.b.y)] 140)).alloc (.cells #[S [],S [],S [],S []] 140);have hb1:=(Below.heap_alloc (w.alloc (.cells #[S (R s.a.x),S (R s.a.y),S (R s.b.x),S (R s.b.y)] 140)) (.cells #[S [],S [],S [],S []] 140) w.heap.size (by simp)).trans (Ao6 w (.cells #[S (R s.a.x),S (R s.a.y),S (R s.b.x),S (R s.b.y)] 140));have hb2:=Ao6 (w.alloc (.cells #[S (R s.a.x),S (R s.a.y),S (R s.b.x),S (R s.b.y)] 140)) (.cells #[S [],S [],S [],S []] 140);rw [AoE]at hb2;unfold Bh AC;go_enter Tryz.func82,Tryz.ntmps82
 go_upto_region 1 with fail
 rw [show (⟨#[]⟩:ByteArray)=⟨([]:Bs).toArray⟩from rfl];generalize (w.alloc (.cells #[S (R s.a.x),S (R s.a.y),S (R s.b.x),S (R s.b.y)] 140)).alloc (.cells #[S [],S [],S [],S []] 140)=V at *;obtain⟨bb,Br⟩:=Ao3 w.heap.size;have hle:w.heap.size<=bb+1:=(by omega);rw [←Br]at hb1 hb2 ⊢;clear Br;have k1:=Aa (o:=0) hb1 rfl;have k2:=Aa (o:=1) hb1 rfl;have k3:=Aa (o:=2) hb1 rfl;have k4:=Aa (o:=3) hb1 rfl;have y0:=Aj (o:=0) hb2;have y1:=Aj (o:=1) hb2;have y2:=Aj (o:=2) hb2;have y3:=Aj (o:=3) hb2;have z0:=Aa (o:=0) hb2 rfl;have z1:=Aa (o:=1) hb2 rfl;have z2:=Aa (o:=2) hb2 rfl;have z3:=Aa (o:=3) hb2 rfl;have hq:=PD (S (R s.b.x)) (S (R s.b.y)) (S (R s.a.x)) (S (R s.a.y)) hb2;have q0:=Aa (o:=0) hq rfl;have q1:=Aa (o:=1) hq rfl;have q2:=Aa (o:=2) hq rfl;have q3:=Aa (o:=3) hq rfl;clear hq hb1 hb2;go_wp2;refine bodyPost_ret (v:=.agg #[S (R s.b.x),S (R s.b.y),S (R s.a.x),S (R s.a.y)]) (by simp [results,Tryz.results82,go_sem,q0,q1,q2,q3]) rfl ?_;exact⟨rfl,(((hE.setCell (p:=⟨bb+1,0,none⟩) hle _).setCell (p:=⟨bb+1,1,none⟩) hle _).setCell (p:=⟨bb+1,2,none⟩) hle _).setCell (p:=⟨bb+1,3,none⟩) hle _⟩
def Om(w:World):World:=((w.alloc (.map #[] 0)).alloc (.map #[] 0)).alloc (.cells #[.map (some w.heap.size),.map (some (w.heap.size+1))] 98)
theorem sZ(w:World):Calls Tryz.prog 84 #[] w (fun e w'=>e=.returned (.pointer (some ⟨w.heap.size+1+1,0,none⟩))/\w'=Om w):=by
 have hmm:=@run_makeMap Tryz.prog;go_enter Tryz.func84,Tryz.ntmps84;go_wp2;go_ret;exact⟨rfl,rfl⟩
end
end Go.Proofs.YtnddllipjippnaaGreatDoor
