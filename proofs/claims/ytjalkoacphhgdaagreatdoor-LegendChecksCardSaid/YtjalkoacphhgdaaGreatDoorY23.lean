/- Y23: S1 S2 Rg S3 S4 S5 S6 S7. -/
import Derived.Test.YtjalkoacphhgdaaGreatDoorY22
set_option maxRecDepth 100000
set_option maxHeartbeats 16000000
namespace Go.Proofs.YtjalkoacphhgdaaGreatDoor
open Go.RowKit Kl
theorem Ik(a b:Pt){k:Nat}(ha:Ar k a)(hb:Ar k b)(hk:0<k)(hk2:k<=400)(w:World)(hw:An w) :
  Calls Tryz.prog 110 #[Ak a,Ak b] w (Az (AX a b) w):=by
 have c1:=Jc a.x b.x (a:=k) (b:=k) ⟨ha.x,hb.x,hk,hk,by omega⟩;have c2:=Jc a.y b.y (a:=k) (b:=k) ⟨ha.y,hb.y,hk,hk,by omega⟩;have hE:=((Aa.refl w).alloc (.cells #[S (R a.x),S (R a.y)] 92)).alloc (.cells #[S (R b.x),S (R b.y)] 92);obtain⟨x,hx0⟩:=Am8 (AO a.x b.x);obtain⟨y,Bj⟩:=Am8 (AO a.y b.y)
 have hr:AX a b=if x≠0 then x else y:=by rw [hx0,Bj];rfl
 rw [hr];rw [←hx0]at c1;rw [←Bj]at c2
 have hA:(w.alloc (.cells #[S (R a.x),S (R a.y)] 92)).alloc (.cells #[S (R b.x),S (R b.y)] 92) |>.heap[w.heap.size]?=some (.cells #[S (R a.x),S (R a.y)] 92):=(Below.heap_alloc _ _ _ (by simp)).trans (AmB w _)
 have hB:=AmB (w.alloc (.cells #[S (R a.x),S (R a.y)] 92)) (.cells #[S (R b.x),S (R b.y)] 92);rw [AmJ]at hB;obtain⟨r,FQ⟩:=Am8 (if x≠0 then x else y:Int);have HRE:=Am9 FQ;rw [←FQ];unfold Ak
 have MN:∀(b o:Nat) (w:World),w.cell? ⟨b,o,none⟩=some (.int .i64 x)→w.cell? ⟨b,o+1,none⟩=some (.int .i64 y)→Calls Tryz.prog 98 #[.slice (some ⟨b,o,none⟩) 2 2] w (Az r w):=by intro b o w h1 h2;rw [FQ];exact Wt x y b o w h1 h2
 clear ha hb hr hx0 Bj FQ;go_enter Tryz.func110,Tryz.ntmps110
 go_upto_region 1 with fail
 generalize (w.alloc (.cells #[S (R a.x),S (R a.y)] 92)).alloc (.cells #[S (R b.x),S (R b.y)] 92)=V at *;have hs:=hE.size;obtain⟨ba,Aq⟩:=Am8 w.heap.size;rw [←Aq]at hA hB ⊢;clear Aq hs;have k1:=Ab (o:=0) hA rfl;have k2:=Ab (o:=1) hA rfl;have k3:=Ab (o:=0) hB rfl;have k4:=Ab (o:=1) hB rfl;have hV:=hw.ext hE;clear hA hB
 go_region_held3 (fun w'=>w'.cell? ⟨ba,0,none⟩=some (S (R a.x))/\w'.cell? ⟨ba,1,none⟩=some (S (R a.y))/\w'.cell? ⟨ba+1,0,none⟩=some (S (R b.x))/\w'.cell? ⟨ba+1,1,none⟩=some (S (R b.y)))
  (go_keep)
  (first|((with_reducible refine(c1 _ (hV.ext (Aa.refl V).drew)).mono ?_);rintro e w5 ⟨rfl,Ad⟩;have X5:Aa V w5:=(Aa.refl V).drew.trans Ad;have d1:=X5.cellS k1;have d2:=X5.cellS k2;have d3:=X5.cellS k3;have d4:=X5.cellS k4)|((with_reducible refine(c2 _ (hV.ext X5)).mono ?_);rintro e w6 ⟨rfl,AH⟩;have X6:Aa V w6:=X5.trans AH;have f1:=X6.cellS k1;have f2:=X6.cellS k2;have f3:=X6.cellS k3;have f4:=X6.cellS k4)|((with_reducible refine(MN w6.heap.size 0 (w6.alloc (.cells #[.int .i64 x,.int .i64 y] 3)) (Ab (o:=0) (AmB w6 _) rfl) (Ab (o:=1) (AmB w6 _) rfl)).mono ?_);rintro e w7 ⟨rfl,AB⟩;have X7:Aa V w7:=(X6.alloc _).trans AB;have g1:=X7.cellS k1;have g2:=X7.cellS k2;have g3:=X7.cellS k3;have g4:=X7.cellS k4))
 go_wp2;go_ret;exact⟨rfl,hE.trans X7⟩
theorem gq(a b c:Pt){k:Nat}(ha:Ar k a)(hb:Ar k b)(hc:Ar k c)(hk:0<k)(hk2:k<=400)(w:World)(hw:An w) :
  Calls Tryz.prog 229 #[Ak a,Ak b,Ak c] w (Bf (R (Al a b c)) w):=by
 have s1:=GU b.x a.x (a:=k) (b:=k) ⟨hb.x,ha.x,hk,hk,by omega⟩;have s2:=GU b.y a.y (a:=k) (b:=k) ⟨hb.y,ha.y,hk,hk,by omega⟩;have s3:=GU c.x a.x (a:=k) (b:=k) ⟨hc.x,ha.x,hk,hk,by omega⟩;have s4:=GU c.y a.y (a:=k) (b:=k) ⟨hc.y,ha.y,hk,hk,by omega⟩;have m1:=Qd (b.x-a.x) (c.y-a.y) (a:=k+k+1) (b:=k+k+1) ⟨hb.x.sub ha.x,hc.y.sub ha.y,by omega,by omega,by omega⟩;have m2:=Qd (b.y-a.y) (c.x-a.x) (a:=k+k+1) (b:=k+k+1) ⟨hb.y.sub ha.y,hc.x.sub ha.x,by omega,by omega,by omega⟩;have sb:=GU ((b.x-a.x)*(c.y-a.y)) ((b.y-a.y)*(c.x-a.x)) (a:=k+k+1+(k+k+1)) (b:=k+k+1+(k+k+1)) ⟨(hb.x.sub ha.x).mul (hc.y.sub ha.y),(hb.y.sub ha.y).mul (hc.x.sub ha.x),by omega,by omega,by omega⟩;have e:Al a b c=(b.x-a.x)*(c.y-a.y)-(b.y-a.y)*(c.x-a.x):=rfl;rw [←e]at sb;obtain⟨r,hr⟩:=Am8 (Al a b c);rw [←hr]at sb ⊢;unfold Ak;clear ha hb hc e hr;go_enter Tryz.func229,Tryz.ntmps229;(go_wp2_with fail);obtain⟨W,hW,hE,hb1,hb2,hb3⟩:=OD w (.cells #[S (R a.x),S (R a.y)] 92) (.cells #[S (R b.x),S (R b.y)] 92) (.cells #[S (R c.x),S (R c.y)] 92);rw [←hW];clear hW
 have SO:∀w',Aa W w'→(w'.cell? ⟨w.heap.size,0,none⟩=some (S (R a.x))/\w'.cell? ⟨w.heap.size,1,none⟩=some (S (R a.y))/\w'.cell? ⟨w.heap.size+1,0,none⟩=some (S (R b.x))/\w'.cell? ⟨w.heap.size+1,1,none⟩=some (S (R b.y))/\w'.cell? ⟨w.heap.size+1+1,0,none⟩=some (S (R c.x))/\w'.cell? ⟨w.heap.size+1+1,1,none⟩=some (S (R c.y))):=fun w' h=>⟨h.cellS (Ab hb1 rfl),h.cellS (Ab hb1 rfl),h.cellS (Ab hb2 rfl),h.cellS (Ab hb2 rfl),h.cellS (Ab hb3 rfl),h.cellS (Ab hb3 rfl)⟩
 have C7:=hw.ext hE;have X:Aa W W:=Aa.refl W;clear hb1 hb2 hb3
 go_region_held3 (fun w'=>w'.cell? ⟨w.heap.size,0,none⟩=some (S (R a.x))/\w'.cell? ⟨w.heap.size,1,none⟩=some (S (R a.y))/\w'.cell? ⟨w.heap.size+1,0,none⟩=some (S (R b.x))/\w'.cell? ⟨w.heap.size+1,1,none⟩=some (S (R b.y))/\w'.cell? ⟨w.heap.size+1+1,0,none⟩=some (S (R c.x))/\w'.cell? ⟨w.heap.size+1+1,1,none⟩=some (S (R c.y)))
  (first|with_reducible exact SO _ X|with_reducible exact SO _ X.drew)
  (first|((with_reducible refine(s1 _ (C7.ext (by first|exact X|exact X.drew))).mono ?_);rintro e w1 ⟨rfl,hx1⟩;replace X:Aa W w1:=(by first|exact X.trans hx1|exact X.drew.trans hx1))|((with_reducible refine(s2 _ (C7.ext (by first|exact X|exact X.drew))).mono ?_);rintro e w1 ⟨rfl,hx1⟩;replace X:Aa W w1:=(by first|exact X.trans hx1|exact X.drew.trans hx1))|((with_reducible refine(s3 _ (C7.ext (by first|exact X|exact X.drew))).mono ?_);rintro e w1 ⟨rfl,hx1⟩;replace X:Aa W w1:=(by first|exact X.trans hx1|exact X.drew.trans hx1))|((with_reducible refine(s4 _ (C7.ext (by first|exact X|exact X.drew))).mono ?_);rintro e w1 ⟨rfl,hx1⟩;replace X:Aa W w1:=(by first|exact X.trans hx1|exact X.drew.trans hx1))|((with_reducible refine(m1 _ (C7.ext (by first|exact X|exact X.drew))).mono ?_);rintro e w1 ⟨rfl,hx1⟩;replace X:Aa W w1:=(by first|exact X.trans hx1|exact X.drew.trans hx1))|((with_reducible refine(m2 _ (C7.ext (by first|exact X|exact X.drew))).mono ?_);rintro e w1 ⟨rfl,hx1⟩;replace X:Aa W w1:=(by first|exact X.trans hx1|exact X.drew.trans hx1))|((with_reducible refine(sb _ (C7.ext (by first|exact X|exact X.drew))).mono ?_);rintro e w1 ⟨rfl,hx1⟩;replace X:Aa W w1:=(by first|exact X.trans hx1|exact X.drew.trans hx1)))
 go_wp2;go_ret;exact⟨rfl,hE.trans X⟩
theorem Ln(a b c:Pt){k:Nat}(ha:Ar k a)(hb:Ar k b)(hc:Ar k c)(hk:0<k)(hk2:k<=400)(w:World)(hw:An w) :
  Calls Tryz.prog 153 #[Ak a,Ak b,Ak c] w (Az (AD (Al a b c)) w):=by
 have ar:=gq a b c ha hb hc hk hk2;have sg:=Qe (Al a b c);have hE:=(((Aa.refl w).alloc (.cells #[S (R a.x),S (R a.y)] 92)).alloc (.cells #[S (R b.x),S (R b.y)] 92)).alloc (.cells #[S (R c.x),S (R c.y)] 92);unfold Ak at ar ⊢;clear ha hb hc;go_enter Tryz.func153,Tryz.ntmps153;(go_wp2_with fail);(with_reducible refine(ar _ (hw.ext hE)).mono ?_);rintro e w1 ⟨rfl,hx⟩;(go_wp2_with fail);(with_reducible refine(sg _).mono ?_);rintro e w2 ⟨rfl,hx2⟩;go_wp2;go_ret;exact⟨rfl,hE.trans (hx.trans hx2)⟩
def IX(y x:Int):Int:=if 0<y then 0 else if y=0 then (if 0<x then 0 else 1)else 1
def BG(p q:Pt):Int:=IX (AO q.y p.y) (AO q.x p.x)
theorem AfX{y x:Int}(h:0<y):IX y x=0:=if_pos h
theorem AfY{y x:Int}(h:y=0)(hx:0<x):IX y x=0:=by unfold IX;rw [if_neg (by omega),if_pos h,if_pos hx]
theorem AfZ{y x:Int}(h:y=0)(hx:¬0<x):IX y x=1:=by unfold IX;rw [if_neg (by omega),if_pos h,if_neg hx]
theorem Aga{y x:Int}(h:y<0):IX y x=1:=by unfold IX;rw [if_neg (by omega),if_neg (by omega)]
theorem ij(p q:Pt){k:Nat}(hp:Ar k p)(hq:Ar k q)(hk:0<k)(hk2:k<=400)(w:World)(hw:An w) :
  Calls Tryz.prog 231 #[Ak p,Ak q] w (Az (BG p q) w):=by
 have c1:=Jc q.y p.y (a:=k) (b:=k) ⟨hq.y,hp.y,hk,hk,by omega⟩;have c2:=Jc q.x p.x (a:=k) (b:=k) ⟨hq.x,hp.x,hk,hk,by omega⟩;unfold BG;generalize AO q.y p.y=y at *;generalize AO q.x p.x=x at *;have hb1:=(Below.heap_alloc (w.alloc (.cells #[S (R p.x),S (R p.y)] 92)) (.cells #[S (R q.x),S (R q.y)] 92) w.heap.size (by simp)).trans (AmB w (.cells #[S (R p.x),S (R p.y)] 92));have hb2:=AmB (w.alloc (.cells #[S (R p.x),S (R p.y)] 92)) (.cells #[S (R q.x),S (R q.y)] 92);rw [AmJ]at hb2;have hE:=((Aa.refl w).alloc (.cells #[S (R p.x),S (R p.y)] 92)).alloc (.cells #[S (R q.x),S (R q.y)] 92);unfold Ak;clear hp hq;obtain⟨r,hr⟩:=Am8 (IX y x);rw [←hr];have HR:=Am9 hr;clear hr;go_enter Tryz.func231,Tryz.ntmps231
 go_upto_region 1 with fail
 generalize (w.alloc (.cells #[S (R p.x),S (R p.y)] 92)).alloc (.cells #[S (R q.x),S (R q.y)] 92)=V at *;obtain⟨ba,Aq⟩:=Am8 w.heap.size;rw [←Aq]at hb1 hb2 ⊢;clear Aq;have k1:=Ab (o:=0) hb1 rfl;have k2:=Ab (o:=1) hb1 rfl;have k3:=Ab (o:=0) hb2 rfl;have k4:=Ab (o:=1) hb2 rfl;clear hb1 hb2;(go_wp2_with fail);(with_reducible refine(c1 _ (hw.ext hE)).mono ?_);rintro e w1 ⟨rfl,hx1⟩;have j1:=hx1.cellS k1;have j2:=hx1.cellS k2;have j3:=hx1.cellS k3;have j4:=hx1.cellS k4;replace hE:=hE.trans hx1;clear k1 k2 k3 k4 hx1;by_cases y1:0<y
 ·have e0:r=0:=(by rw [HR.out,AfX y1]);subst e0;have d1:decide (0<y)=true:=decide_eq_true y1;clear c2 c1;go_wp2;go_ret;exact⟨rfl,hE⟩
 ·by_cases y0:y=0
  ·subst y0;by_cases x1:0<x
   ·have e0:r=0:=(by rw [HR.out,AfY rfl x1]);subst e0;have d1:decide (0<x)=true:=decide_eq_true x1;clear c1 y1;(go_wp2_with fail);(with_reducible refine(c2 _ (hw.ext hE)).mono ?_);rintro e w2 ⟨rfl,hx2⟩;go_wp2;go_ret;exact⟨rfl,hE.trans hx2⟩
   ·have e0:r=1:=(by rw [HR.out,AfZ rfl x1]);subst e0;have d1:decide (0<x)=false:=decide_eq_false x1;have x2:x<=0:=(by omega);clear c1 y1 x1;(go_wp2_with fail);(with_reducible refine(c2 _ (hw.ext hE)).mono ?_);rintro e w2 ⟨rfl,hx2⟩;go_wp2;go_ret;exact⟨rfl,hE.trans hx2⟩
  ·have e0:r=1:=(by rw [HR.out,Aga (by omega)]);subst e0;have d1:decide (0<y)=false:=decide_eq_false y1;have d2:decide (y=0)=false:=decide_eq_false y0;have d3:(y == 0)=false:=(by rw [beq_eq_false_iff_ne];exact y0);have y2:y<0:=(by omega);clear c2 c1 y1;go_wp2;go_ret;exact⟨rfl,hE⟩
def JO(u v t:Int):Bool:=decide (u<=0)&&(decide (v<=0)&&decide (t=0))
def MM(a b p:Pt):Bool:=JO (AX a p) (AX p b) (AD (Al a b p))
def Gy(a b p:Pt):Bool:=if 0<AX a b then MM b a p else MM a b p
theorem AhC(a b p:Pt){k:Nat}(ha:Ar k a)(hb:Ar k b)(hp:Ar k p)(hk:0<k)(hk2:k<=400)(hz:¬0<AX a b)(w:World)(hw:An w) :
  Calls Tryz.prog 152 #[Ak a,Ak b,Ak p] w (Br (MM a b p) w):=by
 have c0:=Ik a b ha hb hk hk2;have c1:=Ik a p ha hp hk hk2;have c2:=Ik p b hp hb hk hk2;have c3:=Ln a b p ha hb hp hk hk2;unfold MM;generalize AX a b=z at *;generalize AX a p=u at *;generalize AX p b=v at *;generalize AD (Al a b p)=t at *;obtain⟨W,hW,hE,hb1,hb2,hb3⟩:=OD w (.cells #[S (R a.x),S (R a.y)] 92) (.cells #[S (R b.x),S (R b.y)] 92) (.cells #[S (R p.x),S (R p.y)] 92);obtain⟨r,hr⟩:=Am8 (JO u v t);rw [←hr];have HR:=Am9 hr;unfold Ak at c0 c1 c2 c3 ⊢;clear ha hb hp hr;go_enter Tryz.func152,Tryz.ntmps152
 go_upto_region 1 with fail
 rw [←hW];clear hW;obtain⟨ba,Aq⟩:=Am8 w.heap.size;have hle:w.heap.size<=ba:=(by omega);rw [←Aq]at hb1 hb2 hb3 ⊢;clear Aq;have k1:=Ab (o:=0) hb1 rfl;have k2:=Ab (o:=1) hb1 rfl;have k3:=Ab (o:=0) hb2 rfl;have k4:=Ab (o:=1) hb2 rfl;(go_wp2_with fail);(with_reducible refine(c0 _ (hw.ext hE)).mono ?_);rintro e w1 ⟨rfl,hx1⟩;replace hb1:=(hx1.block _ (AmA hb1)).trans hb1;replace hb2:=(hx1.block _ (AmA hb2)).trans hb2;replace hb3:=(hx1.block _ (AmA hb3)).trans hb3;replace hE:=hE.trans hx1;clear k1 k2 k3 k4 hx1 c0;have dz:decide (0<z)=false:=decide_eq_false (by omega);have hz':z<=0:=(by omega);clear hz
 go_upto_region 3 with fail
 have De:=hE;have n1:=hb1;have n2:=hb2;have n3:=hb3;obtain⟨V,hV⟩:=Am8 w1;rw [←hV]at De n1 n2 n3 ⊢;clear hV hb1 hb2 hb3 hE dz;have k1:=Ab (o:=0) n1 rfl;have k2:=Ab (o:=1) n1 rfl;have k3:=Ab (o:=0) n2 rfl;have k4:=Ab (o:=1) n2 rfl;have k5:=Ab (o:=0) n3 rfl;have k6:=Ab (o:=1) n3 rfl;clear n1 n2 n3;(go_wp2_with fail);(with_reducible refine(c1 _ (hw.ext De)).mono ?_);rintro e w2 ⟨rfl,hx2⟩;have j1:=hx2.cellS k1;have j2:=hx2.cellS k2;have j3:=hx2.cellS k3;have j4:=hx2.cellS k4;have j5:=hx2.cellS k5;have j6:=hx2.cellS k6;replace De:=De.trans hx2;clear k1 k2 k3 k4 k5 k6 hx2 c1;by_cases hu:u<=0
 ·have du:decide (u<=0)=true:=decide_eq_true hu;(go_wp2_with fail);(with_reducible refine(c2 _ (hw.ext De)).mono ?_);rintro e w3 ⟨rfl,hx3⟩;have i1:=hx3.cellS j1;have i2:=hx3.cellS j2;have i3:=hx3.cellS j3;have i4:=hx3.cellS j4;have i5:=hx3.cellS j5;have i6:=hx3.cellS j6;replace De:=De.trans hx3;clear j1 j2 j3 j4 j5 j6 hx3 c2;by_cases hv:v<=0
  ·have dv:decide (v<=0)=true:=decide_eq_true hv;have hrt:r=decide (t=0):=(by rw [HR.out];unfold JO;rw [du,dv];rfl);have XA:=Am9 hrt;clear hrt;(go_wp2_with fail);(with_reducible refine(c3 _ (hw.ext De)).mono ?_);rintro e w4 ⟨rfl,Ai⟩;go_wp2;go_ret;exact⟨by rw [XA.out];rfl,De.trans Ai⟩
  ·have dv:decide (v<=0)=false:=decide_eq_false hv;have hrt:r=false:=(by rw [HR.out];unfold JO;rw [du,dv];rfl);subst hrt;have hv':0<v:=(by omega);clear hv c3;go_wp2;go_ret;exact⟨rfl,De⟩
 ·have du:decide (u<=0)=false:=decide_eq_false hu;have hrt:r=false:=(by rw [HR.out];unfold JO;rw [du];rfl);subst hrt;have VH:0<u:=(by omega);clear hu c2 c3;go_wp2;go_ret;exact⟨rfl,De⟩
theorem AhB(a b p:Pt){k:Nat}(ha:Ar k a)(hb:Ar k b)(hp:Ar k p)(hk:0<k)(hk2:k<=400)(hz:0<AX a b)(w:World)(hw:An w) :
  Calls Tryz.prog 152 #[Ak a,Ak b,Ak p] w (Br (MM b a p) w):=by
 have c0:=Ik a b ha hb hk hk2;have c1:=Ik b p hb hp hk hk2;have c2:=Ik p a hp ha hk hk2;have c3:=Ln b a p hb ha hp hk hk2;unfold MM;generalize AX a b=z at *;generalize AX b p=u at *;generalize AX p a=v at *;generalize AD (Al b a p)=t at *;obtain⟨W,hW,hE,hb1,hb2,hb3⟩:=OD w (.cells #[S (R a.x),S (R a.y)] 92) (.cells #[S (R b.x),S (R b.y)] 92) (.cells #[S (R p.x),S (R p.y)] 92);obtain⟨r,hr⟩:=Am8 (JO u v t);rw [←hr];have HR:=Am9 hr;unfold Ak at c0 c1 c2 c3 ⊢;clear ha hb hp hr;go_enter Tryz.func152,Tryz.ntmps152
 go_upto_region 1 with fail
 rw [←hW];clear hW;obtain⟨ba,Aq⟩:=Am8 w.heap.size;have hle:w.heap.size<=ba:=(by omega);rw [←Aq]at hb1 hb2 hb3 ⊢;clear Aq;have k1:=Ab (o:=0) hb1 rfl;have k2:=Ab (o:=1) hb1 rfl;have k3:=Ab (o:=0) hb2 rfl;have k4:=Ab (o:=1) hb2 rfl;(go_wp2_with fail);(with_reducible refine(c0 _ (hw.ext hE)).mono ?_);rintro e w1 ⟨rfl,hx1⟩;replace hb1:=(hx1.block _ (AmA hb1)).trans hb1;replace hb2:=(hx1.block _ (AmA hb2)).trans hb2;replace hb3:=(hx1.block _ (AmA hb3)).trans hb3;replace hE:=hE.trans hx1;clear k1 k2 k3 k4 hx1 c0;have dz:decide (0<z)=true:=decide_eq_true hz;have k1:=Ab (o:=0) hb1 rfl;have k2:=Ab (o:=1) hb1 rfl;have k3:=Ab (o:=0) hb2 rfl;have k4:=Ab (o:=1) hb2 rfl;have f1:=AV (o:=0) hb1;have f2:=AV (o:=1) hb1;have f3:=AV (o:=0) hb2;have f4:=AV (o:=1) hb2
 go_upto_region 3 with fail
 obtain⟨V,hV⟩:=Am8 ((((w1.setCell ⟨ba,0,none⟩ (S (R b.x))).setCell ⟨ba,1,none⟩ (S (R b.y))).setCell ⟨ba+1,0,none⟩ (S (R a.x))).setCell ⟨ba+1,1,none⟩ (S (R a.y)));rw [←hV]
 have De:Aa w V:=by rw [hV];exact(((hE.setCell (p:=⟨ba,0,none⟩) hle _).setCell (p:=⟨ba,1,none⟩) hle _).setCell (p:=⟨ba+1,0,none⟩) (Nat.le_succ_of_le hle) _).setCell (p:=⟨ba+1,1,none⟩) (Nat.le_succ_of_le hle) _
 have n1:V.heap[ba]?=some (.cells #[S (R b.x),S (R b.y)] 92):=by rw [hV,Below.heap_setCell _ _ _ _ (show ba≠ba+1 by omega),Below.heap_setCell _ _ _ _ (show ba≠ba+1 by omega)];exact mN _ _ hb1
 have n2:V.heap[ba+1]?=some (.cells #[S (R a.x),S (R a.y)] 92):=by rw [hV];exact mN _ _ (by rw [Below.heap_setCell _ _ _ _ (show ba+1≠ba by omega),Below.heap_setCell _ _ _ _ (show ba+1≠ba by omega)];exact hb2)
 have n3:V.heap[ba+1+1]?=some (.cells #[S (R p.x),S (R p.y)] 92):=by rw [hV,Below.heap_setCell _ _ _ _ (show ba+1+1≠ba+1 by omega),Below.heap_setCell _ _ _ _ (show ba+1+1≠ba+1 by omega),Below.heap_setCell _ _ _ _ (show ba+1+1≠ba by omega),Below.heap_setCell _ _ _ _ (show ba+1+1≠ba by omega)];exact hb3
 clear hV k1 k2 k3 k4 f1 f2 f3 f4 hb1 hb2 hb3 hE dz;have k1:=Ab (o:=0) n1 rfl;have k2:=Ab (o:=1) n1 rfl;have k3:=Ab (o:=0) n2 rfl;have k4:=Ab (o:=1) n2 rfl;have k5:=Ab (o:=0) n3 rfl;have k6:=Ab (o:=1) n3 rfl;clear n1 n2 n3;(go_wp2_with fail);(with_reducible refine(c1 _ (hw.ext De)).mono ?_);rintro e w2 ⟨rfl,hx2⟩;have j1:=hx2.cellS k1;have j2:=hx2.cellS k2;have j3:=hx2.cellS k3;have j4:=hx2.cellS k4;have j5:=hx2.cellS k5;have j6:=hx2.cellS k6;replace De:=De.trans hx2;clear k1 k2 k3 k4 k5 k6 hx2 c1;by_cases hu:u<=0
 ·have du:decide (u<=0)=true:=decide_eq_true hu;(go_wp2_with fail);(with_reducible refine(c2 _ (hw.ext De)).mono ?_);rintro e w3 ⟨rfl,hx3⟩;have i1:=hx3.cellS j1;have i2:=hx3.cellS j2;have i3:=hx3.cellS j3;have i4:=hx3.cellS j4;have i5:=hx3.cellS j5;have i6:=hx3.cellS j6;replace De:=De.trans hx3;clear j1 j2 j3 j4 j5 j6 hx3 c2;by_cases hv:v<=0
  ·have dv:decide (v<=0)=true:=decide_eq_true hv;have hrt:r=decide (t=0):=(by rw [HR.out];unfold JO;rw [du,dv];rfl);have XA:=Am9 hrt;clear hrt;(go_wp2_with fail);(with_reducible refine(c3 _ (hw.ext De)).mono ?_);rintro e w4 ⟨rfl,Ai⟩;go_wp2;go_ret;exact⟨by rw [XA.out];rfl,De.trans Ai⟩
  ·have dv:decide (v<=0)=false:=decide_eq_false hv;have hrt:r=false:=(by rw [HR.out];unfold JO;rw [du,dv];rfl);subst hrt;have hv':0<v:=(by omega);clear hv c3;go_wp2;go_ret;exact⟨rfl,De⟩
 ·have du:decide (u<=0)=false:=decide_eq_false hu;have hrt:r=false:=(by rw [HR.out];unfold JO;rw [du];rfl);subst hrt;have VH:0<u:=(by omega);clear hu c2 c3;go_wp2;go_ret;exact⟨rfl,De⟩
theorem il(a b p:Pt){k:Nat}(ha:Ar k a)(hb:Ar k b)(hp:Ar k p)(hk:0<k)(hk2:k<=400)(w:World)(hw:An w) :
  Calls Tryz.prog 152 #[Ak a,Ak b,Ak p] w (Br (Gy a b p) w):=by
 unfold Gy
 split
 ·exact AhB a b p ha hb hp hk hk2 (by assumption) w hw
 ·exact AhC a b p ha hb hp hk hk2 (by assumption) w hw
structure Af(W:World) where
 w:World
 h:Aa W w
instance (W:World):Inhabited (Af W):=⟨⟨W,Aa.refl W⟩⟩
theorem Af.cell{W:World}{a:Addr}{v:Value}(h:W.cell? a=some v)(p:Af W):p.w.cell? a=some v:=p.h.cellS h
theorem Fe{P:Program}{id:Nat}{Q:Exit→Act→World→Prop}{a:Act}{W:World}{l:List Oper}(hm:P.follows .mixedOrders=true)(hB:Region.lexB .any l.toArray=true)
  (h:wpQuiet P l.toArray (fun w'=>∃p:Af W,w'=p.w) (fun a'=>∀w',(∃p:Af W,w'=p.w)→Q .normal a' w') l a):(Code.region id l.toArray true).wp P Q a W:=
 wp_region_quiet (C:=fun w'=>∃p:Af W,w'=p.w) hm hB ⟨⟨W.drew,(Aa.refl W).drew⟩,rfl⟩ (by simpa using h)
section
variable {P : Program} {f : FuncId} {args : Array Value} {W : World} {p : Af W}
theorem DU{n:Int}(h:Calls P f args p.w (Az n p.w)):Calls P f args p.w fun e w''=>e=.returned (.int .i64 n)/\∃q:Af W,w''=q.w:=
 h.mono fun _ w1 ⟨he,hx⟩=>⟨he,⟨w1,p.h.trans hx⟩,rfl⟩
theorem pP{l:Bs}(h:Calls P f args p.w (Bf l p.w)):Calls P f args p.w fun e w''=>e=.returned (S l)/\∃q:Af W,w''=q.w:=
 h.mono fun _ w1 ⟨he,hx⟩=>⟨he,⟨w1,p.h.trans hx⟩,rfl⟩
theorem pO{b:Bool}(h:Calls P f args p.w (Br b p.w)):Calls P f args p.w fun e w''=>e=.returned (.bool b)/\∃q:Af W,w''=q.w:=
 h.mono fun _ w1 ⟨he,hx⟩=>⟨he,⟨w1,p.h.trans hx⟩,rfl⟩
end
def Ap(p q:Pt):Bool:=decide (p.x=q.x)&&decide (p.y=q.y)
theorem Ct{p q:Pt} : Ap p q=true↔p=q:=by
 unfold Ap;rw [Bool.and_eq_true,decide_eq_true_eq,decide_eq_true_eq];constructor
 ·rintro⟨h1,h2⟩
  cases p;cases q;simp_all
 ·rintro rfl;exact⟨rfl,rfl⟩
theorem Jy(p q:Rat):(R p == R q)=decide (p=q):=by
 by_cases h:p=q
 ·subst h;simp
 ·rw [decide_eq_false h,beq_eq_false_iff_ne];exact fun e=>h (Nn e)
theorem gW(p q:Pt)(W:World):(binOp .eql 92 (.agg #[S (R p.x),S (R p.y)]) (.agg #[S (R q.x),S (R q.y)])).run Tryz.prog W=.ok (.bool (Ap p q)) W:=by
 unfold Ap;rw [←Jy,←Jy]
 cases b1:(R p.x == R q.x)<;>cases b2:(R p.y == R q.y)<;>simp [go_sem,b1,b2]
theorem js(p q:Pt)(W:World):(binOp .neq 92 (.agg #[S (R p.x),S (R p.y)]) (.agg #[S (R q.x),S (R q.y)])).run Tryz.prog W=.ok (.bool (!Ap p q)) W:=by
 unfold Ap;rw [←Jy,←Jy]
 cases b1:(R p.x == R q.x)<;>cases b2:(R p.y == R q.y)<;>simp [go_sem,b1,b2]
theorem Qk(q:Rat):-1<=AD q/\AD q<=1:=by unfold AD;split<;>(try split)<;>omega
def Ks(x y z:Pt):Bool:=Gy x y z&&(!Ap z x && !Ap z y)
def WN(a b c d:Pt):Bool:=Ap a c||(Ap a d||(Ap b c||Ap b d))
def JW(a b c:Pt):Int:=AD (Al a b c)
def PY(a b c d:Pt):Bool:=decide (JW a b c*JW a b d<0)&&decide (JW c d a*JW c d b<0)
def Ir(a b c d:Pt):List (Pt×Pt×Pt):=[(c,d,a),(c,d,b),(a,b,c),(a,b,d)]
def MP(a b c d:Pt):Bool:=(Ir a b c d).any (fun t=>Ks t.1 t.2.1 t.2.2)||(!WN a b c d&&PY a b c d)
def Ql(a b c d:Pt):Array Value:=#[S (R c.x),S (R c.y),S (R d.x),S (R d.y),S (R a.x),S (R a.y),S (R c.x),S (R c.y),S (R d.x),S (R d.y),S (R b.x),S (R b.y),S (R a.x),S (R a.y),S (R b.x),S (R b.y),S (R c.x),S (R c.y),S (R a.x),S (R a.y),S (R b.x),S (R b.y),S (R d.x),S (R d.y)]
theorem AjP(a b c d:Pt){k:Nat}(ha:Ar k a)(hb:Ar k b)(hc:Ar k c)(hd:Ar k d){j:Nat}(hj:j<4) :
  ∃x y z:Pt,(∀W,(Instr.index 205 (.agg (Ql a b c d)) (.int .i64 (j:Nat))).run Tryz.prog W=.ok (.agg #[S (R x.x),S (R x.y),S (R y.x),S (R y.y),S (R z.x),S (R z.y)]) W)/\(Ir a b c d)[j]?=some (x,y,z)/\Ar k x/\Ar k y/\Ar k z:=by
 obtain rfl|rfl|rfl|rfl:j=0∨j=1∨j=2∨j=3:=by omega
 ·exact⟨c,d,a,fun W=>by unfold Ql;kernel_rfl,rfl,hc,hd,ha⟩
 ·exact⟨c,d,b,fun W=>by unfold Ql;kernel_rfl,rfl,hc,hd,hb⟩
 ·exact⟨a,b,c,fun W=>by unfold Ql;kernel_rfl,rfl,ha,hb,hc⟩
 ·exact⟨a,b,d,fun W=>by unfold Ql;kernel_rfl,rfl,ha,hb,hd⟩
theorem Aaa(w:World)(o1 o2 o3 o4:Obj):∃W,W=(((w.alloc o1).alloc o2).alloc o3).alloc o4/\Aa w W/\W.heap[w.heap.size]?=some o1/\W.heap[w.heap.size+1]?=some o2/\W.heap[w.heap.size+1+1]?=some o3/\W.heap[w.heap.size+1+1+1]?=some o4:=by
 obtain⟨V,hV,hE,h1,h2,h3⟩:=OD w o1 o2 o3;have hs:V.heap.size=w.heap.size+1+1+1:=(by rw [hV];simp);have h4:=AmB V o4;have hx:=(Aa.refl V).alloc o4;rw [hs]at h4;exact⟨V.alloc o4,by rw [hV],hE.alloc o4,(hx.block _ (AmA h1)).trans h1,(hx.block _ (AmA h2)).trans h2,(hx.block _ (AmA h3)).trans h3,h4⟩
theorem Ah0(a b c d:Pt){k:Nat}(ha:Ar k a)(hb:Ar k b)(hc:Ar k c)(hd:Ar k d)(hk:0<k)(hk2:k<=400)(w:World)(hw:An w) :
  Calls Tryz.prog 80 #[Ak a,Ak b,Ak c,Ak d] w (Br (MP a b c d) w):=by
 have t1:=Ln a b c ha hb hc hk hk2;have t2:=Ln a b d ha hb hd hk hk2;have t3:=Ln c d a hc hd ha hk hk2;have t4:=Ln c d b hc hd hb hk hk2;have VF:=@AjP a b c d k ha hb hc hd;unfold Ql at VF;have r1:=Qk (Al a b c);have r2:=Qk (Al a b d);have r3:=Qk (Al c d a);have r4:=Qk (Al c d b);obtain⟨r,hr⟩:=Am8 (MP a b c d);rw [←hr];have HR:=Am9 hr;have HP:=Am9 (show PY a b c d=(decide (JW a b c*JW a b d<0)&&decide (JW c d a*JW c d b<0))from rfl);have Kd:=Am9 (show WN a b c d=(Ap a c||(Ap a d||(Ap b c||Ap b d)))from rfl);have pe:=gW;have pn:=js;unfold Ak at t1 t2 t3 t4 ⊢;obtain⟨W,hW,hE,hb1,hb2,hb3,hb4⟩:=Aaa w (.cells #[S (R a.x),S (R a.y)] 92) (.cells #[S (R b.x),S (R b.y)] 92) (.cells #[S (R c.x),S (R c.y)] 92) (.cells #[S (R d.x),S (R d.y)] 92);clear hr ha hb hc hd;go_enter Tryz.func80,Tryz.ntmps80
 go_upto_region 1 with fail
 rw [←hW];clear hW;obtain⟨ba,Aq⟩:=Am8 w.heap.size;rw [←Aq]at hb1 hb2 hb3 hb4 ⊢;clear Aq;have k1:=Ab (o:=0) hb1 rfl;have k2:=Ab (o:=1) hb1 rfl;have k3:=Ab (o:=0) hb2 rfl;have k4:=Ab (o:=1) hb2 rfl;have k5:=Ab (o:=0) hb3 rfl;have k6:=Ab (o:=1) hb3 rfl;have k7:=Ab (o:=0) hb4 rfl;have k8:=Ab (o:=1) hb4 rfl
 go_cut [9] (fun v9 wx=>∃sh,v9=.bool sh/\sh=WN a b c d/\wx=W)
 case first=>
  cases e1:Ap a c
  ·cases e2:Ap a d
   ·cases e3:Ap b c
    ·cases e4:Ap b d
     ·go_wp2;go_meet;exact⟨_,rfl,by rw [Kd.out,e1,e2,e3,e4];rfl,rfl⟩
     ·go_wp2;go_meet;exact⟨_,rfl,by rw [Kd.out,e1,e2,e3,e4];rfl,rfl⟩
    ·go_wp2;go_meet;exact⟨_,rfl,by rw [Kd.out,e1,e2,e3];rfl,rfl⟩
   ·go_wp2;go_meet;exact⟨_,rfl,by rw [Kd.out,e1,e2];rfl,rfl⟩
  ·go_wp2;go_meet;exact⟨_,rfl,by rw [Kd.out,e1];rfl,rfl⟩
 case rest=>
  obtain⟨sh,rfl,M7,rfl⟩:=hcut;have Jo:=Am9 M7;clear M7 Kd;have C7:=hw.ext hE
  go_upto_region 3 with fail
  go_loopw [47] (fun i wr=>∃j:Nat,i=.int .i64 (j:Nat)/\j<=4/\(∀t∈(Ir a b c d).take j,Ks t.1 t.2.1 t.2.2=false)/\Aa wc wr) (fun i _=>4-(intOf i).toNat)
  case atStart=>exact⟨0,rfl,by omega,by simp,Aa.refl _⟩
  case round=>
   obtain⟨j,rfl,hj,Aj,Ac⟩:=hrel;have HO:=Am9 Aj;clear Aj;by_cases hlt:j<4
   ·obtain⟨x,y,z,hix,DY,zx,zy,zz⟩:=VF hlt;have fC:=il x y z zx zy zz hk hk2;have HX:=Am9 (show Ks x y z=(Gy x y z&&(!Ap z x && !Ap z y))from rfl);have HG:=Am9 DY;have hj0:(j:Int)<4:=(by omega);unfold Ak at fC;clear DY VF zx zy zz t1 t2 t3 t4 r1 r2 r3 r4 k1 k2 k3 k4 k5 k6 k7 k8 hb1 hb2 hb3 hb4
    go_upto_region 5 with fail
    have CJ:=AmB wr (.cells #[S (R x.x),S (R x.y),S (R y.x),S (R y.y),S (R z.x),S (R z.y)] 204);have AA:=Ac.alloc (.cells #[S (R x.x),S (R x.y),S (R y.x),S (R y.y),S (R z.x),S (R z.y)] 204);generalize wr.alloc (.cells #[S (R x.x),S (R x.y),S (R y.x),S (R y.y),S (R z.x),S (R z.y)] 204)=V at *;obtain⟨bv,tY⟩:=Am8 wr.heap.size;rw [←tY]at CJ ⊢;clear tY;have s1:=Ab (o:=0) CJ rfl;have s2:=Ab (o:=1) CJ rfl;have s3:=Ab (o:=2) CJ rfl;have s4:=Ab (o:=3) CJ rfl;have s5:=Ab (o:=4) CJ rfl;have s6:=Ab (o:=5) CJ rfl;(go_wp2_with fail);(with_reducible refine(fC _ (C7.ext AA)).mono ?_);rintro e w1 ⟨rfl,hx1⟩;have Eo:=(hx1.block _ (AmA CJ)).trans CJ;have hxb:=AA.trans hx1;have q1:=Ab (o:=0) Eo rfl;have q2:=Ab (o:=1) Eo rfl;have q3:=Ab (o:=2) Eo rfl;have q4:=Ab (o:=3) Eo rfl;have q5:=Ab (o:=4) Eo rfl;have q6:=Ab (o:=5) Eo rfl;clear s1 s2 s3 s4 s5 s6 CJ hx1 AA fC Eo
    have hgo:Ks x y z=false→∀t∈(Ir a b c d).take (j+1),Ks t.1 t.2.1 t.2.2=false:=by
     intro h0 t ht;have hl:j<(Ir a b c d).length:=hlt;rw [AmF hl]at ht
     rcases List.mem_append.1 ht with h|h
     ·exact HO.out t h
     ·have e0:(Ir a b c d)[j]=(x,y,z):=Option.some.inj ((AmH hl).symm.trans HG.out);rw [e0,AmO]at h;rw [h];exact h0
    have hst:Ks x y z=true→r=true:=by
     intro h0;rw [HR.out];unfold MP;rw [Bool.or_eq_true]
     left
     rw [List.any_eq_true];exact⟨(x,y,z),List.mem_of_getElem? HG.out,h0⟩
    have Xl:=Am9 hgo;have HST:=Am9 hst;clear hgo hst
    cases e0:Gy x y z
    ·have HE:=Am9 e0;clear e0;go_wp2;go_roundw
     case rel=>exact⟨j+1,by go_num,by omega,Xl.out (by rw [HX.out,HE.out];rfl),hxb⟩
     case measure=>simp [intOf];omega
    ·cases e1:Ap z x
     ·cases e2:Ap z y
      ·have HE:=Am9 (And.intro e0 (And.intro e1 e2));have hrt:r=true:=HST.out (by rw [HX.out,e0,e1,e2];rfl);subst hrt;go_wp2;go_ret;exact⟨rfl,hE.trans hxb⟩
      ·have HE:=Am9 (And.intro e0 (And.intro e1 e2));go_wp2;go_roundw
       case rel=>exact⟨j+1,by go_num,by omega,Xl.out (by rw [HX.out,HE.out.1,HE.out.2.1,HE.out.2.2];rfl),hxb⟩
       case measure=>simp [intOf];omega
     ·have HE:=Am9 (And.intro e0 e1);go_wp2;go_roundw
      case rel=>exact⟨j+1,by go_num,by omega,Xl.out (by rw [HX.out,HE.out.1,HE.out.2];rfl),hxb⟩
      case measure=>simp [intOf];omega
   ·have hle:(4:Int)<=(j:Int):=(by omega);obtain rfl:j=4:=by omega
    have hno:(Ir a b c d).any (fun t=>Ks t.1 t.2.1 t.2.2)=false:=by rw [List.any_eq_false];intro t ht;rw [HO.out t (by rw [AmK (by simp [Ir])];exact ht)];simp
    have Dw:r=(!sh&&PY a b c d):=(by rw [HR.out,Jo.out];unfold MP;rw [hno];rfl);have EE:=Am9 Dw;replace hb1:=(Ac.block _ (AmA hb1)).trans hb1;replace hb2:=(Ac.block _ (AmA hb2)).trans hb2;replace hb3:=(Ac.block _ (AmA hb3)).trans hb3;replace hb4:=(Ac.block _ (AmA hb4)).trans hb4;replace hE:=hE.trans Ac;clear k1 k2 k3 k4 k5 k6 k7 k8 hno Dw HO Jo C7 Ac VF
    cases sh
    ·have k1:∀p:Af wr,p.w.cell? ⟨ba,0,none⟩=some (S (R a.x)):=Af.cell (Ab hb1 rfl);have k2:∀p:Af wr,p.w.cell? ⟨ba,1,none⟩=some (S (R a.y)):=Af.cell (Ab hb1 rfl);have k3:∀p:Af wr,p.w.cell? ⟨ba+1,0,none⟩=some (S (R b.x)):=Af.cell (Ab hb2 rfl);have k4:∀p:Af wr,p.w.cell? ⟨ba+1,1,none⟩=some (S (R b.y)):=Af.cell (Ab hb2 rfl);have k5:∀p:Af wr,p.w.cell? ⟨ba+1+1,0,none⟩=some (S (R c.x)):=Af.cell (Ab hb3 rfl);have k6:∀p:Af wr,p.w.cell? ⟨ba+1+1,1,none⟩=some (S (R c.y)):=Af.cell (Ab hb3 rfl);have k7:∀p:Af wr,p.w.cell? ⟨ba+1+1+1,0,none⟩=some (S (R d.x)):=Af.cell (Ab hb4 rfl);have k8:∀p:Af wr,p.w.cell? ⟨ba+1+1+1,1,none⟩=some (S (R d.y)):=Af.cell (Ab hb4 rfl);have hwr:=hw.ext hE;have GQ:r=PY a b c d:=(by rw [EE.out];simp);rw [HP.out]at GQ;unfold JW at GQ;generalize AD (Al a b c)=u1 at *;generalize AD (Al a b d)=u2 at *;generalize AD (Al c d a)=u3 at *;generalize AD (Al c d b)=u4 at *;obtain⟨VZ,Rl⟩:=Am8 (u1*u2);obtain⟨m34,Rp⟩:=Am8 (u3*u4)
     have Qo:IntKind.i64.wrap (u1*u2)=VZ:=by
      rw [Rl];clear Rl Rp GQ;obtain rfl|rfl|rfl:u1 = -1∨u1=0∨u1=1:=by omega
      all_goals (obtain rfl|rfl|rfl:u2 = -1∨u2=0∨u2=1:=by omega)
      all_goals rfl
     have w34:IntKind.i64.wrap (u3*u4)=m34:=by
      rw [Rp];clear Rl Rp GQ;obtain rfl|rfl|rfl:u3 = -1∨u3=0∨u3=1:=by omega
      all_goals (obtain rfl|rfl|rfl:u4 = -1∨u4=0∨u4=1:=by omega)
      all_goals rfl
     rw [←Rl,←Rp]at GQ;clear hb1 hb2 hb3 hb4 r1 r2 r3 r4 EE HP Rl Rp;by_cases n1:VZ<0
     ·have d1:decide (VZ<0)=true:=decide_eq_true n1;rw [d1,Bool.true_and]at GQ;have s7:=Am9 GQ;clear GQ n1
      go_upto_region 8 with fail
      refine Fe (by kernel_rfl) (by kernel_rfl) ?_
      repeat (go_big_quiet_step (first|(with_reducible refine DU (t1 _ (hwr.ext (Af.h _))))|(with_reducible refine DU (t2 _ (hwr.ext (Af.h _))))|(with_reducible refine DU (t3 _ (hwr.ext (Af.h _))))|(with_reducible refine DU (t4 _ (hwr.ext (Af.h _))))))
      refine wpQuiet_nil ?_;rintro _ ⟨p,rfl⟩;go_wp2;go_ret;exact⟨by rw [s7.out];rfl,hE.trans p.h⟩
     ·have d1:decide (VZ<0)=false:=decide_eq_false n1;rw [d1,Bool.false_and]at GQ;subst GQ;clear t3 t4 n1
      go_upto_region 8 with fail
      refine Fe (by kernel_rfl) (by kernel_rfl) ?_
      repeat (go_big_quiet_step (first|(with_reducible refine DU (t1 _ (hwr.ext (Af.h _))))|(with_reducible refine DU (t2 _ (hwr.ext (Af.h _))))|(with_reducible refine DU (t3 _ (hwr.ext (Af.h _))))|(with_reducible refine DU (t4 _ (hwr.ext (Af.h _))))))
      refine wpQuiet_nil ?_;rintro _ ⟨p,rfl⟩;go_wp2;go_ret;exact⟨rfl,hE.trans p.h⟩
    ·have hrt:r=false:=(by rw [EE.out];rfl);subst hrt
     go_upto_region 8 with fail
     refine Fe (by kernel_rfl) (by kernel_rfl) ?_
     repeat (go_big_quiet_step (first|(with_reducible refine DU (t1 _ (hwr.ext (Af.h _))))|(with_reducible refine DU (t2 _ (hwr.ext (Af.h _))))|(with_reducible refine DU (t3 _ (hwr.ext (Af.h _))))|(with_reducible refine DU (t4 _ (hwr.ext (Af.h _))))))
     refine wpQuiet_nil ?_;rintro _ ⟨p,rfl⟩;go_wp2;go_ret;exact⟨rfl,hE.trans p.h⟩
def Gu(l:List Pt)(p:Pt):Int:=match l.findIdx? (Ap p)with|some j=>(j:Int)|none=>-1
theorem Afb{l:List Pt}{p:Pt}{j:Nat}(hj:j<l.length)(hno:∀q∈l.take j,Ap p q=false)(h:Ap p l[j]=true):Gu l p=(j:Int):=by
 unfold Gu
 have:l.findIdx? (Ap p)=some j:=by rw [List.findIdx?_eq_some_iff_getElem];refine⟨hj,h,fun i hi=>?_⟩;rw [Bool.not_eq_true];refine hno l[i] ?_;rw [List.mem_take_iff_getElem];exact⟨i,by omega,rfl⟩
 rw [this]
theorem Afd{l:List Pt}{p:Pt}(hno:∀q∈l,Ap p q=false):Gu l p = -1:=by
 unfold Gu
 have:l.findIdx? (Ap p)=none:=by rw [List.findIdx?_eq_none_iff];exact hno
 rw [this]
theorem Afa(l:List Pt)(p:Pt):decide (0<=Gu l p)=l.any (Ap p):=by
 unfold Gu
 cases h:l.findIdx? (Ap p)with
 | none=>
  rw [List.findIdx?_eq_none_iff]at h
  symm
  simp only [Int.reduceNeg,Int.reduceLE,decide_false,List.any_eq_false];intro x hx;rw [h x hx];simp
 | some j=>
  rw [List.findIdx?_eq_some_iff_getElem]at h;obtain⟨hj,h1,_⟩:=h;rw [decide_eq_true (by simp)]
  symm
  rw [List.any_eq_true];exact⟨_,AmD hj,h1⟩
theorem yY(l:List Pt)(p:Pt)(A:Option Addr)(c:Nat)(w:World)(hr:Ae w A (flat (Ao l)))(hc:l.length<=c)(hcm:c<=9223372036854775807) :
  Calls Tryz.prog 148 #[.slice A l.length c,Ak p] w (Az (Gu l p) w):=by
 have pe:=gW;have hb0:=AmB w (.cells #[S (R p.x),S (R p.y)] 92);have hE:=(Aa.refl w).alloc (.cells #[S (R p.x),S (R p.y)] 92);obtain⟨r,hr0⟩:=Am8 (Gu l p);rw [←hr0];have HR:=Am9 hr0;unfold Ak;clear hr0;go_enter Tryz.func148,Tryz.ntmps148
 go_upto_region 2 with fail
 generalize w.alloc (.cells #[S (R p.x),S (R p.y)] 92)=V at *;obtain⟨bp,Bv⟩:=Am8 w.heap.size;rw [←Bv]at hb0 ⊢;clear Bv
 go_loopw [8] (fun i wr=>∃j:Nat,i=.int .i64 (j:Nat)/\j<=l.length/\(∀q∈l.take j,Ap p q=false)/\Aa V wr) (fun i _=>l.length-(intOf i).toNat)
 case atStart=>exact⟨0,rfl,by omega,by simp,Aa.refl _⟩
 case round=>
  obtain⟨j,rfl,hj,Aj,Ac⟩:=hrel;have HO:=Am9 Aj;clear Aj;have hbr:=(Ac.block _ (AmA hb0)).trans hb0;have s1:=Ab (o:=0) hbr rfl;have s2:=Ab (o:=1) hbr rfl;clear hbr;by_cases hlt:j<l.length
  ·obtain⟨b,o,rfl,hg1,hg2⟩:=Cu (hr.ext (hE.trans Ac)) hlt;obtain⟨q,hq⟩:=Am8 (l[j]);rw [←hq]at hg1 hg2;have hj0:(0:Int)<=(j:Int):=(by omega);have AW:(j:Int)<(l.length:Int):=(by omega);have HQ:=Am9 hq;clear hq
   cases e0:Ap p q
   ·have HE:=Am9 e0
    go_upto_region 4 with fail
    go_quiet (fail)
    go_wp2;go_roundw
    case rel=>
     refine⟨j+1,by go_num,hlt,?_,Ac.drewN _⟩;intro x hx;rw [AmF hlt,←HQ.out]at hx
     rcases List.mem_append.1 hx with h|h
     ·exact HO.out x h
     ·simp only [AmO]at h;rw [h];exact HE.out
    case measure=>simp [intOf];omega
   ·have DZ:r=(j:Int):=(by rw [HR.out];exact Afb hlt HO.out (by rw [←HQ.out];exact e0));subst DZ
    go_upto_region 4 with fail
    go_quiet (fail)
    go_wp2;go_ret;exact⟨rfl,(hE.trans Ac).drewN _⟩
  ·have hle:(l.length:Int)<=(j:Int):=(by omega);have DZ:r = -1:=(by rw [HR.out];exact Afd (by have:=HO.out;rw [AmK (by omega)]at this;exact this));subst DZ;clear s1 s2;go_wp2;go_ret;exact⟨rfl,hE.trans Ac⟩
theorem contains_c(l:List Pt)(p:Pt)(A:Option Addr)(c:Nat)(w:World)(hr:Ae w A (flat (Ao l)))(hc:l.length<=c)(hcm:c<=9223372036854775807) :
  Calls Tryz.prog 78 #[.slice A l.length c,Ak p] w (Br (l.any (Ap p)) w):=by
 have hE:=(Aa.refl w).alloc (.cells #[S (R p.x),S (R p.y)] 92);have ix:=yY l p A c (w.alloc (.cells #[S (R p.x),S (R p.y)] 92)) (hr.ext hE) hc hcm;have ha:=Afa l p;obtain⟨r,hr0⟩:=Am8 (l.any (Ap p));rw [←hr0]at ha ⊢;generalize Gu l p=z at *;unfold Ak at ix ⊢;clear hr hr0;go_enter Tryz.func78,Tryz.ntmps78;(go_wp2_with fail);(with_reducible refine ix.mono ?_);rintro e w1 ⟨rfl,hx⟩;go_wp2;go_ret;exact⟨by rw [←ha];rfl,hE.trans hx⟩
/-! ### Edges -/
structure Av where
 f:Int
 t:Int
 l:Int
 r:Int
def YI(e:Av):Value:=.agg #[.int .i64 e.f,.int .i64 e.t,.int .i64 e.l,.int .i64 e.r]
def Bz(l:List Av):List Value:=l.flatMap (fun e=>[.int .i64 e.f,.int .i64 e.t,.int .i64 e.l,.int .i64 e.r])
theorem Abt(l:List Av):(Bz l).length=l.length*4:=by
 induction l with
 | nil=>rfl
 | cons e l ih=>unfold Bz at *;simp only [List.flatMap_cons,List.length_append,ih,List.length_cons,List.length_nil];omega
theorem oW:∀(l:List Av) (j:Nat) (h:j<l.length),(Bz l)[j*4]?=some (.int .i64 l[j].f)/\(Bz l)[j*4+1]?=some (.int .i64 l[j].t)/\(Bz l)[j*4+2]?=some (.int .i64 l[j].l)/\(Bz l)[j*4+3]?=some (.int .i64 l[j].r)
 | e::l,0,_=>⟨rfl,rfl,rfl,rfl⟩
 | e::l,j+1,h=>by
  have ih:=oW l j (by simpa using h);have e0:Bz (e::l)=.int .i64 e.f :: .int .i64 e.t :: .int .i64 e.l :: .int .i64 e.r::Bz l:=rfl;rw [e0];have e1:(j+1)*4=j*4+1+1+1+1:=(by omega);rw [e1]
  simpa using ih
theorem Tl{w:World}{A:Option Addr}{l:List Av}(hr:Ae w A (Bz l)){j:Nat}(h:j<l.length):∃b o,A=some ⟨b,o,none⟩/\w.cell? ⟨b,o+j*4,none⟩=some (.int .i64 l[j].f)/\w.cell? ⟨b,o+j*4+1,none⟩=some (.int .i64 l[j].t)/\w.cell? ⟨b,o+j*4+2,none⟩=some (.int .i64 l[j].l)/\w.cell? ⟨b,o+j*4+3,none⟩=some (.int .i64 l[j].r):=by
 have hl:=Abt l;obtain⟨b,o,e,hcs⟩:=hr.ad (by omega);obtain⟨f1,f2,f3,f4⟩:=oW l j h;have g1:=hcs (j*4) (by omega);have g2:=hcs (j*4+1) (by omega);have g3:=hcs (j*4+2) (by omega);have g4:=hcs (j*4+3) (by omega);rw [AmH (by omega),AmG]at f1 f2 f3 f4;rw [f1]at g1;rw [f2,←Nat.add_assoc]at g2;rw [f3,←Nat.add_assoc]at g3;rw [f4,←Nat.add_assoc]at g4;exact⟨b,o,e,g1,g2,g3,g4⟩
theorem AiB{P:Program}{w:World}(ts:Array TypeId)(t:TypeId)(k:IntKind)(a b:Int):(Builtin.min_ ts t #[.int k a,.int k b]).run P w=.ok (.int k (min a b)) w:=by
 have m:∀x y:Int,(if y<x then y else x)=min x y:=(by intro x y;split<;>omega);simp only [Builtin.min_,List.foldlM_cons,List.foldlM_nil,Builtin.min2];simp [m]
theorem Ai9{P:Program}{w:World}(ts:Array TypeId)(t:TypeId)(k:IntKind)(a b:Int):(Builtin.max_ ts t #[.int k a,.int k b]).run P w=.ok (.int k (max a b)) w:=by
 have m:∀x y:Int,(if y>x then y else x)=max x y:=(by intro x y;split<;>omega);simp only [Builtin.max_,List.foldlM_cons,List.foldlM_nil,Builtin.max2];simp [m]
def Fp(f e:Av):Bool:=(decide (f.f=e.f)&&decide (f.t=e.t))||(decide (f.f=e.t)&&decide (f.t=e.f))
theorem Abr(f e:Av)(b:Nat)(t:TypeId)(w:World)(hb:w.heap[b]?=some (.cells #[.int .i64 e.f,.int .i64 e.t,.int .i64 e.l,.int .i64 e.r] t)) :
  Calls Tryz.prog 151 #[YI f,.pointer (some ⟨b,0,none⟩)] w (Br (Fp f e) w):=by
 have k1:=Ab (o:=0) hb rfl;have k2:=Ab (o:=1) hb rfl;have hx:=(Aa.refl w).alloc (.cells #[.int .i64 f.f,.int .i64 f.t,.int .i64 f.l,.int .i64 f.r] 126);have j1:=hx.cellS k1;have j2:=hx.cellS k2;obtain⟨r,hr⟩:=Am8 (Fp f e);rw [←hr];have HR:=Am9 hr;have Dw:r=((f.f == e.f)&&(f.t == e.t)||(f.f == e.t)&&(f.t == e.f)):=hr;unfold YI;clear hr hb k1 k2 HR
 cases h1:(f.f == e.f)<;>cases h2:(f.t == e.t)<;>cases h3:(f.f == e.t)<;>cases h4:(f.t == e.f)
 all_goals (
  rw [h1,h2,h3,h4]at Dw;have HH:=Am9 Dw;clear Dw;go_enter Tryz.func151,Tryz.ntmps151;go_wp2;go_ret
  exact⟨by rw [HH.out];rfl,hx⟩)
def Ee(n:Nat)(z:Int):Bool:=decide (-1<=z)&&decide (z<(n:Int))
theorem kq(z:Int)(b n g:Nat)(F:Option Addr)(v0 v1:Value)(t:TypeId)(w:World)(hb:w.heap[b]?=some (.cells #[v0,v1,.slice F n g] t)) :
  Calls Tryz.prog 149 #[.int .i64 z,.pointer (some ⟨b,0,none⟩)] w (Br (Ee n z) w):=by
 have k1:=Ab (o:=2) hb rfl;obtain⟨r,hr⟩:=Am8 (Ee n z);rw [←hr];have HR:=Am9 hr;clear hr hb;by_cases h1:-1<=z
 ·have d1:decide (-1<=z)=true:=decide_eq_true h1;by_cases h2:z<(n:Int)
  ·have d2:decide (z<(n:Int))=true:=decide_eq_true h2;have HH:=Am9 (show r=true by rw [HR.out];unfold Ee;rw [d1,d2];rfl);go_enter Tryz.func149,Tryz.ntmps149;go_wp2;go_ret;exact⟨by rw [HH.out];rfl,Aa.refl _⟩
  ·have d2:decide (z<(n:Int))=false:=decide_eq_false h2;have HH:=Am9 (show r=false by rw [HR.out];unfold Ee;rw [d1,d2];rfl);clear h2;go_enter Tryz.func149,Tryz.ntmps149;go_wp2;go_ret;exact⟨by rw [HH.out];rfl,Aa.refl _⟩
 ·have d1:decide (-1<=z)=false:=decide_eq_false h1;have HH:=Am9 (show r=false by rw [HR.out];unfold Ee;rw [d1];rfl);clear h1;go_enter Tryz.func149,Tryz.ntmps149;go_wp2;go_ret;exact⟨by rw [HH.out];rfl,Aa.refl _⟩
def ww(l:List Av)(e0:Av)(w:World)(e:Ending)(w':World):Prop:=∃k:Int,e=.returned (.int .i64 k)/\(0<=k↔∃p∈l,Fp p e0=true)/\Aa w w'
theorem Afi(l:List Av)(e:Av)(bb:Nat)(t:TypeId)(A:Option Addr)(c:Nat)(w:World)(hr:Ae w A (Bz l))(hc:l.length<=c)(hcm:c<=9223372036854775807)
  (hb:w.heap[bb]?=some (.cells #[.int .i64 e.f,.int .i64 e.t,.int .i64 e.l,.int .i64 e.r] t)) :
  Calls Tryz.prog 228 #[.slice A l.length c,.func (.func 151) #[] #[.pointer (some ⟨bb,0,none⟩)]] w (ww l e w):=by
 go_enter Tryz.func228,Tryz.ntmps228;go_wp2
 go_loopw [8] (fun i wr=>∃j:Nat,i=.int .i64 (j:Nat)/\j<=l.length/\(∀p∈l.take j,Fp p e=false)/\Aa w wr) (fun i _=>l.length-(intOf i).toNat)
 case atStart=>exact⟨0,rfl,by omega,by simp,Aa.refl _⟩
 case round=>
  obtain⟨j,rfl,hj,Aj,Ac⟩:=hrel;have HO:=Am9 Aj;clear Aj;by_cases hlt:j<l.length
  ·obtain⟨b,o,rfl,hg1,hg2,hg3,hg4⟩:=Tl (hr.ext Ac) hlt;obtain⟨p,hp⟩:=Am8 (l[j]);rw [←hp]at hg1 hg2 hg3 hg4;have hmem:p∈l:=(by rw [hp];exact AmD hlt);have HX:=Am9 hp;clear hp;have hj0:(0:Int)<=(j:Int):=(by omega);have AW:(j:Int)<(l.length:Int):=(by omega);have bf:=Abr p e bb t wr ((Ac.block _ (AmA hb)).trans hb);unfold YI at bf
   cases hL:Fp p e
   ·rw [hL]at bf;have F3:=Am9 hL;clear hL;(go_wp2_with fail);(with_reducible refine bf.mono ?_);rintro e w2 ⟨rfl,hx2⟩;go_wp2;go_roundw
    case rel=>
     refine⟨j+1,by go_num,hlt,?_,Ac.trans hx2⟩;intro q hq;rw [AmF hlt,←HX.out]at hq
     rcases List.mem_append.1 hq with h|h
     ·exact HO.out q h
     ·simp only [AmO]at h;rw [h];exact F3.out
    case measure=>simp [intOf];omega
   ·rw [hL]at bf;have F3:=Am9 hL;clear hL;(go_wp2_with fail);(with_reducible refine bf.mono ?_);rintro e w2 ⟨rfl,hx2⟩;go_wp2;go_ret;exact⟨j,rfl,⟨fun _=>⟨_,hmem,F3.out⟩,fun _=>by omega⟩,Ac.trans hx2⟩
  ·have hle:(l.length:Int)<=(j:Int):=(by omega);go_wp2;go_ret;refine⟨-1,rfl,⟨fun h=>by omega,?_⟩,Ac⟩;rintro⟨p,hp,h⟩;have:=HO.out p (by rw [AmK (by omega)];exact hp);rw [this]at h;cases h
theorem AaR(l:List Av)(e:Av)(bb:Nat)(t:TypeId)(A:Option Addr)(c:Nat)(w:World)(hr:Ae w A (Bz l))(hc:l.length<=c)(hcm:c<=9223372036854775807)
  (hb:w.heap[bb]?=some (.cells #[.int .i64 e.f,.int .i64 e.t,.int .i64 e.l,.int .i64 e.r] t)) :
  Calls Tryz.prog 150 #[.slice A l.length c,.func (.func 151) #[] #[.pointer (some ⟨bb,0,none⟩)]] w (Br (l.any (Fp · e)) w):=by
 have ix:=Afi l e bb t A c w hr hc hcm hb;obtain⟨r,hr0⟩:=Am8 (l.any (Fp · e));rw [←hr0];have HR:=Am9 hr0;clear hr hb hr0;go_enter Tryz.func150,Tryz.ntmps150;(go_wp2_with fail);(with_reducible refine ix.mono ?_);rintro e w2 ⟨k,rfl,hk,hx⟩;have HK:=Am9 hk;clear hk;go_wp2;go_ret;refine⟨?_,hx⟩
 have e:decide (0<=k)=r:=by
  rw [HR.out]
  cases h:l.any (Fp · _)
  ·rw [decide_eq_false_iff_not,HK.out];rintro⟨p,hp,h2⟩;rw [List.any_eq_false]at h;exact h p hp h2
  ·rw [decide_eq_true_eq,HK.out];rw [List.any_eq_true]at h;exact h
 rw [←e];rfl
def J1(np nf:Nat)(pre:List Av)(e:Av):Int:=
 if min e.f e.t<0 then 3 else if (np:Int)<=max e.f e.t then 3 else if e.f=e.t then 17 else if pre.any (Fp · e)then 9
 else if Ee nf e.l=false then 3 else if Ee nf e.r=false then 3 else if e.l=e.r then 7 else 0
structure Ck where
 pts:List Pt
 eds:List Av
 nf:Nat
def Dk(A B F:Option Addr)(m:Ck)(c d g:Nat):Value:=.agg #[.slice A m.pts.length c,.slice B m.eds.length d,.slice F m.nf g]
structure Ka(m:Ck)(c d g:Nat):Prop where
 c1:m.pts.length<=c
 c2:c<=9223372036854775807
 d1:m.eds.length<=d
 d2:d<=9223372036854775807
 g1:m.nf<=g
 g2:g<=9223372036854775807
theorem Abv(l:List Av)(i:Nat):Bz (l.take i)=(Bz l).take (i*4):=by
 induction l generalizing i with
 | nil=>simp [Bz]
 | cons e l ih=>
  cases i with
  | zero=>simp [Bz]
  | succ i=>have e0:∀l,Bz (e::l)=.int .i64 e.f :: .int .i64 e.t :: .int .i64 e.l :: .int .i64 e.r::Bz l:=fun _=>rfl;rw [List.take_succ_cons,e0,e0,ih];have e1:(i+1)*4=i*4+1+1+1+1:=(by omega);rw [e1];simp
theorem Ae.take{w:World}{A:Option Addr}{cs:List Value}(h:Ae w A cs)(n:Nat):Ae w A (cs.take n):=
 ⟨fun h0=>by
  obtain⟨b,o,e,hc⟩:=h.ad (by rw [List.length_take]at h0;omega);refine⟨b,o,e,fun j hj=>?_⟩;rw [List.length_take]at hj
  rw [hc j (by omega),List.getElem_take]⟩
theorem Aao(m:Ck)(A B F:Option Addr)(c d g:Nat)(Cw:Ka m c d g)(i:Nat)(hi:i<m.eds.length)(w:World)(hB:Ae w B (Bz m.eds)) :
  Calls Tryz.prog 79 #[Dk A B F m c d g,.int .i64 (i:Nat)] w (Az (J1 m.pts.length m.nf (m.eds.take i) m.eds[i]) w):=by
 have Amy:=@AiB Tryz.prog;have Amx:=@Ai9 Tryz.prog;obtain⟨c1,c2,d1,d2,g1,g2⟩:=Cw;obtain⟨e,he⟩:=Am8 (m.eds[i]);obtain⟨b,o,rfl,hg1,hg2,hg3,hg4⟩:=Tl hB hi;rw [←he]at hg1 hg2 hg3 hg4 ⊢;obtain⟨r,hr⟩:=Am8 (J1 m.pts.length m.nf (m.eds.take i) e);rw [←hr]
 have hr':r=if min e.f e.t<0 then 3 else if (m.pts.length:Int)<=max e.f e.t then 3 else if e.f=e.t then 17 else if (m.eds.take i).any (Fp · e)then 9
  else if Ee m.nf e.l=false then 3 else if Ee m.nf e.r=false then 3 else if e.l=e.r then 7 else 0:=hr
 have HR:=Am9 hr';have hpl:(m.eds.take i).length=i:=by rw [List.length_take];omega
 have hid:∀bb t w',Aa w w'→w'.heap[bb]?=some (.cells #[.int .i64 e.f,.int .i64 e.t,.int .i64 e.l,.int .i64 e.r] t)→Calls Tryz.prog 150 #[.slice (some ⟨b,o,none⟩) i d,.func (.func 151) #[] #[.pointer (some ⟨bb,0,none⟩)]] w' (Br ((m.eds.take i).any (Fp · e)) w'):=by intro bb t w' hx h;have:=AaR (m.eds.take i) e bb t (some ⟨b,o,none⟩) d w' (by rw [Abv];exact(hB.ext hx).take _) (by omega) d2 h;rw [hpl]at this;exact this
 generalize (m.eds.take i).any (Fp · e)=du at *;obtain⟨np,My⟩:=Am8 m.pts.length;obtain⟨ne,hne⟩:=Am8 m.eds.length;obtain⟨nf,KR⟩:=Am8 m.nf;rw [←My]at c1 HR;rw [←hne]at d1 hi;rw [←KR]at g1 HR;unfold Dk;rw [←My,←hne,←KR];have NJ:(0:Int)<=(i:Int):=(by omega);have Sa:(i:Int)<(ne:Int):=(by omega);have hix:(i:Int)<=(d:Int):=(by omega);have hM:=AmB w (.cells #[.slice A np c,.slice (some ⟨b,o,none⟩) ne d,.slice F nf g] 36);have hx0:=(Aa.refl w).alloc (.cells #[.slice A np c,.slice (some ⟨b,o,none⟩) ne d,.slice F nf g] 36);have j1:=hx0.cellS hg1;have j2:=hx0.cellS hg2;have j3:=hx0.cellS hg3;have j4:=hx0.cellS hg4;have hx1:=hx0.alloc (.cells #[.int .i64 e.f,.int .i64 e.t,.int .i64 e.l,.int .i64 e.r] 126);have hD:=AmB (w.alloc (.cells #[.slice A np c,.slice (some ⟨b,o,none⟩) ne d,.slice F nf g] 36)) (.cells #[.int .i64 e.f,.int .i64 e.t,.int .i64 e.l,.int .i64 e.r] 126);have ES:=(((Aa.refl _).alloc (.cells #[.int .i64 e.f,.int .i64 e.t,.int .i64 e.l,.int .i64 e.r] 126)).block _ (AmA hM)).trans hM;rw [AmJ]at hD;clear he hr hr' hpl My hne KR hB hg1 hg2 hg3 hg4 hM hi;go_enter Tryz.func79,Tryz.ntmps79
 go_upto_region 2 with fail
 clear j1 j2 j3 j4;generalize (w.alloc (.cells #[.slice A np c,.slice (some ⟨b,o,none⟩) ne d,.slice F nf g] 36)).alloc (.cells #[.int .i64 e.f,.int .i64 e.t,.int .i64 e.l,.int .i64 e.r] 126)=V at *;obtain⟨bm,C4⟩:=Am8 w.heap.size;rw [←C4]at ES hD ⊢;clear C4 hx0;have m1:=Ab (o:=0) ES rfl;have m2:=Ab (o:=1) ES rfl;have m3:=Ab (o:=2) ES rfl;have e1:=Ab (o:=0) hD rfl;have e2:=Ab (o:=1) hD rfl;have e3:=Ab (o:=2) hD rfl;have e4:=Ab (o:=3) hD rfl;generalize hmn:min e.f e.t=mn at *;generalize hmx:max e.f e.t=mx at *;by_cases n1:mn<0
 ·have dd:decide (mn<0)=true:=decide_eq_true n1;have HH:=Am9 (show r=3 by rw [HR.out,if_pos n1]);clear HR hid;go_wp2;go_ret;exact⟨by rw [HH.out];rfl,hx1⟩
 have oG:decide (mn<0)=false:=decide_eq_false n1;by_cases n2:(np:Int)<=mx
 ·have dd:decide ((np:Int)<=mx)=true:=decide_eq_true n2;have HH:=Am9 (show r=3 by rw [HR.out,if_neg n1,if_pos n2]);clear HR hid n1;go_wp2;go_ret;exact⟨by rw [HH.out];rfl,hx1⟩
 have YC:decide ((np:Int)<=mx)=false:=decide_eq_false n2;by_cases n3:e.f=e.t
 ·have dd:(e.f == e.t)=true:=(by rw [beq_iff_eq];exact n3);have HH:=Am9 (show r=17 by rw [HR.out,if_neg n1,if_neg n2,if_pos n3]);clear HR hid n1 n2 n3;go_wp2;go_ret;exact⟨by rw [HH.out];rfl,hx1⟩
 have oH:(e.f == e.t)=false:=(by rw [beq_eq_false_iff_ne];exact n3);have Ng:=Am9 (show r=if du=true then 9 else if Ee nf e.l=false then 3 else if Ee nf e.r=false then 3 else if e.l=e.r then 7 else 0 by rw [HR.out,if_neg n1,if_neg n2,if_neg n3]);have ci:=hid (bm+1) _ V hx1 hD;clear HR n1 n2 n3 hid
 cases JA:du
 rotate_left
 ·have HH:=Am9 (show r=9 by rw [Ng.out,JA];rfl);rw [JA]at ci;clear Ng JA;(go_wp2_with fail);(with_reducible refine ci.mono ?_);rintro e w2 ⟨rfl,hx2⟩;go_wp2;go_ret;exact⟨by rw [HH.out];rfl,hx1.trans hx2⟩
 have TI:=Am9 (show r=if Ee nf e.l=false then 3 else if Ee nf e.r=false then 3 else if e.l=e.r then 7 else 0 by rw [Ng.out,JA];rfl);rw [JA]at ci;clear Ng JA;(go_wp2_with fail);(with_reducible refine ci.mono ?_);rintro _ w2 ⟨rfl,hx2⟩;have Ht:=(hx2.block _ (AmA ES)).trans ES;have N4:=(hx2.block _ (AmA hD)).trans hD;have s1:=kq e.l bm nf g F _ _ _ w2 Ht;replace hx2:=hx1.trans hx2;clear m1 m2 m3 e1 e2 e3 e4 ES hD hx1 ci;have e1:=Ab (o:=0) N4 rfl;have e2:=Ab (o:=1) N4 rfl;have e3:=Ab (o:=2) N4 rfl;have e4:=Ab (o:=3) N4 rfl
 cases h5:Ee nf e.l
 ·have HH:=Am9 (show r=3 by rw [TI.out,h5];rfl);rw [h5]at s1;clear TI h5;(go_wp2_with fail);(with_reducible refine s1.mono ?_);rintro _ w3 ⟨rfl,hx3⟩;go_wp2;go_ret;exact⟨by rw [HH.out];rfl,hx2.trans hx3⟩
 have Oz:=Am9 (show r=if Ee nf e.r=false then 3 else if e.l=e.r then 7 else 0 by rw [TI.out,h5];rfl);rw [h5]at s1;clear TI h5;(go_wp2_with fail);(with_reducible refine s1.mono ?_);rintro _ w3 ⟨rfl,hx3⟩;have GH:=(hx3.block _ (AmA Ht)).trans Ht;have N5:=(hx3.block _ (AmA N4)).trans N4;have s2:=kq e.r bm nf g F _ _ _ w3 GH;replace hx3:=hx2.trans hx3;clear e1 e2 e3 e4 Ht N4 hx2 s1;have e1:=Ab (o:=0) N5 rfl;have e2:=Ab (o:=1) N5 rfl;have e3:=Ab (o:=2) N5 rfl;have e4:=Ab (o:=3) N5 rfl
 cases h6:Ee nf e.r
 ·have HH:=Am9 (show r=3 by rw [Oz.out,h6];rfl);rw [h6]at s2;clear Oz h6;(go_wp2_with fail);(with_reducible refine s2.mono ?_);rintro _ w4 ⟨rfl,Ai⟩;go_wp2;go_ret;exact⟨by rw [HH.out];rfl,hx3.trans Ai⟩
 have O0:=Am9 (show r=if e.l=e.r then 7 else 0 by rw [Oz.out,h6];rfl);rw [h6]at s2;clear Oz h6;(go_wp2_with fail);(with_reducible refine s2.mono ?_);rintro _ w4 ⟨rfl,Ai⟩;have UB:=(Ai.block _ (AmA N5)).trans N5;replace Ai:=hx3.trans Ai;clear e1 e2 e3 e4 GH N5 hx3 s2;have e1:=Ab (o:=0) UB rfl;have e2:=Ab (o:=1) UB rfl;have e3:=Ab (o:=2) UB rfl;have e4:=Ab (o:=3) UB rfl;by_cases n7:e.l=e.r
 ·have dd:(e.l == e.r)=true:=(by rw [beq_iff_eq];exact n7);have HH:=Am9 (show r=7 by rw [O0.out,if_pos n7]);clear O0 n7;go_wp2;go_ret;exact⟨by rw [HH.out];rfl,Ai⟩
 ·have dd:(e.l == e.r)=false:=(by rw [beq_eq_false_iff_ne];exact n7);have HH:=Am9 (show r=0 by rw [O0.out,if_neg n7]);clear O0 n7;go_wp2;go_ret;exact⟨by rw [HH.out];rfl,Ai⟩
def CH:List Pt→List Pt→Int
 | _,[]=>0
 | pre,p::l=>if pre.any (Ap p)then 9 else CH (pre ++ [p]) l
def CU(np nf:Nat):List Av→List Av→Int
 | _,[]=>0
 | pre,e::l=>if J1 np nf pre e≠0 then J1 np nf pre e else CU np nf (pre ++ [e]) l
def EZ(l:List Pt)(z:Int):Pt:=l.getD z.toNat ⟨0,0⟩
def OK(l:List Pt)(e f:Av):Bool:=MP (EZ l e.f) (EZ l e.t) (EZ l f.f) (EZ l f.t)
def D5(pts:List Pt):List Av→List Av→Int
 | _,[]=>0
 | pre,e::l=>if pre.any (OK pts e)then 26 else D5 pts (pre ++ [e]) l
def LR(m:Ck):Bool:=decide (400<m.pts.length)||(decide (1200<m.eds.length)||decide (800<m.nf))
theorem Aav{l:List Pt}{j:Nat}(h:j<l.length):CH (l.take j) (l.drop j)=if (l.take j).any (Ap l[j])then 9 else CH (l.take (j+1)) (l.drop (j+1)):=by
 rw [List.drop_eq_getElem_cons h,AmF h];rfl
theorem Aax{np nf:Nat}{l:List Av}{j:Nat}(h:j<l.length):CU np nf (l.take j) (l.drop j)=if J1 np nf (l.take j) l[j]≠0 then J1 np nf (l.take j) l[j] else CU np nf (l.take (j+1)) (l.drop (j+1)):=by
 rw [List.drop_eq_getElem_cons h,AmF h];rfl
theorem Aaz{pts:List Pt}{l:List Av}{j:Nat}(h:j<l.length):D5 pts (l.take j) (l.drop j)=if (l.take j).any (OK pts l[j])then 26 else D5 pts (l.take (j+1)) (l.drop (j+1)):=by
 rw [List.drop_eq_getElem_cons h,AmF h];rfl
theorem Um{np nf:Nat}{pre:List Av}{e:Av}(h:J1 np nf pre e=0):0<=e.f/\0<=e.t/\e.f<(np:Int)/\e.t<(np:Int)/\e.f≠e.t/\pre.any (Fp · e)=false/\Ee nf e.l=true/\Ee nf e.r=true/\e.l≠e.r:=by
 unfold J1 at h
 split at h
 ·cases h
 split at h
 ·cases h
 split at h
 ·cases h
 split at h
 ·cases h
 split at h
 ·cases h
 split at h
 ·cases h
 split at h
 ·cases h
 rename_i h1 h2 h3 h4 h5 h6 h7
 exact⟨by omega,by omega,by omega,by omega,h3,by simpa using h4,by simpa using h5,by simpa using h6,h7⟩
theorem QP{np nf:Nat}{l:List Av} : ∀{pre rest:List Av},CU np nf pre rest=0→∀(i:Nat) (h:i<rest.length),J1 np nf (pre++rest.take i) rest[i]=0
 | pre,[],_,i,h=>by simp at h
 | pre,e::rest,hc,i,h=>by
  unfold CU at hc
  split at hc
  ·rename_i hne
   exact absurd hc hne
  ·rename_i h0
   simp only [ne_eq,Decidable.not_not]at h0
   cases i with
   | zero=>simpa using h0
   | succ i=>
    have:=QP (l:=l) hc i (by simpa using h)
    simpa using this
theorem nG{pts:List Pt} : ∀{pre rest:List Av},D5 pts pre rest=0→∀(i:Nat) (h:i<rest.length),(pre++rest.take i).any (OK pts rest[i])=false
 | pre,[],_,i,h=>by simp at h
 | pre,e::rest,hc,i,h=>by
  unfold D5 at hc
  split at hc
  ·cases hc
  ·rename_i h0
   cases i with
   | zero=>simpa using h0
   | succ i=>
    have:=nG hc i (by simpa using h)
    simpa using this
theorem nE:∀{pre rest:List Pt},CH pre rest=0→∀(i:Nat) (h:i<rest.length),(pre++rest.take i).any (Ap rest[i])=false
 | pre,[],_,i,h=>by simp at h
 | pre,e::rest,hc,i,h=>by
  unfold CH at hc
  split at hc
  ·cases hc
  ·rename_i h0
   cases i with
   | zero=>simpa using h0
   | succ i=>
    have:=nE hc i (by simpa using h)
    simpa using this
end Go.Proofs.YtjalkoacphhgdaaGreatDoor
