/- V19: S1 S2 Rg S3 S4 S5 S6 S7 M1 M2 M3 M4. -/
import Derived.Test.YtbejphgbbpplbaaGreatDoorV18
import Derived.Maps.RangeWalk
set_option maxRecDepth 100000
set_option maxHeartbeats 16000000
namespace Go.Proofs.YtbejphgbbpplbaaGreatDoor
open Go.RowKit Kl
theorem Il(a b:Pt){k:Nat}(ha:Ar k a)(hb:Ar k b)(hk:0<k)(hk2:k<=400)(w:World)(hw:An w) :
  Calls Tryz.prog 110 #[Ak a,Ak b] w (AA (AW a b) w):=by
 have c1:=Jd a.x b.x (a:=k) (b:=k) ⟨ha.x,hb.x,hk,hk,by omega⟩;have c2:=Jd a.y b.y (a:=k) (b:=k) ⟨ha.y,hb.y,hk,hk,by omega⟩;have hE:=((Aa.refl w).alloc (.cells #[S (R a.x),S (R a.y)] 94)).alloc (.cells #[S (R b.x),S (R b.y)] 94);obtain⟨x,hx0⟩:=AmT (AN a.x b.x);obtain⟨y,Bh⟩:=AmT (AN a.y b.y)
 have hr:AW a b=if x≠0 then x else y:=by rw [hx0,Bh];rfl
 rw [hr];rw [←hx0]at c1;rw [←Bh]at c2
 have hA:(w.alloc (.cells #[S (R a.x),S (R a.y)] 94)).alloc (.cells #[S (R b.x),S (R b.y)] 94) |>.heap[w.heap.size]?=some (.cells #[S (R a.x),S (R a.y)] 94):=(Below.heap_alloc _ _ _ (by simp)).trans (AmW w _)
 have hB:=AmW (w.alloc (.cells #[S (R a.x),S (R a.y)] 94)) (.cells #[S (R b.x),S (R b.y)] 94);rw [Anf]at hB;obtain⟨r,FW⟩:=AmT (if x≠0 then x else y:Int);have HRE:=AmU FW;rw [←FW];unfold Ak
 have MJ:∀(b o:Nat) (w:World),w.cell? ⟨b,o,none⟩=some (.int .i64 x)→w.cell? ⟨b,o+1,none⟩=some (.int .i64 y)→Calls Tryz.prog 98 #[.slice (some ⟨b,o,none⟩) 2 2] w (AA r w):=by intro b o w h1 h2;rw [FW];exact WE x y b o w h1 h2
 clear ha hb hr hx0 Bh FW;go_enter Tryz.func110,Tryz.ntmps110
 go_upto_region 1 with fail
 generalize (w.alloc (.cells #[S (R a.x),S (R a.y)] 94)).alloc (.cells #[S (R b.x),S (R b.y)] 94)=V at *;have hs:=hE.size;obtain⟨ba,Aq⟩:=AmT w.heap.size;rw [←Aq]at hA hB ⊢;clear Aq hs;have k1:=Ab (o:=0) hA rfl;have k2:=Ab (o:=1) hA rfl;have k3:=Ab (o:=0) hB rfl;have k4:=Ab (o:=1) hB rfl;have hV:=hw.ext hE;clear hA hB
 go_region_held3 (fun w'=>w'.cell? ⟨ba,0,none⟩=some (S (R a.x))/\w'.cell? ⟨ba,1,none⟩=some (S (R a.y))/\w'.cell? ⟨ba+1,0,none⟩=some (S (R b.x))/\w'.cell? ⟨ba+1,1,none⟩=some (S (R b.y)))
  (go_keep)
  (first|((with_reducible refine(c1 _ (hV.ext (Aa.refl V).drew)).mono ?_);rintro e w5 ⟨rfl,Ad⟩;have X5:Aa V w5:=(Aa.refl V).drew.trans Ad;have d1:=X5.cellS k1;have d2:=X5.cellS k2;have d3:=X5.cellS k3;have d4:=X5.cellS k4)|((with_reducible refine(c2 _ (hV.ext X5)).mono ?_);rintro e w6 ⟨rfl,AC⟩;have X6:Aa V w6:=X5.trans AC;have f1:=X6.cellS k1;have f2:=X6.cellS k2;have f3:=X6.cellS k3;have f4:=X6.cellS k4)|((with_reducible refine(MJ w6.heap.size 0 (w6.alloc (.cells #[.int .i64 x,.int .i64 y] 3)) (Ab (o:=0) (AmW w6 _) rfl) (Ab (o:=1) (AmW w6 _) rfl)).mono ?_);rintro e w7 ⟨rfl,AG⟩;have X7:Aa V w7:=(X6.alloc _).trans AG;have g1:=X7.cellS k1;have g2:=X7.cellS k2;have g3:=X7.cellS k3;have g4:=X7.cellS k4))
 go_wp2;go_ret;exact⟨rfl,hE.trans X7⟩
theorem jd(a b c:Pt){k:Nat}(ha:Ar k a)(hb:Ar k b)(hc:Ar k c)(hk:0<k)(hk2:k<=400)(w:World)(hw:An w) :
  Calls Tryz.prog 229 #[Ak a,Ak b,Ak c] w (Bc (R (Al a b c)) w):=by
 have s1:=GX b.x a.x (a:=k) (b:=k) ⟨hb.x,ha.x,hk,hk,by omega⟩;have s2:=GX b.y a.y (a:=k) (b:=k) ⟨hb.y,ha.y,hk,hk,by omega⟩;have s3:=GX c.x a.x (a:=k) (b:=k) ⟨hc.x,ha.x,hk,hk,by omega⟩;have s4:=GX c.y a.y (a:=k) (b:=k) ⟨hc.y,ha.y,hk,hk,by omega⟩;have m1:=Qf (b.x-a.x) (c.y-a.y) (a:=k+k+1) (b:=k+k+1) ⟨hb.x.sub ha.x,hc.y.sub ha.y,by omega,by omega,by omega⟩;have m2:=Qf (b.y-a.y) (c.x-a.x) (a:=k+k+1) (b:=k+k+1) ⟨hb.y.sub ha.y,hc.x.sub ha.x,by omega,by omega,by omega⟩;have sb:=GX ((b.x-a.x)*(c.y-a.y)) ((b.y-a.y)*(c.x-a.x)) (a:=k+k+1+(k+k+1)) (b:=k+k+1+(k+k+1)) ⟨(hb.x.sub ha.x).mul (hc.y.sub ha.y),(hb.y.sub ha.y).mul (hc.x.sub ha.x),by omega,by omega,by omega⟩;have e:Al a b c=(b.x-a.x)*(c.y-a.y)-(b.y-a.y)*(c.x-a.x):=rfl;rw [←e]at sb;obtain⟨r,hr⟩:=AmT (Al a b c);rw [←hr]at sb ⊢;unfold Ak;clear ha hb hc e hr;go_enter Tryz.func229,Tryz.ntmps229;(go_wp2_with fail);obtain⟨W,hW,hE,hb1,hb2,hb3⟩:=OF w (.cells #[S (R a.x),S (R a.y)] 94) (.cells #[S (R b.x),S (R b.y)] 94) (.cells #[S (R c.x),S (R c.y)] 94);rw [←hW];clear hW
 have SO:∀w',Aa W w'→(w'.cell? ⟨w.heap.size,0,none⟩=some (S (R a.x))/\w'.cell? ⟨w.heap.size,1,none⟩=some (S (R a.y))/\w'.cell? ⟨w.heap.size+1,0,none⟩=some (S (R b.x))/\w'.cell? ⟨w.heap.size+1,1,none⟩=some (S (R b.y))/\w'.cell? ⟨w.heap.size+1+1,0,none⟩=some (S (R c.x))/\w'.cell? ⟨w.heap.size+1+1,1,none⟩=some (S (R c.y))):=fun w' h=>⟨h.cellS (Ab hb1 rfl),h.cellS (Ab hb1 rfl),h.cellS (Ab hb2 rfl),h.cellS (Ab hb2 rfl),h.cellS (Ab hb3 rfl),h.cellS (Ab hb3 rfl)⟩
 have CB:=hw.ext hE;have X:Aa W W:=Aa.refl W;clear hb1 hb2 hb3
 go_region_held3 (fun w'=>w'.cell? ⟨w.heap.size,0,none⟩=some (S (R a.x))/\w'.cell? ⟨w.heap.size,1,none⟩=some (S (R a.y))/\w'.cell? ⟨w.heap.size+1,0,none⟩=some (S (R b.x))/\w'.cell? ⟨w.heap.size+1,1,none⟩=some (S (R b.y))/\w'.cell? ⟨w.heap.size+1+1,0,none⟩=some (S (R c.x))/\w'.cell? ⟨w.heap.size+1+1,1,none⟩=some (S (R c.y)))
  (first|with_reducible exact SO _ X|with_reducible exact SO _ X.drew)
  (first|((with_reducible refine(s1 _ (CB.ext (by first|exact X|exact X.drew))).mono ?_);rintro e w1 ⟨rfl,hx1⟩;replace X:Aa W w1:=(by first|exact X.trans hx1|exact X.drew.trans hx1))|((with_reducible refine(s2 _ (CB.ext (by first|exact X|exact X.drew))).mono ?_);rintro e w1 ⟨rfl,hx1⟩;replace X:Aa W w1:=(by first|exact X.trans hx1|exact X.drew.trans hx1))|((with_reducible refine(s3 _ (CB.ext (by first|exact X|exact X.drew))).mono ?_);rintro e w1 ⟨rfl,hx1⟩;replace X:Aa W w1:=(by first|exact X.trans hx1|exact X.drew.trans hx1))|((with_reducible refine(s4 _ (CB.ext (by first|exact X|exact X.drew))).mono ?_);rintro e w1 ⟨rfl,hx1⟩;replace X:Aa W w1:=(by first|exact X.trans hx1|exact X.drew.trans hx1))|((with_reducible refine(m1 _ (CB.ext (by first|exact X|exact X.drew))).mono ?_);rintro e w1 ⟨rfl,hx1⟩;replace X:Aa W w1:=(by first|exact X.trans hx1|exact X.drew.trans hx1))|((with_reducible refine(m2 _ (CB.ext (by first|exact X|exact X.drew))).mono ?_);rintro e w1 ⟨rfl,hx1⟩;replace X:Aa W w1:=(by first|exact X.trans hx1|exact X.drew.trans hx1))|((with_reducible refine(sb _ (CB.ext (by first|exact X|exact X.drew))).mono ?_);rintro e w1 ⟨rfl,hx1⟩;replace X:Aa W w1:=(by first|exact X.trans hx1|exact X.drew.trans hx1)))
 go_wp2;go_ret;exact⟨rfl,hE.trans X⟩
theorem Ln(a b c:Pt){k:Nat}(ha:Ar k a)(hb:Ar k b)(hc:Ar k c)(hk:0<k)(hk2:k<=400)(w:World)(hw:An w) :
  Calls Tryz.prog 152 #[Ak a,Ak b,Ak c] w (AA (AD (Al a b c)) w):=by
 have ar:=jd a b c ha hb hc hk hk2;have sg:=Qg (Al a b c);have hE:=(((Aa.refl w).alloc (.cells #[S (R a.x),S (R a.y)] 94)).alloc (.cells #[S (R b.x),S (R b.y)] 94)).alloc (.cells #[S (R c.x),S (R c.y)] 94);unfold Ak at ar ⊢;clear ha hb hc;go_enter Tryz.func152,Tryz.ntmps152;(go_wp2_with fail);(with_reducible refine(ar _ (hw.ext hE)).mono ?_);rintro e w1 ⟨rfl,hx⟩;(go_wp2_with fail);(with_reducible refine(sg _).mono ?_);rintro e w2 ⟨rfl,hx2⟩;go_wp2;go_ret;exact⟨rfl,hE.trans (hx.trans hx2)⟩
def IY(y x:Int):Int:=if 0<y then 0 else if y=0 then (if 0<x then 0 else 1)else 1
def BI(p q:Pt):Int:=IY (AN q.y p.y) (AN q.x p.x)
theorem Ags{y x:Int}(h:0<y):IY y x=0:=if_pos h
theorem Agt{y x:Int}(h:y=0)(hx:0<x):IY y x=0:=by unfold IY;rw [if_neg (by omega),if_pos h,if_pos hx]
theorem Agu{y x:Int}(h:y=0)(hx:¬0<x):IY y x=1:=by unfold IY;rw [if_neg (by omega),if_pos h,if_neg hx]
theorem Agv{y x:Int}(h:y<0):IY y x=1:=by unfold IY;rw [if_neg (by omega),if_neg (by omega)]
theorem jn(p q:Pt){k:Nat}(hp:Ar k p)(hq:Ar k q)(hk:0<k)(hk2:k<=400)(w:World)(hw:An w) :
  Calls Tryz.prog 231 #[Ak p,Ak q] w (AA (BI p q) w):=by
 have c1:=Jd q.y p.y (a:=k) (b:=k) ⟨hq.y,hp.y,hk,hk,by omega⟩;have c2:=Jd q.x p.x (a:=k) (b:=k) ⟨hq.x,hp.x,hk,hk,by omega⟩;unfold BI;generalize AN q.y p.y=y at *;generalize AN q.x p.x=x at *;have hb1:=(Below.heap_alloc (w.alloc (.cells #[S (R p.x),S (R p.y)] 94)) (.cells #[S (R q.x),S (R q.y)] 94) w.heap.size (by simp)).trans (AmW w (.cells #[S (R p.x),S (R p.y)] 94));have hb2:=AmW (w.alloc (.cells #[S (R p.x),S (R p.y)] 94)) (.cells #[S (R q.x),S (R q.y)] 94);rw [Anf]at hb2;have hE:=((Aa.refl w).alloc (.cells #[S (R p.x),S (R p.y)] 94)).alloc (.cells #[S (R q.x),S (R q.y)] 94);unfold Ak;clear hp hq;obtain⟨r,hr⟩:=AmT (IY y x);rw [←hr];have HR:=AmU hr;clear hr;go_enter Tryz.func231,Tryz.ntmps231
 go_upto_region 1 with fail
 generalize (w.alloc (.cells #[S (R p.x),S (R p.y)] 94)).alloc (.cells #[S (R q.x),S (R q.y)] 94)=V at *;obtain⟨ba,Aq⟩:=AmT w.heap.size;rw [←Aq]at hb1 hb2 ⊢;clear Aq;have k1:=Ab (o:=0) hb1 rfl;have k2:=Ab (o:=1) hb1 rfl;have k3:=Ab (o:=0) hb2 rfl;have k4:=Ab (o:=1) hb2 rfl;clear hb1 hb2;(go_wp2_with fail);(with_reducible refine(c1 _ (hw.ext hE)).mono ?_);rintro e w1 ⟨rfl,hx1⟩;have j1:=hx1.cellS k1;have j2:=hx1.cellS k2;have j3:=hx1.cellS k3;have j4:=hx1.cellS k4;replace hE:=hE.trans hx1;clear k1 k2 k3 k4 hx1;by_cases y1:0<y
 ·have e0:r=0:=(by rw [HR.out,Ags y1]);subst e0;have d1:decide (0<y)=true:=decide_eq_true y1;clear c2 c1;go_wp2;go_ret;exact⟨rfl,hE⟩
 ·by_cases y0:y=0
  ·subst y0;by_cases x1:0<x
   ·have e0:r=0:=(by rw [HR.out,Agt rfl x1]);subst e0;have d1:decide (0<x)=true:=decide_eq_true x1;clear c1 y1;(go_wp2_with fail);(with_reducible refine(c2 _ (hw.ext hE)).mono ?_);rintro e w2 ⟨rfl,hx2⟩;go_wp2;go_ret;exact⟨rfl,hE.trans hx2⟩
   ·have e0:r=1:=(by rw [HR.out,Agu rfl x1]);subst e0;have d1:decide (0<x)=false:=decide_eq_false x1;have x2:x<=0:=(by omega);clear c1 y1 x1;(go_wp2_with fail);(with_reducible refine(c2 _ (hw.ext hE)).mono ?_);rintro e w2 ⟨rfl,hx2⟩;go_wp2;go_ret;exact⟨rfl,hE.trans hx2⟩
  ·have e0:r=1:=(by rw [HR.out,Agv (by omega)]);subst e0;have d1:decide (0<y)=false:=decide_eq_false y1;have d2:decide (y=0)=false:=decide_eq_false y0;have d3:(y == 0)=false:=(by rw [beq_eq_false_iff_ne];exact y0);have y2:y<0:=(by omega);clear c2 c1 y1;go_wp2;go_ret;exact⟨rfl,hE⟩
def JP(u v t:Int):Bool:=decide (u<=0)&&(decide (v<=0)&&decide (t=0))
def MI(a b p:Pt):Bool:=JP (AW a p) (AW p b) (AD (Al a b p))
def G4(a b p:Pt):Bool:=if 0<AW a b then MI b a p else MI a b p
theorem Aic(a b p:Pt){k:Nat}(ha:Ar k a)(hb:Ar k b)(hp:Ar k p)(hk:0<k)(hk2:k<=400)(hz:¬0<AW a b)(w:World)(hw:An w) :
  Calls Tryz.prog 151 #[Ak a,Ak b,Ak p] w (BC (MI a b p) w):=by
 have c0:=Il a b ha hb hk hk2;have c1:=Il a p ha hp hk hk2;have c2:=Il p b hp hb hk hk2;have c3:=Ln a b p ha hb hp hk hk2;unfold MI;generalize AW a b=z at *;generalize AW a p=u at *;generalize AW p b=v at *;generalize AD (Al a b p)=t at *;obtain⟨W,hW,hE,hb1,hb2,hb3⟩:=OF w (.cells #[S (R a.x),S (R a.y)] 94) (.cells #[S (R b.x),S (R b.y)] 94) (.cells #[S (R p.x),S (R p.y)] 94);obtain⟨r,hr⟩:=AmT (JP u v t);rw [←hr];have HR:=AmU hr;unfold Ak at c0 c1 c2 c3 ⊢;clear ha hb hp hr;go_enter Tryz.func151,Tryz.ntmps151
 go_upto_region 1 with fail
 rw [←hW];clear hW;obtain⟨ba,Aq⟩:=AmT w.heap.size;have hle:w.heap.size<=ba:=(by omega);rw [←Aq]at hb1 hb2 hb3 ⊢;clear Aq;have k1:=Ab (o:=0) hb1 rfl;have k2:=Ab (o:=1) hb1 rfl;have k3:=Ab (o:=0) hb2 rfl;have k4:=Ab (o:=1) hb2 rfl;(go_wp2_with fail);(with_reducible refine(c0 _ (hw.ext hE)).mono ?_);rintro e w1 ⟨rfl,hx1⟩;replace hb1:=(hx1.block _ (AmV hb1)).trans hb1;replace hb2:=(hx1.block _ (AmV hb2)).trans hb2;replace hb3:=(hx1.block _ (AmV hb3)).trans hb3;replace hE:=hE.trans hx1;clear k1 k2 k3 k4 hx1 c0;have dz:decide (0<z)=false:=decide_eq_false (by omega);have hz':z<=0:=(by omega);clear hz
 go_upto_region 3 with fail
 have Di:=hE;have n1:=hb1;have n2:=hb2;have n3:=hb3;obtain⟨V,hV⟩:=AmT w1;rw [←hV]at Di n1 n2 n3 ⊢;clear hV hb1 hb2 hb3 hE dz;have k1:=Ab (o:=0) n1 rfl;have k2:=Ab (o:=1) n1 rfl;have k3:=Ab (o:=0) n2 rfl;have k4:=Ab (o:=1) n2 rfl;have k5:=Ab (o:=0) n3 rfl;have k6:=Ab (o:=1) n3 rfl;clear n1 n2 n3;(go_wp2_with fail);(with_reducible refine(c1 _ (hw.ext Di)).mono ?_);rintro e w2 ⟨rfl,hx2⟩;have j1:=hx2.cellS k1;have j2:=hx2.cellS k2;have j3:=hx2.cellS k3;have j4:=hx2.cellS k4;have j5:=hx2.cellS k5;have j6:=hx2.cellS k6;replace Di:=Di.trans hx2;clear k1 k2 k3 k4 k5 k6 hx2 c1;by_cases hu:u<=0
 ·have du:decide (u<=0)=true:=decide_eq_true hu;(go_wp2_with fail);(with_reducible refine(c2 _ (hw.ext Di)).mono ?_);rintro e w3 ⟨rfl,hx3⟩;have i1:=hx3.cellS j1;have i2:=hx3.cellS j2;have i3:=hx3.cellS j3;have i4:=hx3.cellS j4;have i5:=hx3.cellS j5;have i6:=hx3.cellS j6;replace Di:=Di.trans hx3;clear j1 j2 j3 j4 j5 j6 hx3 c2;by_cases hv:v<=0
  ·have dv:decide (v<=0)=true:=decide_eq_true hv;have hrt:r=decide (t=0):=(by rw [HR.out];unfold JP;rw [du,dv];rfl);have XG:=AmU hrt;clear hrt;(go_wp2_with fail);(with_reducible refine(c3 _ (hw.ext Di)).mono ?_);rintro e w4 ⟨rfl,Ai⟩;go_wp2;go_ret;exact⟨by rw [XG.out];rfl,Di.trans Ai⟩
  ·have dv:decide (v<=0)=false:=decide_eq_false hv;have hrt:r=false:=(by rw [HR.out];unfold JP;rw [du,dv];rfl);subst hrt;have hv':0<v:=(by omega);clear hv c3;go_wp2;go_ret;exact⟨rfl,Di⟩
 ·have du:decide (u<=0)=false:=decide_eq_false hu;have hrt:r=false:=(by rw [HR.out];unfold JP;rw [du];rfl);subst hrt;have VR:0<u:=(by omega);clear hu c2 c3;go_wp2;go_ret;exact⟨rfl,Di⟩
theorem Aib(a b p:Pt){k:Nat}(ha:Ar k a)(hb:Ar k b)(hp:Ar k p)(hk:0<k)(hk2:k<=400)(hz:0<AW a b)(w:World)(hw:An w) :
  Calls Tryz.prog 151 #[Ak a,Ak b,Ak p] w (BC (MI b a p) w):=by
 have c0:=Il a b ha hb hk hk2;have c1:=Il b p hb hp hk hk2;have c2:=Il p a hp ha hk hk2;have c3:=Ln b a p hb ha hp hk hk2;unfold MI;generalize AW a b=z at *;generalize AW b p=u at *;generalize AW p a=v at *;generalize AD (Al b a p)=t at *;obtain⟨W,hW,hE,hb1,hb2,hb3⟩:=OF w (.cells #[S (R a.x),S (R a.y)] 94) (.cells #[S (R b.x),S (R b.y)] 94) (.cells #[S (R p.x),S (R p.y)] 94);obtain⟨r,hr⟩:=AmT (JP u v t);rw [←hr];have HR:=AmU hr;unfold Ak at c0 c1 c2 c3 ⊢;clear ha hb hp hr;go_enter Tryz.func151,Tryz.ntmps151
 go_upto_region 1 with fail
 rw [←hW];clear hW;obtain⟨ba,Aq⟩:=AmT w.heap.size;have hle:w.heap.size<=ba:=(by omega);rw [←Aq]at hb1 hb2 hb3 ⊢;clear Aq;have k1:=Ab (o:=0) hb1 rfl;have k2:=Ab (o:=1) hb1 rfl;have k3:=Ab (o:=0) hb2 rfl;have k4:=Ab (o:=1) hb2 rfl;(go_wp2_with fail);(with_reducible refine(c0 _ (hw.ext hE)).mono ?_);rintro e w1 ⟨rfl,hx1⟩;replace hb1:=(hx1.block _ (AmV hb1)).trans hb1;replace hb2:=(hx1.block _ (AmV hb2)).trans hb2;replace hb3:=(hx1.block _ (AmV hb3)).trans hb3;replace hE:=hE.trans hx1;clear k1 k2 k3 k4 hx1 c0;have dz:decide (0<z)=true:=decide_eq_true hz;have k1:=Ab (o:=0) hb1 rfl;have k2:=Ab (o:=1) hb1 rfl;have k3:=Ab (o:=0) hb2 rfl;have k4:=Ab (o:=1) hb2 rfl;have f1:=AU (o:=0) hb1;have f2:=AU (o:=1) hb1;have f3:=AU (o:=0) hb2;have f4:=AU (o:=1) hb2
 go_upto_region 3 with fail
 obtain⟨V,hV⟩:=AmT ((((w1.setCell ⟨ba,0,none⟩ (S (R b.x))).setCell ⟨ba,1,none⟩ (S (R b.y))).setCell ⟨ba+1,0,none⟩ (S (R a.x))).setCell ⟨ba+1,1,none⟩ (S (R a.y)));rw [←hV]
 have Di:Aa w V:=by rw [hV];exact(((hE.setCell (p:=⟨ba,0,none⟩) hle _).setCell (p:=⟨ba,1,none⟩) hle _).setCell (p:=⟨ba+1,0,none⟩) (Nat.le_succ_of_le hle) _).setCell (p:=⟨ba+1,1,none⟩) (Nat.le_succ_of_le hle) _
 have n1:V.heap[ba]?=some (.cells #[S (R b.x),S (R b.y)] 94):=by rw [hV,Below.heap_setCell _ _ _ _ (show ba≠ba+1 by omega),Below.heap_setCell _ _ _ _ (show ba≠ba+1 by omega)];exact nC _ _ hb1
 have n2:V.heap[ba+1]?=some (.cells #[S (R a.x),S (R a.y)] 94):=by rw [hV];exact nC _ _ (by rw [Below.heap_setCell _ _ _ _ (show ba+1≠ba by omega),Below.heap_setCell _ _ _ _ (show ba+1≠ba by omega)];exact hb2)
 have n3:V.heap[ba+1+1]?=some (.cells #[S (R p.x),S (R p.y)] 94):=by rw [hV,Below.heap_setCell _ _ _ _ (show ba+1+1≠ba+1 by omega),Below.heap_setCell _ _ _ _ (show ba+1+1≠ba+1 by omega),Below.heap_setCell _ _ _ _ (show ba+1+1≠ba by omega),Below.heap_setCell _ _ _ _ (show ba+1+1≠ba by omega)];exact hb3
 clear hV k1 k2 k3 k4 f1 f2 f3 f4 hb1 hb2 hb3 hE dz;have k1:=Ab (o:=0) n1 rfl;have k2:=Ab (o:=1) n1 rfl;have k3:=Ab (o:=0) n2 rfl;have k4:=Ab (o:=1) n2 rfl;have k5:=Ab (o:=0) n3 rfl;have k6:=Ab (o:=1) n3 rfl;clear n1 n2 n3;(go_wp2_with fail);(with_reducible refine(c1 _ (hw.ext Di)).mono ?_);rintro e w2 ⟨rfl,hx2⟩;have j1:=hx2.cellS k1;have j2:=hx2.cellS k2;have j3:=hx2.cellS k3;have j4:=hx2.cellS k4;have j5:=hx2.cellS k5;have j6:=hx2.cellS k6;replace Di:=Di.trans hx2;clear k1 k2 k3 k4 k5 k6 hx2 c1;by_cases hu:u<=0
 ·have du:decide (u<=0)=true:=decide_eq_true hu;(go_wp2_with fail);(with_reducible refine(c2 _ (hw.ext Di)).mono ?_);rintro e w3 ⟨rfl,hx3⟩;have i1:=hx3.cellS j1;have i2:=hx3.cellS j2;have i3:=hx3.cellS j3;have i4:=hx3.cellS j4;have i5:=hx3.cellS j5;have i6:=hx3.cellS j6;replace Di:=Di.trans hx3;clear j1 j2 j3 j4 j5 j6 hx3 c2;by_cases hv:v<=0
  ·have dv:decide (v<=0)=true:=decide_eq_true hv;have hrt:r=decide (t=0):=(by rw [HR.out];unfold JP;rw [du,dv];rfl);have XG:=AmU hrt;clear hrt;(go_wp2_with fail);(with_reducible refine(c3 _ (hw.ext Di)).mono ?_);rintro e w4 ⟨rfl,Ai⟩;go_wp2;go_ret;exact⟨by rw [XG.out];rfl,Di.trans Ai⟩
  ·have dv:decide (v<=0)=false:=decide_eq_false hv;have hrt:r=false:=(by rw [HR.out];unfold JP;rw [du,dv];rfl);subst hrt;have hv':0<v:=(by omega);clear hv c3;go_wp2;go_ret;exact⟨rfl,Di⟩
 ·have du:decide (u<=0)=false:=decide_eq_false hu;have hrt:r=false:=(by rw [HR.out];unfold JP;rw [du];rfl);subst hrt;have VR:0<u:=(by omega);clear hu c2 c3;go_wp2;go_ret;exact⟨rfl,Di⟩
theorem jp(a b p:Pt){k:Nat}(ha:Ar k a)(hb:Ar k b)(hp:Ar k p)(hk:0<k)(hk2:k<=400)(w:World)(hw:An w) :
  Calls Tryz.prog 151 #[Ak a,Ak b,Ak p] w (BC (G4 a b p) w):=by
 unfold G4
 split
 ·exact Aib a b p ha hb hp hk hk2 (by assumption) w hw
 ·exact Aic a b p ha hb hp hk hk2 (by assumption) w hw
structure Af(W:World) where
 w:World
 h:Aa W w
instance (W:World):Inhabited (Af W):=⟨⟨W,Aa.refl W⟩⟩
theorem Af.cell{W:World}{a:Addr}{v:Value}(h:W.cell? a=some v)(p:Af W):p.w.cell? a=some v:=p.h.cellS h
theorem F3{P:Program}{id:Nat}{Q:Exit→Act→World→Prop}{a:Act}{W:World}{l:List Oper}(hm:P.follows .mixedOrders=true)(hB:Region.lexB .any l.toArray=true)
  (h:wpQuiet P l.toArray (fun w'=>∃p:Af W,w'=p.w) (fun a'=>∀w',(∃p:Af W,w'=p.w)→Q .normal a' w') l a):(Code.region id l.toArray true).wp P Q a W:=
 wp_region_quiet (C:=fun w'=>∃p:Af W,w'=p.w) hm hB ⟨⟨W.drew,(Aa.refl W).drew⟩,rfl⟩ (by simpa using h)
section
variable {P : Program} {f : FuncId} {args : Array Value} {W : World} {p : Af W}
theorem El{n:Int}(h:Calls P f args p.w (AA n p.w)):Calls P f args p.w fun e w''=>e=.returned (.int .i64 n)/\∃q:Af W,w''=q.w:=
 h.mono fun _ w1 ⟨he,hx⟩=>⟨he,⟨w1,p.h.trans hx⟩,rfl⟩
theorem qN{l:Bs}(h:Calls P f args p.w (Bc l p.w)):Calls P f args p.w fun e w''=>e=.returned (S l)/\∃q:Af W,w''=q.w:=
 h.mono fun _ w1 ⟨he,hx⟩=>⟨he,⟨w1,p.h.trans hx⟩,rfl⟩
theorem qM{b:Bool}(h:Calls P f args p.w (BC b p.w)):Calls P f args p.w fun e w''=>e=.returned (.bool b)/\∃q:Af W,w''=q.w:=
 h.mono fun _ w1 ⟨he,hx⟩=>⟨he,⟨w1,p.h.trans hx⟩,rfl⟩
end
def Ap(p q:Pt):Bool:=decide (p.x=q.x)&&decide (p.y=q.y)
theorem Cx{p q:Pt} : Ap p q=true↔p=q:=by
 unfold Ap;rw [Bool.and_eq_true,decide_eq_true_eq,decide_eq_true_eq];constructor
 ·rintro⟨h1,h2⟩
  cases p;cases q;simp_all
 ·rintro rfl;exact⟨rfl,rfl⟩
theorem Jy(p q:Rat):(R p == R q)=decide (p=q):=by
 by_cases h:p=q
 ·subst h;simp
 ·rw [decide_eq_false h,beq_eq_false_iff_ne];exact fun e=>h (Nj e)
theorem iO(p q:Pt)(W:World):(binOp .eql 94 (.agg #[S (R p.x),S (R p.y)]) (.agg #[S (R q.x),S (R q.y)])).run Tryz.prog W=.ok (.bool (Ap p q)) W:=by
 unfold Ap;rw [←Jy,←Jy]
 cases b1:(R p.x == R q.x)<;>cases b2:(R p.y == R q.y)<;>simp [go_sem,b1,b2]
theorem lh(p q:Pt)(W:World):(binOp .neq 94 (.agg #[S (R p.x),S (R p.y)]) (.agg #[S (R q.x),S (R q.y)])).run Tryz.prog W=.ok (.bool (!Ap p q)) W:=by
 unfold Ap;rw [←Jy,←Jy]
 cases b1:(R p.x == R q.x)<;>cases b2:(R p.y == R q.y)<;>simp [go_sem,b1,b2]
theorem Ql(q:Rat):-1<=AD q/\AD q<=1:=by unfold AD;split<;>(try split)<;>omega
def Kt(x y z:Pt):Bool:=G4 x y z&&(!Ap z x && !Ap z y)
def WX(a b c d:Pt):Bool:=Ap a c||(Ap a d||(Ap b c||Ap b d))
def JX(a b c:Pt):Int:=AD (Al a b c)
def Qa(a b c d:Pt):Bool:=decide (JX a b c*JX a b d<0)&&decide (JX c d a*JX c d b<0)
def Is(a b c d:Pt):List (Pt×Pt×Pt):=[(c,d,a),(c,d,b),(a,b,c),(a,b,d)]
def ML(a b c d:Pt):Bool:=(Is a b c d).any (fun t=>Kt t.1 t.2.1 t.2.2)||(!WX a b c d&&Qa a b c d)
def Qn(a b c d:Pt):Array Value:=#[S (R c.x),S (R c.y),S (R d.x),S (R d.y),S (R a.x),S (R a.y),S (R c.x),S (R c.y),S (R d.x),S (R d.y),S (R b.x),S (R b.y),S (R a.x),S (R a.y),S (R b.x),S (R b.y),S (R c.x),S (R c.y),S (R a.x),S (R a.y),S (R b.x),S (R b.y),S (R d.x),S (R d.y)]
theorem Aki(a b c d:Pt){k:Nat}(ha:Ar k a)(hb:Ar k b)(hc:Ar k c)(hd:Ar k d){j:Nat}(hj:j<4) :
  ∃x y z:Pt,(∀W,(Instr.index 205 (.agg (Qn a b c d)) (.int .i64 (j:Nat))).run Tryz.prog W=.ok (.agg #[S (R x.x),S (R x.y),S (R y.x),S (R y.y),S (R z.x),S (R z.y)]) W)/\(Is a b c d)[j]?=some (x,y,z)/\Ar k x/\Ar k y/\Ar k z:=by
 obtain rfl|rfl|rfl|rfl:j=0∨j=1∨j=2∨j=3:=by omega
 ·exact⟨c,d,a,fun W=>by unfold Qn;kernel_rfl,rfl,hc,hd,ha⟩
 ·exact⟨c,d,b,fun W=>by unfold Qn;kernel_rfl,rfl,hc,hd,hb⟩
 ·exact⟨a,b,c,fun W=>by unfold Qn;kernel_rfl,rfl,ha,hb,hc⟩
 ·exact⟨a,b,d,fun W=>by unfold Qn;kernel_rfl,rfl,ha,hb,hd⟩
theorem Aa2(w:World)(o1 o2 o3 o4:Obj):∃W,W=(((w.alloc o1).alloc o2).alloc o3).alloc o4/\Aa w W/\W.heap[w.heap.size]?=some o1/\W.heap[w.heap.size+1]?=some o2/\W.heap[w.heap.size+1+1]?=some o3/\W.heap[w.heap.size+1+1+1]?=some o4:=by
 obtain⟨V,hV,hE,h1,h2,h3⟩:=OF w o1 o2 o3;have hs:V.heap.size=w.heap.size+1+1+1:=(by rw [hV];simp);have h4:=AmW V o4;have hx:=(Aa.refl V).alloc o4;rw [hs]at h4;exact⟨V.alloc o4,by rw [hV],hE.alloc o4,(hx.block _ (AmV h1)).trans h1,(hx.block _ (AmV h2)).trans h2,(hx.block _ (AmV h3)).trans h3,h4⟩
theorem AhQ(a b c d:Pt){k:Nat}(ha:Ar k a)(hb:Ar k b)(hc:Ar k c)(hd:Ar k d)(hk:0<k)(hk2:k<=400)(w:World)(hw:An w) :
  Calls Tryz.prog 80 #[Ak a,Ak b,Ak c,Ak d] w (BC (ML a b c d) w):=by
 have t1:=Ln a b c ha hb hc hk hk2;have t2:=Ln a b d ha hb hd hk hk2;have t3:=Ln c d a hc hd ha hk hk2;have t4:=Ln c d b hc hd hb hk hk2;have VP:=@Aki a b c d k ha hb hc hd;unfold Qn at VP;have r1:=Ql (Al a b c);have r2:=Ql (Al a b d);have r3:=Ql (Al c d a);have r4:=Ql (Al c d b);obtain⟨r,hr⟩:=AmT (ML a b c d);rw [←hr];have HR:=AmU hr;have HP:=AmU (show Qa a b c d=(decide (JX a b c*JX a b d<0)&&decide (JX c d a*JX c d b<0))from rfl);have Ke:=AmU (show WX a b c d=(Ap a c||(Ap a d||(Ap b c||Ap b d)))from rfl);have pe:=iO;have pn:=lh;unfold Ak at t1 t2 t3 t4 ⊢;obtain⟨W,hW,hE,hb1,hb2,hb3,hb4⟩:=Aa2 w (.cells #[S (R a.x),S (R a.y)] 94) (.cells #[S (R b.x),S (R b.y)] 94) (.cells #[S (R c.x),S (R c.y)] 94) (.cells #[S (R d.x),S (R d.y)] 94);clear hr ha hb hc hd;go_enter Tryz.func80,Tryz.ntmps80
 go_upto_region 1 with fail
 rw [←hW];clear hW;obtain⟨ba,Aq⟩:=AmT w.heap.size;rw [←Aq]at hb1 hb2 hb3 hb4 ⊢;clear Aq;have k1:=Ab (o:=0) hb1 rfl;have k2:=Ab (o:=1) hb1 rfl;have k3:=Ab (o:=0) hb2 rfl;have k4:=Ab (o:=1) hb2 rfl;have k5:=Ab (o:=0) hb3 rfl;have k6:=Ab (o:=1) hb3 rfl;have k7:=Ab (o:=0) hb4 rfl;have k8:=Ab (o:=1) hb4 rfl
 go_cut [9] (fun v9 wx=>∃sh,v9=.bool sh/\sh=WX a b c d/\wx=W)
 case first=>
  cases e1:Ap a c
  ·cases e2:Ap a d
   ·cases e3:Ap b c
    ·cases e4:Ap b d
     ·go_wp2;go_meet;exact⟨_,rfl,by rw [Ke.out,e1,e2,e3,e4];rfl,rfl⟩
     ·go_wp2;go_meet;exact⟨_,rfl,by rw [Ke.out,e1,e2,e3,e4];rfl,rfl⟩
    ·go_wp2;go_meet;exact⟨_,rfl,by rw [Ke.out,e1,e2,e3];rfl,rfl⟩
   ·go_wp2;go_meet;exact⟨_,rfl,by rw [Ke.out,e1,e2];rfl,rfl⟩
  ·go_wp2;go_meet;exact⟨_,rfl,by rw [Ke.out,e1];rfl,rfl⟩
 case rest=>
  obtain⟨sh,rfl,Ie,rfl⟩:=hcut;have Jo:=AmU Ie;clear Ie Ke;have CB:=hw.ext hE
  go_upto_region 3 with fail
  go_loopw [47] (fun i wr=>∃j:Nat,i=.int .i64 (j:Nat)/\j<=4/\(∀t∈(Is a b c d).take j,Kt t.1 t.2.1 t.2.2=false)/\Aa wc wr) (fun i _=>4-(intOf i).toNat)
  case atStart=>exact⟨0,rfl,by omega,by simp,Aa.refl _⟩
  case round=>
   obtain⟨j,rfl,hj,Aj,Ac⟩:=hrel;have HO:=AmU Aj;clear Aj;by_cases hlt:j<4
   ·obtain⟨x,y,z,hix,Ea,zx,zy,zz⟩:=VP hlt;have fR:=jp x y z zx zy zz hk hk2;have HX:=AmU (show Kt x y z=(G4 x y z&&(!Ap z x && !Ap z y))from rfl);have HG:=AmU Ea;have hj0:(j:Int)<4:=(by omega);unfold Ak at fR;clear Ea VP zx zy zz t1 t2 t3 t4 r1 r2 r3 r4 k1 k2 k3 k4 k5 k6 k7 k8 hb1 hb2 hb3 hb4
    go_upto_region 5 with fail
    have CJ:=AmW wr (.cells #[S (R x.x),S (R x.y),S (R y.x),S (R y.y),S (R z.x),S (R z.y)] 204);have Az:=Ac.alloc (.cells #[S (R x.x),S (R x.y),S (R y.x),S (R y.y),S (R z.x),S (R z.y)] 204);generalize wr.alloc (.cells #[S (R x.x),S (R x.y),S (R y.x),S (R y.y),S (R z.x),S (R z.y)] 204)=V at *;obtain⟨bv,uV⟩:=AmT wr.heap.size;rw [←uV]at CJ ⊢;clear uV;have s1:=Ab (o:=0) CJ rfl;have s2:=Ab (o:=1) CJ rfl;have s3:=Ab (o:=2) CJ rfl;have s4:=Ab (o:=3) CJ rfl;have s5:=Ab (o:=4) CJ rfl;have s6:=Ab (o:=5) CJ rfl;(go_wp2_with fail);(with_reducible refine(fR _ (CB.ext Az)).mono ?_);rintro e w1 ⟨rfl,hx1⟩;have Es:=(hx1.block _ (AmV CJ)).trans CJ;have hxb:=Az.trans hx1;have q1:=Ab (o:=0) Es rfl;have q2:=Ab (o:=1) Es rfl;have q3:=Ab (o:=2) Es rfl;have q4:=Ab (o:=3) Es rfl;have q5:=Ab (o:=4) Es rfl;have q6:=Ab (o:=5) Es rfl;clear s1 s2 s3 s4 s5 s6 CJ hx1 Az fR Es
    have hgo:Kt x y z=false→∀t∈(Is a b c d).take (j+1),Kt t.1 t.2.1 t.2.2=false:=by
     intro h0 t ht;have hl:j<(Is a b c d).length:=hlt;rw [Ana hl]at ht
     rcases List.mem_append.1 ht with h|h
     ·exact HO.out t h
     ·have e0:(Is a b c d)[j]=(x,y,z):=Option.some.inj ((Anc hl).symm.trans HG.out);rw [e0,Ank]at h;rw [h];exact h0
    have hst:Kt x y z=true→r=true:=by
     intro h0;rw [HR.out];unfold ML;rw [Bool.or_eq_true]
     left
     rw [List.any_eq_true];exact⟨(x,y,z),List.mem_of_getElem? HG.out,h0⟩
    have Xt:=AmU hgo;have HST:=AmU hst;clear hgo hst
    cases e0:G4 x y z
    ·have HE:=AmU e0;clear e0;go_wp2;go_roundw
     case rel=>exact⟨j+1,by go_num,by omega,Xt.out (by rw [HX.out,HE.out];rfl),hxb⟩
     case measure=>simp [intOf];omega
    ·cases e1:Ap z x
     ·cases e2:Ap z y
      ·have HE:=AmU (And.intro e0 (And.intro e1 e2));have hrt:r=true:=HST.out (by rw [HX.out,e0,e1,e2];rfl);subst hrt;go_wp2;go_ret;exact⟨rfl,hE.trans hxb⟩
      ·have HE:=AmU (And.intro e0 (And.intro e1 e2));go_wp2;go_roundw
       case rel=>exact⟨j+1,by go_num,by omega,Xt.out (by rw [HX.out,HE.out.1,HE.out.2.1,HE.out.2.2];rfl),hxb⟩
       case measure=>simp [intOf];omega
     ·have HE:=AmU (And.intro e0 e1);go_wp2;go_roundw
      case rel=>exact⟨j+1,by go_num,by omega,Xt.out (by rw [HX.out,HE.out.1,HE.out.2];rfl),hxb⟩
      case measure=>simp [intOf];omega
   ·have hle:(4:Int)<=(j:Int):=(by omega);obtain rfl:j=4:=by omega
    have hno:(Is a b c d).any (fun t=>Kt t.1 t.2.1 t.2.2)=false:=by rw [List.any_eq_false];intro t ht;rw [HO.out t (by rw [Ang (by simp [Is])];exact ht)];simp
    have Dy:r=(!sh&&Qa a b c d):=(by rw [HR.out,Jo.out];unfold ML;rw [hno];rfl);have Gg:=AmU Dy;replace hb1:=(Ac.block _ (AmV hb1)).trans hb1;replace hb2:=(Ac.block _ (AmV hb2)).trans hb2;replace hb3:=(Ac.block _ (AmV hb3)).trans hb3;replace hb4:=(Ac.block _ (AmV hb4)).trans hb4;replace hE:=hE.trans Ac;clear k1 k2 k3 k4 k5 k6 k7 k8 hno Dy HO Jo CB Ac VP
    cases sh
    ·have k1:∀p:Af wr,p.w.cell? ⟨ba,0,none⟩=some (S (R a.x)):=Af.cell (Ab hb1 rfl);have k2:∀p:Af wr,p.w.cell? ⟨ba,1,none⟩=some (S (R a.y)):=Af.cell (Ab hb1 rfl);have k3:∀p:Af wr,p.w.cell? ⟨ba+1,0,none⟩=some (S (R b.x)):=Af.cell (Ab hb2 rfl);have k4:∀p:Af wr,p.w.cell? ⟨ba+1,1,none⟩=some (S (R b.y)):=Af.cell (Ab hb2 rfl);have k5:∀p:Af wr,p.w.cell? ⟨ba+1+1,0,none⟩=some (S (R c.x)):=Af.cell (Ab hb3 rfl);have k6:∀p:Af wr,p.w.cell? ⟨ba+1+1,1,none⟩=some (S (R c.y)):=Af.cell (Ab hb3 rfl);have k7:∀p:Af wr,p.w.cell? ⟨ba+1+1+1,0,none⟩=some (S (R d.x)):=Af.cell (Ab hb4 rfl);have k8:∀p:Af wr,p.w.cell? ⟨ba+1+1+1,1,none⟩=some (S (R d.y)):=Af.cell (Ab hb4 rfl);have hwr:=hw.ext hE;have GT:r=Qa a b c d:=(by rw [Gg.out];simp);rw [HP.out]at GT;unfold JX at GT;generalize AD (Al a b c)=u1 at *;generalize AD (Al a b d)=u2 at *;generalize AD (Al c d a)=u3 at *;generalize AD (Al c d b)=u4 at *;obtain⟨Wn,Rp⟩:=AmT (u1*u2);obtain⟨m34,Rr⟩:=AmT (u3*u4)
     have Tw:IntKind.i64.wrap (u1*u2)=Wn:=by
      rw [Rp];clear Rp Rr GT;obtain rfl|rfl|rfl:u1 = -1∨u1=0∨u1=1:=by omega
      all_goals (obtain rfl|rfl|rfl:u2 = -1∨u2=0∨u2=1:=by omega)
      all_goals rfl
     have w34:IntKind.i64.wrap (u3*u4)=m34:=by
      rw [Rr];clear Rp Rr GT;obtain rfl|rfl|rfl:u3 = -1∨u3=0∨u3=1:=by omega
      all_goals (obtain rfl|rfl|rfl:u4 = -1∨u4=0∨u4=1:=by omega)
      all_goals rfl
     rw [←Rp,←Rr]at GT;clear hb1 hb2 hb3 hb4 r1 r2 r3 r4 Gg HP Rp Rr;by_cases n1:Wn<0
     ·have d1:decide (Wn<0)=true:=decide_eq_true n1;rw [d1,Bool.true_and]at GT;have wh:=AmU GT;clear GT n1
      go_upto_region 8 with fail
      refine F3 (by kernel_rfl) (by kernel_rfl) ?_
      repeat (go_big_quiet_step (first|(with_reducible refine El (t1 _ (hwr.ext (Af.h _))))|(with_reducible refine El (t2 _ (hwr.ext (Af.h _))))|(with_reducible refine El (t3 _ (hwr.ext (Af.h _))))|(with_reducible refine El (t4 _ (hwr.ext (Af.h _))))))
      refine wpQuiet_nil ?_;rintro _ ⟨p,rfl⟩;go_wp2;go_ret;exact⟨by rw [wh.out];rfl,hE.trans p.h⟩
     ·have d1:decide (Wn<0)=false:=decide_eq_false n1;rw [d1,Bool.false_and]at GT;subst GT;clear t3 t4 n1
      go_upto_region 8 with fail
      refine F3 (by kernel_rfl) (by kernel_rfl) ?_
      repeat (go_big_quiet_step (first|(with_reducible refine El (t1 _ (hwr.ext (Af.h _))))|(with_reducible refine El (t2 _ (hwr.ext (Af.h _))))|(with_reducible refine El (t3 _ (hwr.ext (Af.h _))))|(with_reducible refine El (t4 _ (hwr.ext (Af.h _))))))
      refine wpQuiet_nil ?_;rintro _ ⟨p,rfl⟩;go_wp2;go_ret;exact⟨rfl,hE.trans p.h⟩
    ·have hrt:r=false:=(by rw [Gg.out];rfl);subst hrt
     go_upto_region 8 with fail
     refine F3 (by kernel_rfl) (by kernel_rfl) ?_
     repeat (go_big_quiet_step (first|(with_reducible refine El (t1 _ (hwr.ext (Af.h _))))|(with_reducible refine El (t2 _ (hwr.ext (Af.h _))))|(with_reducible refine El (t3 _ (hwr.ext (Af.h _))))|(with_reducible refine El (t4 _ (hwr.ext (Af.h _))))))
     refine wpQuiet_nil ?_;rintro _ ⟨p,rfl⟩;go_wp2;go_ret;exact⟨rfl,hE.trans p.h⟩
def G1(l:List Pt)(p:Pt):Int:=match l.findIdx? (Ap p)with|some j=>(j:Int)|none=>-1
theorem Af1{l:List Pt}{p:Pt}{j:Nat}(hj:j<l.length)(hno:∀q∈l.take j,Ap p q=false)(h:Ap p l[j]=true):G1 l p=(j:Int):=by
 unfold G1
 have:l.findIdx? (Ap p)=some j:=by rw [List.findIdx?_eq_some_iff_getElem];refine⟨hj,h,fun i hi=>?_⟩;rw [Bool.not_eq_true];refine hno l[i] ?_;rw [List.mem_take_iff_getElem];exact⟨i,by omega,rfl⟩
 rw [this]
theorem Af3{l:List Pt}{p:Pt}(hno:∀q∈l,Ap p q=false):G1 l p = -1:=by
 unfold G1
 have:l.findIdx? (Ap p)=none:=by rw [List.findIdx?_eq_none_iff];exact hno
 rw [this]
theorem Af0(l:List Pt)(p:Pt):decide (0<=G1 l p)=l.any (Ap p):=by
 unfold G1
 cases h:l.findIdx? (Ap p)with
 | none=>
  rw [List.findIdx?_eq_none_iff]at h
  symm
  simp only [Int.reduceNeg,Int.reduceLE,decide_false,List.any_eq_false];intro x hx;rw [h x hx];simp
 | some j=>
  rw [List.findIdx?_eq_some_iff_getElem]at h;obtain⟨hj,h1,_⟩:=h;rw [decide_eq_true (by simp)]
  symm
  rw [List.any_eq_true];exact⟨_,AmY hj,h1⟩
theorem zY(l:List Pt)(p:Pt)(A:Option Addr)(c:Nat)(w:World)(hr:Ae w A (flat (Ao l)))(hc:l.length<=c)(hcm:c<=9223372036854775807) :
  Calls Tryz.prog 147 #[.slice A l.length c,Ak p] w (AA (G1 l p) w):=by
 have pe:=iO;have hb0:=AmW w (.cells #[S (R p.x),S (R p.y)] 94);have hE:=(Aa.refl w).alloc (.cells #[S (R p.x),S (R p.y)] 94);obtain⟨r,hr0⟩:=AmT (G1 l p);rw [←hr0];have HR:=AmU hr0;unfold Ak;clear hr0;go_enter Tryz.func147,Tryz.ntmps147
 go_upto_region 2 with fail
 generalize w.alloc (.cells #[S (R p.x),S (R p.y)] 94)=V at *;obtain⟨bp,Bu⟩:=AmT w.heap.size;rw [←Bu]at hb0 ⊢;clear Bu
 go_loopw [8] (fun i wr=>∃j:Nat,i=.int .i64 (j:Nat)/\j<=l.length/\(∀q∈l.take j,Ap p q=false)/\Aa V wr) (fun i _=>l.length-(intOf i).toNat)
 case atStart=>exact⟨0,rfl,by omega,by simp,Aa.refl _⟩
 case round=>
  obtain⟨j,rfl,hj,Aj,Ac⟩:=hrel;have HO:=AmU Aj;clear Aj;have hbr:=(Ac.block _ (AmV hb0)).trans hb0;have s1:=Ab (o:=0) hbr rfl;have s2:=Ab (o:=1) hbr rfl;clear hbr;by_cases hlt:j<l.length
  ·obtain⟨b,o,rfl,hg1,hg2⟩:=Cy (hr.ext (hE.trans Ac)) hlt;obtain⟨q,hq⟩:=AmT (l[j]);rw [←hq]at hg1 hg2;have hj0:(0:Int)<=(j:Int):=(by omega);have AV:(j:Int)<(l.length:Int):=(by omega);have HQ:=AmU hq;clear hq
   cases e0:Ap p q
   ·have HE:=AmU e0
    go_upto_region 4 with fail
    go_quiet (fail)
    go_wp2;go_roundw
    case rel=>
     refine⟨j+1,by go_num,hlt,?_,Ac.drewN _⟩;intro x hx;rw [Ana hlt,←HQ.out]at hx
     rcases List.mem_append.1 hx with h|h
     ·exact HO.out x h
     ·simp only [Ank]at h;rw [h];exact HE.out
    case measure=>simp [intOf];omega
   ·have Eb:r=(j:Int):=(by rw [HR.out];exact Af1 hlt HO.out (by rw [←HQ.out];exact e0));subst Eb
    go_upto_region 4 with fail
    go_quiet (fail)
    go_wp2;go_ret;exact⟨rfl,(hE.trans Ac).drewN _⟩
  ·have hle:(l.length:Int)<=(j:Int):=(by omega);have Eb:r = -1:=(by rw [HR.out];exact Af3 (by have:=HO.out;rw [Ang (by omega)]at this;exact this));subst Eb;clear s1 s2;go_wp2;go_ret;exact⟨rfl,hE.trans Ac⟩
theorem contains_c(l:List Pt)(p:Pt)(A:Option Addr)(c:Nat)(w:World)(hr:Ae w A (flat (Ao l)))(hc:l.length<=c)(hcm:c<=9223372036854775807) :
  Calls Tryz.prog 78 #[.slice A l.length c,Ak p] w (BC (l.any (Ap p)) w):=by
 have hE:=(Aa.refl w).alloc (.cells #[S (R p.x),S (R p.y)] 94);have ix:=zY l p A c (w.alloc (.cells #[S (R p.x),S (R p.y)] 94)) (hr.ext hE) hc hcm;have ha:=Af0 l p;obtain⟨r,hr0⟩:=AmT (l.any (Ap p));rw [←hr0]at ha ⊢;generalize G1 l p=z at *;unfold Ak at ix ⊢;clear hr hr0;go_enter Tryz.func78,Tryz.ntmps78;(go_wp2_with fail);(with_reducible refine ix.mono ?_);rintro e w1 ⟨rfl,hx⟩;go_wp2;go_ret;exact⟨by rw [←ha];rfl,hE.trans hx⟩
/-! ### Edges -/
structure Av where
 f:Int
 t:Int
 l:Int
 r:Int
def YR(e:Av):Value:=.agg #[.int .i64 e.f,.int .i64 e.t,.int .i64 e.l,.int .i64 e.r]
def Bt(l:List Av):List Value:=l.flatMap (fun e=>[.int .i64 e.f,.int .i64 e.t,.int .i64 e.l,.int .i64 e.r])
theorem AbT(l:List Av):(Bt l).length=l.length*4:=by
 induction l with
 | nil=>rfl
 | cons e l ih=>unfold Bt at *;simp only [List.flatMap_cons,List.length_append,ih,List.length_cons,List.length_nil];omega
theorem pX:∀(l:List Av) (j:Nat) (h:j<l.length),(Bt l)[j*4]?=some (.int .i64 l[j].f)/\(Bt l)[j*4+1]?=some (.int .i64 l[j].t)/\(Bt l)[j*4+2]?=some (.int .i64 l[j].l)/\(Bt l)[j*4+3]?=some (.int .i64 l[j].r)
 | e::l,0,_=>⟨rfl,rfl,rfl,rfl⟩
 | e::l,j+1,h=>by
  have ih:=pX l j (by simpa using h);have e0:Bt (e::l)=.int .i64 e.f :: .int .i64 e.t :: .int .i64 e.l :: .int .i64 e.r::Bt l:=rfl;rw [e0];have e1:(j+1)*4=j*4+1+1+1+1:=(by omega);rw [e1]
  simpa using ih
theorem To{w:World}{A:Option Addr}{l:List Av}(hr:Ae w A (Bt l)){j:Nat}(h:j<l.length):∃b o,A=some ⟨b,o,none⟩/\w.cell? ⟨b,o+j*4,none⟩=some (.int .i64 l[j].f)/\w.cell? ⟨b,o+j*4+1,none⟩=some (.int .i64 l[j].t)/\w.cell? ⟨b,o+j*4+2,none⟩=some (.int .i64 l[j].l)/\w.cell? ⟨b,o+j*4+3,none⟩=some (.int .i64 l[j].r):=by
 have hl:=AbT l;obtain⟨b,o,e,hcs⟩:=hr.ad (by omega);obtain⟨f1,f2,f3,f4⟩:=pX l j h;have g1:=hcs (j*4) (by omega);have g2:=hcs (j*4+1) (by omega);have g3:=hcs (j*4+2) (by omega);have g4:=hcs (j*4+3) (by omega);rw [Anc (by omega),Anb]at f1 f2 f3 f4;rw [f1]at g1;rw [f2,←Nat.add_assoc]at g2;rw [f3,←Nat.add_assoc]at g3;rw [f4,←Nat.add_assoc]at g4;exact⟨b,o,e,g1,g2,g3,g4⟩
theorem AiZ{P:Program}{w:World}(ts:Array TypeId)(t:TypeId)(k:IntKind)(a b:Int):(Builtin.min_ ts t #[.int k a,.int k b]).run P w=.ok (.int k (min a b)) w:=by
 have m:∀x y:Int,(if y<x then y else x)=min x y:=(by intro x y;split<;>omega);simp only [Builtin.min_,List.foldlM_cons,List.foldlM_nil,Builtin.min2];simp [m]
theorem AiX{P:Program}{w:World}(ts:Array TypeId)(t:TypeId)(k:IntKind)(a b:Int):(Builtin.max_ ts t #[.int k a,.int k b]).run P w=.ok (.int k (max a b)) w:=by
 have m:∀x y:Int,(if y>x then y else x)=max x y:=(by intro x y;split<;>omega);simp only [Builtin.max_,List.foldlM_cons,List.foldlM_nil,Builtin.max2];simp [m]
def Fu(f e:Av):Bool:=(decide (f.f=e.f)&&decide (f.t=e.t))||(decide (f.f=e.t)&&decide (f.t=e.f))
theorem AbS(f e:Av)(b:Nat)(t:TypeId)(w:World)(hb:w.heap[b]?=some (.cells #[.int .i64 e.f,.int .i64 e.t,.int .i64 e.l,.int .i64 e.r] t)) :
  Calls Tryz.prog 150 #[YR f,.pointer (some ⟨b,0,none⟩)] w (BC (Fu f e) w):=by
 have k1:=Ab (o:=0) hb rfl;have k2:=Ab (o:=1) hb rfl;have hx:=(Aa.refl w).alloc (.cells #[.int .i64 f.f,.int .i64 f.t,.int .i64 f.l,.int .i64 f.r] 126);have j1:=hx.cellS k1;have j2:=hx.cellS k2;obtain⟨r,hr⟩:=AmT (Fu f e);rw [←hr];have HR:=AmU hr;have Dy:r=((f.f == e.f)&&(f.t == e.t)||(f.f == e.t)&&(f.t == e.f)):=hr;unfold YR;clear hr hb k1 k2 HR
 cases h1:(f.f == e.f)<;>cases h2:(f.t == e.t)<;>cases h3:(f.f == e.t)<;>cases h4:(f.t == e.f)
 all_goals (
  rw [h1,h2,h3,h4]at Dy;have HH:=AmU Dy;clear Dy;go_enter Tryz.func150,Tryz.ntmps150;go_wp2;go_ret
  exact⟨by rw [HH.out];rfl,hx⟩)
def Eh(n:Nat)(z:Int):Bool:=decide (-1<=z)&&decide (z<(n:Int))
theorem mi(z:Int)(b n g:Nat)(F:Option Addr)(v0 v1:Value)(t:TypeId)(w:World)(hb:w.heap[b]?=some (.cells #[v0,v1,.slice F n g] t)) :
  Calls Tryz.prog 148 #[.int .i64 z,.pointer (some ⟨b,0,none⟩)] w (BC (Eh n z) w):=by
 have k1:=Ab (o:=2) hb rfl;obtain⟨r,hr⟩:=AmT (Eh n z);rw [←hr];have HR:=AmU hr;clear hr hb;by_cases h1:-1<=z
 ·have d1:decide (-1<=z)=true:=decide_eq_true h1;by_cases h2:z<(n:Int)
  ·have d2:decide (z<(n:Int))=true:=decide_eq_true h2;have HH:=AmU (show r=true by rw [HR.out];unfold Eh;rw [d1,d2];rfl);go_enter Tryz.func148,Tryz.ntmps148;go_wp2;go_ret;exact⟨by rw [HH.out];rfl,Aa.refl _⟩
  ·have d2:decide (z<(n:Int))=false:=decide_eq_false h2;have HH:=AmU (show r=false by rw [HR.out];unfold Eh;rw [d1,d2];rfl);clear h2;go_enter Tryz.func148,Tryz.ntmps148;go_wp2;go_ret;exact⟨by rw [HH.out];rfl,Aa.refl _⟩
 ·have d1:decide (-1<=z)=false:=decide_eq_false h1;have HH:=AmU (show r=false by rw [HR.out];unfold Eh;rw [d1];rfl);clear h1;go_enter Tryz.func148,Tryz.ntmps148;go_wp2;go_ret;exact⟨by rw [HH.out];rfl,Aa.refl _⟩
def yf(l:List Av)(e0:Av)(w:World)(e:Ending)(w':World):Prop:=∃k:Int,e=.returned (.int .i64 k)/\(0<=k↔∃p∈l,Fu p e0=true)/\Aa w w'
theorem Af8(l:List Av)(e:Av)(bb:Nat)(t:TypeId)(A:Option Addr)(c:Nat)(w:World)(hr:Ae w A (Bt l))(hc:l.length<=c)(hcm:c<=9223372036854775807)
  (hb:w.heap[bb]?=some (.cells #[.int .i64 e.f,.int .i64 e.t,.int .i64 e.l,.int .i64 e.r] t)) :
  Calls Tryz.prog 228 #[.slice A l.length c,.func (.func 150) #[] #[.pointer (some ⟨bb,0,none⟩)]] w (yf l e w):=by
 go_enter Tryz.func228,Tryz.ntmps228;go_wp2
 go_loopw [8] (fun i wr=>∃j:Nat,i=.int .i64 (j:Nat)/\j<=l.length/\(∀p∈l.take j,Fu p e=false)/\Aa w wr) (fun i _=>l.length-(intOf i).toNat)
 case atStart=>exact⟨0,rfl,by omega,by simp,Aa.refl _⟩
 case round=>
  obtain⟨j,rfl,hj,Aj,Ac⟩:=hrel;have HO:=AmU Aj;clear Aj;by_cases hlt:j<l.length
  ·obtain⟨b,o,rfl,hg1,hg2,hg3,hg4⟩:=To (hr.ext Ac) hlt;obtain⟨p,hp⟩:=AmT (l[j]);rw [←hp]at hg1 hg2 hg3 hg4;have hmem:p∈l:=(by rw [hp];exact AmY hlt);have HX:=AmU hp;clear hp;have hj0:(0:Int)<=(j:Int):=(by omega);have AV:(j:Int)<(l.length:Int):=(by omega);have bf:=AbS p e bb t wr ((Ac.block _ (AmV hb)).trans hb);unfold YR at bf
   cases hL:Fu p e
   ·rw [hL]at bf;have FA:=AmU hL;clear hL;(go_wp2_with fail);(with_reducible refine bf.mono ?_);rintro e w2 ⟨rfl,hx2⟩;go_wp2;go_roundw
    case rel=>
     refine⟨j+1,by go_num,hlt,?_,Ac.trans hx2⟩;intro q hq;rw [Ana hlt,←HX.out]at hq
     rcases List.mem_append.1 hq with h|h
     ·exact HO.out q h
     ·simp only [Ank]at h;rw [h];exact FA.out
    case measure=>simp [intOf];omega
   ·rw [hL]at bf;have FA:=AmU hL;clear hL;(go_wp2_with fail);(with_reducible refine bf.mono ?_);rintro e w2 ⟨rfl,hx2⟩;go_wp2;go_ret;exact⟨j,rfl,⟨fun _=>⟨_,hmem,FA.out⟩,fun _=>by omega⟩,Ac.trans hx2⟩
  ·have hle:(l.length:Int)<=(j:Int):=(by omega);go_wp2;go_ret;refine⟨-1,rfl,⟨fun h=>by omega,?_⟩,Ac⟩;rintro⟨p,hp,h⟩;have:=HO.out p (by rw [Ang (by omega)];exact hp);rw [this]at h;cases h
theorem Ab1(l:List Av)(e:Av)(bb:Nat)(t:TypeId)(A:Option Addr)(c:Nat)(w:World)(hr:Ae w A (Bt l))(hc:l.length<=c)(hcm:c<=9223372036854775807)
  (hb:w.heap[bb]?=some (.cells #[.int .i64 e.f,.int .i64 e.t,.int .i64 e.l,.int .i64 e.r] t)) :
  Calls Tryz.prog 149 #[.slice A l.length c,.func (.func 150) #[] #[.pointer (some ⟨bb,0,none⟩)]] w (BC (l.any (Fu · e)) w):=by
 have ix:=Af8 l e bb t A c w hr hc hcm hb;obtain⟨r,hr0⟩:=AmT (l.any (Fu · e));rw [←hr0];have HR:=AmU hr0;clear hr hb hr0;go_enter Tryz.func149,Tryz.ntmps149;(go_wp2_with fail);(with_reducible refine ix.mono ?_);rintro e w2 ⟨k,rfl,hk,hx⟩;have HK:=AmU hk;clear hk;go_wp2;go_ret;refine⟨?_,hx⟩
 have e:decide (0<=k)=r:=by
  rw [HR.out]
  cases h:l.any (Fu · _)
  ·rw [decide_eq_false_iff_not,HK.out];rintro⟨p,hp,h2⟩;rw [List.any_eq_false]at h;exact h p hp h2
  ·rw [decide_eq_true_eq,HK.out];rw [List.any_eq_true]at h;exact h
 rw [←e];rfl
def J1(np nf:Nat)(pre:List Av)(e:Av):Int:=
 if min e.f e.t<0 then 3 else if (np:Int)<=max e.f e.t then 3 else if e.f=e.t then 17 else if pre.any (Fu · e)then 9
 else if Eh nf e.l=false then 3 else if Eh nf e.r=false then 3 else if e.l=e.r then 7 else 0
structure Cm where
 pts:List Pt
 eds:List Av
 nf:Nat
def C2(A B F:Option Addr)(m:Cm)(c d g:Nat):Value:=.agg #[.slice A m.pts.length c,.slice B m.eds.length d,.slice F m.nf g]
structure Jm(m:Cm)(c d g:Nat):Prop where
 c1:m.pts.length<=c
 c2:c<=9223372036854775807
 d1:m.eds.length<=d
 d2:d<=9223372036854775807
 g1:m.nf<=g
 g2:g<=9223372036854775807
theorem AbV(l:List Av)(i:Nat):Bt (l.take i)=(Bt l).take (i*4):=by
 induction l generalizing i with
 | nil=>simp [Bt]
 | cons e l ih=>
  cases i with
  | zero=>simp [Bt]
  | succ i=>have e0:∀l,Bt (e::l)=.int .i64 e.f :: .int .i64 e.t :: .int .i64 e.l :: .int .i64 e.r::Bt l:=fun _=>rfl;rw [List.take_succ_cons,e0,e0,ih];have e1:(i+1)*4=i*4+1+1+1+1:=(by omega);rw [e1];simp
theorem Ae.take{w:World}{A:Option Addr}{cs:List Value}(h:Ae w A cs)(n:Nat):Ae w A (cs.take n):=
 ⟨fun h0=>by
  obtain⟨b,o,e,hc⟩:=h.ad (by rw [List.length_take]at h0;omega);refine⟨b,o,e,fun j hj=>?_⟩;rw [List.length_take]at hj
  rw [hc j (by omega),List.getElem_take]⟩
theorem AaI(m:Cm)(A B F:Option Addr)(c d g:Nat)(B8:Jm m c d g)(i:Nat)(hi:i<m.eds.length)(w:World)(hB:Ae w B (Bt m.eds)) :
  Calls Tryz.prog 79 #[C2 A B F m c d g,.int .i64 (i:Nat)] w (AA (J1 m.pts.length m.nf (m.eds.take i) m.eds[i]) w):=by
 have AmK:=@AiZ Tryz.prog;have AmJ:=@AiX Tryz.prog;obtain⟨c1,c2,d1,d2,g1,g2⟩:=B8;obtain⟨e,he⟩:=AmT (m.eds[i]);obtain⟨b,o,rfl,hg1,hg2,hg3,hg4⟩:=To hB hi;rw [←he]at hg1 hg2 hg3 hg4 ⊢;obtain⟨r,hr⟩:=AmT (J1 m.pts.length m.nf (m.eds.take i) e);rw [←hr]
 have hr':r=if min e.f e.t<0 then 3 else if (m.pts.length:Int)<=max e.f e.t then 3 else if e.f=e.t then 17 else if (m.eds.take i).any (Fu · e)then 9
  else if Eh m.nf e.l=false then 3 else if Eh m.nf e.r=false then 3 else if e.l=e.r then 7 else 0:=hr
 have HR:=AmU hr';have hpl:(m.eds.take i).length=i:=by rw [List.length_take];omega
 have hid:∀bb t w',Aa w w'→w'.heap[bb]?=some (.cells #[.int .i64 e.f,.int .i64 e.t,.int .i64 e.l,.int .i64 e.r] t)→Calls Tryz.prog 149 #[.slice (some ⟨b,o,none⟩) i d,.func (.func 150) #[] #[.pointer (some ⟨bb,0,none⟩)]] w' (BC ((m.eds.take i).any (Fu · e)) w'):=by intro bb t w' hx h;have:=Ab1 (m.eds.take i) e bb t (some ⟨b,o,none⟩) d w' (by rw [AbV];exact(hB.ext hx).take _) (by omega) d2 h;rw [hpl]at this;exact this
 generalize (m.eds.take i).any (Fu · e)=du at *;obtain⟨np,Sx⟩:=AmT m.pts.length;obtain⟨ne,hne⟩:=AmT m.eds.length;obtain⟨nf,P2⟩:=AmT m.nf;rw [←Sx]at c1 HR;rw [←hne]at d1 hi;rw [←P2]at g1 HR;unfold C2;rw [←Sx,←hne,←P2];have NG:(0:Int)<=(i:Int):=(by omega);have Sf:(i:Int)<(ne:Int):=(by omega);have hix:(i:Int)<=(d:Int):=(by omega);have hM:=AmW w (.cells #[.slice A np c,.slice (some ⟨b,o,none⟩) ne d,.slice F nf g] 36);have hx0:=(Aa.refl w).alloc (.cells #[.slice A np c,.slice (some ⟨b,o,none⟩) ne d,.slice F nf g] 36);have j1:=hx0.cellS hg1;have j2:=hx0.cellS hg2;have j3:=hx0.cellS hg3;have j4:=hx0.cellS hg4;have hx1:=hx0.alloc (.cells #[.int .i64 e.f,.int .i64 e.t,.int .i64 e.l,.int .i64 e.r] 126);have hD:=AmW (w.alloc (.cells #[.slice A np c,.slice (some ⟨b,o,none⟩) ne d,.slice F nf g] 36)) (.cells #[.int .i64 e.f,.int .i64 e.t,.int .i64 e.l,.int .i64 e.r] 126);have EU:=(((Aa.refl _).alloc (.cells #[.int .i64 e.f,.int .i64 e.t,.int .i64 e.l,.int .i64 e.r] 126)).block _ (AmV hM)).trans hM;rw [Anf]at hD;clear he hr hr' hpl Sx hne P2 hB hg1 hg2 hg3 hg4 hM hi;go_enter Tryz.func79,Tryz.ntmps79
 go_upto_region 2 with fail
 clear j1 j2 j3 j4;generalize (w.alloc (.cells #[.slice A np c,.slice (some ⟨b,o,none⟩) ne d,.slice F nf g] 36)).alloc (.cells #[.int .i64 e.f,.int .i64 e.t,.int .i64 e.l,.int .i64 e.r] 126)=V at *;obtain⟨bm,Dk⟩:=AmT w.heap.size;rw [←Dk]at EU hD ⊢;clear Dk hx0;have m1:=Ab (o:=0) EU rfl;have m2:=Ab (o:=1) EU rfl;have m3:=Ab (o:=2) EU rfl;have e1:=Ab (o:=0) hD rfl;have e2:=Ab (o:=1) hD rfl;have e3:=Ab (o:=2) hD rfl;have e4:=Ab (o:=3) hD rfl;generalize hmn:min e.f e.t=mn at *;generalize hmx:max e.f e.t=mx at *;by_cases n1:mn<0
 ·have dd:decide (mn<0)=true:=decide_eq_true n1;have HH:=AmU (show r=3 by rw [HR.out,if_pos n1]);clear HR hid;go_wp2;go_ret;exact⟨by rw [HH.out];rfl,hx1⟩
 have pJ:decide (mn<0)=false:=decide_eq_false n1;by_cases n2:(np:Int)<=mx
 ·have dd:decide ((np:Int)<=mx)=true:=decide_eq_true n2;have HH:=AmU (show r=3 by rw [HR.out,if_neg n1,if_pos n2]);clear HR hid n1;go_wp2;go_ret;exact⟨by rw [HH.out];rfl,hx1⟩
 have YM:decide ((np:Int)<=mx)=false:=decide_eq_false n2;by_cases n3:e.f=e.t
 ·have dd:(e.f == e.t)=true:=(by rw [beq_iff_eq];exact n3);have HH:=AmU (show r=17 by rw [HR.out,if_neg n1,if_neg n2,if_pos n3]);clear HR hid n1 n2 n3;go_wp2;go_ret;exact⟨by rw [HH.out];rfl,hx1⟩
 have pK:(e.f == e.t)=false:=(by rw [beq_eq_false_iff_ne];exact n3);have MZ:=AmU (show r=if du=true then 9 else if Eh nf e.l=false then 3 else if Eh nf e.r=false then 3 else if e.l=e.r then 7 else 0 by rw [HR.out,if_neg n1,if_neg n2,if_neg n3]);have ci:=hid (bm+1) _ V hx1 hD;clear HR n1 n2 n3 hid
 cases J8:du
 rotate_left
 ·have HH:=AmU (show r=9 by rw [MZ.out,J8];rfl);rw [J8]at ci;clear MZ J8;(go_wp2_with fail);(with_reducible refine ci.mono ?_);rintro e w2 ⟨rfl,hx2⟩;go_wp2;go_ret;exact⟨by rw [HH.out];rfl,hx1.trans hx2⟩
 have TN:=AmU (show r=if Eh nf e.l=false then 3 else if Eh nf e.r=false then 3 else if e.l=e.r then 7 else 0 by rw [MZ.out,J8];rfl);rw [J8]at ci;clear MZ J8;(go_wp2_with fail);(with_reducible refine ci.mono ?_);rintro _ w2 ⟨rfl,hx2⟩;have Hx:=(hx2.block _ (AmV EU)).trans EU;have N1:=(hx2.block _ (AmV hD)).trans hD;have s1:=mi e.l bm nf g F _ _ _ w2 Hx;replace hx2:=hx1.trans hx2;clear m1 m2 m3 e1 e2 e3 e4 EU hD hx1 ci;have e1:=Ab (o:=0) N1 rfl;have e2:=Ab (o:=1) N1 rfl;have e3:=Ab (o:=2) N1 rfl;have e4:=Ab (o:=3) N1 rfl
 cases h5:Eh nf e.l
 ·have HH:=AmU (show r=3 by rw [TN.out,h5];rfl);rw [h5]at s1;clear TN h5;(go_wp2_with fail);(with_reducible refine s1.mono ?_);rintro _ w3 ⟨rfl,hx3⟩;go_wp2;go_ret;exact⟨by rw [HH.out];rfl,hx2.trans hx3⟩
 have TO:=AmU (show r=if Eh nf e.r=false then 3 else if e.l=e.r then 7 else 0 by rw [TN.out,h5];rfl);rw [h5]at s1;clear TN h5;(go_wp2_with fail);(with_reducible refine s1.mono ?_);rintro _ w3 ⟨rfl,hx3⟩;have GL:=(hx3.block _ (AmV Hx)).trans Hx;have N2:=(hx3.block _ (AmV N1)).trans N1;have s2:=mi e.r bm nf g F _ _ _ w3 GL;replace hx3:=hx2.trans hx3;clear e1 e2 e3 e4 Hx N1 hx2 s1;have e1:=Ab (o:=0) N2 rfl;have e2:=Ab (o:=1) N2 rfl;have e3:=Ab (o:=2) N2 rfl;have e4:=Ab (o:=3) N2 rfl
 cases h6:Eh nf e.r
 ·have HH:=AmU (show r=3 by rw [TO.out,h6];rfl);rw [h6]at s2;clear TO h6;(go_wp2_with fail);(with_reducible refine s2.mono ?_);rintro _ w4 ⟨rfl,Ai⟩;go_wp2;go_ret;exact⟨by rw [HH.out];rfl,hx3.trans Ai⟩
 have O2:=AmU (show r=if e.l=e.r then 7 else 0 by rw [TO.out,h6];rfl);rw [h6]at s2;clear TO h6;(go_wp2_with fail);(with_reducible refine s2.mono ?_);rintro _ w4 ⟨rfl,Ai⟩;have UG:=(Ai.block _ (AmV N2)).trans N2;replace Ai:=hx3.trans Ai;clear e1 e2 e3 e4 GL N2 hx3 s2;have e1:=Ab (o:=0) UG rfl;have e2:=Ab (o:=1) UG rfl;have e3:=Ab (o:=2) UG rfl;have e4:=Ab (o:=3) UG rfl;by_cases n7:e.l=e.r
 ·have dd:(e.l == e.r)=true:=(by rw [beq_iff_eq];exact n7);have HH:=AmU (show r=7 by rw [O2.out,if_pos n7]);clear O2 n7;go_wp2;go_ret;exact⟨by rw [HH.out];rfl,Ai⟩
 ·have dd:(e.l == e.r)=false:=(by rw [beq_eq_false_iff_ne];exact n7);have HH:=AmU (show r=0 by rw [O2.out,if_neg n7]);clear O2 n7;go_wp2;go_ret;exact⟨by rw [HH.out];rfl,Ai⟩
def CH:List Pt→List Pt→Int
 | _,[]=>0
 | pre,p::l=>if pre.any (Ap p)then 9 else CH (pre ++ [p]) l
def CW(np nf:Nat):List Av→List Av→Int
 | _,[]=>0
 | pre,e::l=>if J1 np nf pre e≠0 then J1 np nf pre e else CW np nf (pre ++ [e]) l
def Fe(l:List Pt)(z:Int):Pt:=l.getD z.toNat ⟨0,0⟩
def OL(l:List Pt)(e f:Av):Bool:=ML (Fe l e.f) (Fe l e.t) (Fe l f.f) (Fe l f.t)
def D8(pts:List Pt):List Av→List Av→Int
 | _,[]=>0
 | pre,e::l=>if pre.any (OL pts e)then 26 else D8 pts (pre ++ [e]) l
def LP(m:Cm):Bool:=decide (400<m.pts.length)||(decide (1200<m.eds.length)||decide (800<m.nf))
theorem AaO{l:List Pt}{j:Nat}(h:j<l.length):CH (l.take j) (l.drop j)=if (l.take j).any (Ap l[j])then 9 else CH (l.take (j+1)) (l.drop (j+1)):=by
 rw [List.drop_eq_getElem_cons h,Ana h];rfl
theorem AaQ{np nf:Nat}{l:List Av}{j:Nat}(h:j<l.length):CW np nf (l.take j) (l.drop j)=if J1 np nf (l.take j) l[j]≠0 then J1 np nf (l.take j) l[j] else CW np nf (l.take (j+1)) (l.drop (j+1)):=by
 rw [List.drop_eq_getElem_cons h,Ana h];rfl
theorem AaS{pts:List Pt}{l:List Av}{j:Nat}(h:j<l.length):D8 pts (l.take j) (l.drop j)=if (l.take j).any (OL pts l[j])then 26 else D8 pts (l.take (j+1)) (l.drop (j+1)):=by
 rw [List.drop_eq_getElem_cons h,Ana h];rfl
theorem Us{np nf:Nat}{pre:List Av}{e:Av}(h:J1 np nf pre e=0):0<=e.f/\0<=e.t/\e.f<(np:Int)/\e.t<(np:Int)/\e.f≠e.t/\pre.any (Fu · e)=false/\Eh nf e.l=true/\Eh nf e.r=true/\e.l≠e.r:=by
 unfold J1 at h
 split at h
 ·cases h
 split at h
 ·cases h
 split at h
 ·cases h
 split at h
 ·cases h
 split at h
 ·cases h
 split at h
 ·cases h
 split at h
 ·cases h
 rename_i h1 h2 h3 h4 h5 h6 h7
 exact⟨by omega,by omega,by omega,by omega,h3,by simpa using h4,by simpa using h5,by simpa using h6,h7⟩
theorem QQ{np nf:Nat}{l:List Av} : ∀{pre rest:List Av},CW np nf pre rest=0→∀(i:Nat) (h:i<rest.length),J1 np nf (pre++rest.take i) rest[i]=0
 | pre,[],_,i,h=>by simp at h
 | pre,e::rest,hc,i,h=>by
  unfold CW at hc
  split at hc
  ·rename_i hne
   exact absurd hc hne
  ·rename_i h0
   simp only [ne_eq,Decidable.not_not]at h0
   cases i with
   | zero=>simpa using h0
   | succ i=>
    have:=QQ (l:=l) hc i (by simpa using h)
    simpa using this
theorem nU{pts:List Pt} : ∀{pre rest:List Av},D8 pts pre rest=0→∀(i:Nat) (h:i<rest.length),(pre++rest.take i).any (OL pts rest[i])=false
 | pre,[],_,i,h=>by simp at h
 | pre,e::rest,hc,i,h=>by
  unfold D8 at hc
  split at hc
  ·cases hc
  ·rename_i h0
   cases i with
   | zero=>simpa using h0
   | succ i=>
    have:=nU hc i (by simpa using h)
    simpa using this
theorem nT:∀{pre rest:List Pt},CH pre rest=0→∀(i:Nat) (h:i<rest.length),(pre++rest.take i).any (Ap rest[i])=false
 | pre,[],_,i,h=>by simp at h
 | pre,e::rest,hc,i,h=>by
  unfold CH at hc
  split at hc
  ·cases hc
  ·rename_i h0
   cases i with
   | zero=>simpa using h0
   | succ i=>
    have:=nT hc i (by simpa using h)
    simpa using this
def AK(s t:Sg):Bool:=Ap s.a t.a&&Ap s.b t.b
theorem Iq{s t:Sg} : AK s t=true↔s=t:=by
 unfold AK;rw [Bool.and_eq_true,Cx,Cx];constructor
 ·rintro⟨h1,h2⟩
  cases s;cases t;simp_all
 ·rintro rfl;exact⟨rfl,rfl⟩
theorem qI(p q:Pt)(W:World):(Op.equal 94 (Ak p) (Ak q)).run Tryz.prog W=.ok (Ap p q) W:=by
 unfold Ap Ak;rw [←Jy,←Jy]
 cases b1:(R p.x == R q.x)<;>cases b2:(R p.y == R q.y)<;>simp [go_sem,Op.equal,Op.maxDepth,b1,b2]
theorem qJ(s t:Sg)(W:World):(Op.equal 155 (As s) (As t)).run Tryz.prog W=.ok (AK s t) W:=by
 unfold AK Ap As;rw [←Jy,←Jy,←Jy,←Jy]
 cases b1:(R s.a.x == R t.a.x)<;>cases b2:(R s.a.y == R t.a.y)<;>cases b3:(R s.b.x == R t.b.x)<;>cases b4:(R s.b.y == R t.b.y)<;>simp [go_sem,Op.equal,Op.maxDepth,b1,b2,b3,b4]
theorem nO(b:Bool)(p:Pt)(W:World):(Instr.checkKey b 10000 94 (Ak p)).run Tryz.prog W=.ok () W:=by
 unfold Ak
 kernel_rfl
theorem nP(b:Bool)(s:Sg)(W:World):(Instr.checkKey b 10000 155 (As s)).run Tryz.prog W=.ok () W:=by
 unfold As
 kernel_rfl
/-! ### Entries -/
section
variable {α : Type} (enc : α → Value) (same : α → α → Bool)
def Aw(l:List (α×Value×Nat)):List MapEntry:=l.map (fun e=>⟨enc e.1,e.2.1,e.2.2⟩)
theorem rE{kt:TypeId}(heq:∀x y W,(Op.equal kt (enc x) (enc y)).run Tryz.prog W=.ok (same x y) W)(k:α)(W:World):∀(l:List (α×Value×Nat)) (i:Nat),
  (Instr.findAsking kt (enc k) (Aw enc l) i).run Tryz.prog W=.ok ((l.findIdx? (fun e=>same k e.1)).bind (fun j=>(l[j]?).map (fun e=>(i+j,e.2.1)))) W
 | [],i=>by simp [Aw,Instr.findAsking]
 | e::l,i=>by
  have ih:=rE heq k W l (i+1);have e0:Aw enc (e::l)=⟨enc e.1,e.2.1,e.2.2⟩::Aw enc l:=rfl;rw [e0];unfold Instr.findAsking;simp only [Sem.run_bind,heq,Result.andThen_ok];rw [List.findIdx?_cons]
  cases h:same k e.1
  ·simp only [Bool.false_eq_true,if_false,ih]
   congr 1
   cases h2:l.findIdx? (fun e=>same k e.1)with
   | none=>simp
   | some j=>
    simp only [Option.map_some,Option.bind_some,List.getElem?_cons_succ]
    congr 1
    funext x
    rw [show i+1+j=i+(j+1)by omega]
  ·simp
end
section
variable {α : Type} {enc : α → Value} {same : α → α → Bool}
structure Js(mt kt et:TypeId)(z:Value)(enc:α→Value)(same:α→α→Bool):Prop where
 map:Tryz.prog.underlying mt=some (.map kt et)
 st:∃fs,Tryz.prog.underlying kt=some (.struct fs)
 zero:∀W,(zeroValue et).run Tryz.prog W=.ok z W
 eq:∀x y W,(Op.equal kt (enc x) (enc y)).run Tryz.prog W=.ok (same x y) W
 chk:∀b x W,(Instr.checkKey b 10000 kt (enc x)).run Tryz.prog W=.ok () W
 iff:∀{x y},same x y=true↔x=y
 bits:∀x,Instr.sameBits 10000 (enc x) (enc x)=true
def Fa(same:α→α→Bool)(k:α)(l:List (α×Value×Nat)):Option Nat:=l.findIdx? (fun e=>same k e.1)
theorem Rn{mt kt et:TypeId}{z:Value}(K:Js mt kt et z enc same)(k:α)(l:List (α×Value×Nat))(W:World) :
  (Instr.findKey kt (enc k) (Aw enc l)).run Tryz.prog W=.ok ((Fa same k l).bind (fun j=>(l[j]?).map (fun e=>(j,e.2.1)))) W:=by
 obtain⟨fs,hfs⟩:=K.st;unfold Instr.findKey;simp only [Sem.run_bind,run_underlying hfs,Result.andThen_ok]
 cases l with
 | nil=>simp [Aw,Instr.findNow,Fa]
 | cons e l=>
  have e0:Aw enc (e::l)=⟨enc e.1,e.2.1,e.2.2⟩::Aw enc l:=rfl
  have h1:Instr.findNow (.struct fs) (enc k) (Aw enc (e::l)) 0=none:=by rw [e0];unfold Instr.findNow;have:Instr.sameNow (.struct fs) (enc k) (enc e.1)=none:=(by unfold Instr.sameNow;rfl);rw [this]
  rw [h1];have h2:=rE enc same K.eq k W (e::l) 0;simp only [Nat.zero_add]at h2;exact h2
def Fb(same:α→α→Bool)(z:Value)(k:α)(l:List (α×Value×Nat)):Value:=match l.find? (fun e=>same k e.1)with|some e=>e.2.1|none=>z
theorem zR{k:α}{l:List (α×Value×Nat)} : (Fa same k l).bind (fun j=>(l[j]?).map (fun e=>(j,e.2.1)))=(Fa same k l).bind (fun j=>(l.find? (fun e=>same k e.1)).map (fun e=>(j,e.2.1))):=by
 unfold Fa
 cases h:l.findIdx? (fun e=>same k e.1)with
 | none=>rfl
 | some j=>
  simp only [Option.bind_some];rw [List.findIdx?_eq_some_iff_getElem]at h;obtain⟨hj,h1,h2⟩:=h
  have h3:l.find? (fun e=>same k e.1)=some l[j]:=by rw [List.find?_eq_some_iff_getElem];exact⟨h1,j,hj,rfl,fun i hi=>by have:=h2 i hi;simpa using this⟩
  rw [h3,Anc hj]
theorem Qj{mt kt et:TypeId}{z:Value}(K:Js mt kt et z enc same)(k:α)(l:List (α×Value×Nat)){b clock:Nat}{W:World}(hb:W.heap[b]?=some (.map (Aw enc l).toArray clock)) :
  (Instr.lookup mt (.map (some b)) (enc k) false).run Tryz.prog W=.ok (Fb same z k l) W:=by
 have hf:=Rn K k l W;rw [zR]at hf;unfold Fb
 cases h:l.find? (fun e=>same k e.1)with
 | none=>
  rw [h]at hf
  have hf':(Instr.findKey kt (enc k) (Aw enc l)).run Tryz.prog W=.ok none W:=by rw [hf];cases Fa same k l<;>rfl
  simp [Instr.lookup,run_underlying K.map,MapKept.run_getObj_map hb,K.chk,hf',K.zero,Result.andThen]
 | some e=>
  have hi:(Fa same k l).isSome:=by unfold Fa;rw [List.findIdx?_isSome,List.any_eq_true];exact⟨e,List.mem_of_find?_eq_some h,(by have:=List.find?_some h;exact this)⟩
  obtain⟨j,hj⟩:=Option.isSome_iff_exists.1 hi;rw [h,hj]at hf;simp only [Option.bind_some,Option.map_some]at hf;simp [Instr.lookup,run_underlying K.map,MapKept.run_getObj_map hb,K.chk,hf,Result.andThen]
end
theorem PK:Js 132 94 33 (.slice none 0 0) Ak Ap where
 map:=Tryz.underlying132
 st:=⟨_,Tryz.underlying94⟩
 zero:=fun W=>by simp [go_sem]
 eq:=qI
 chk:=nO
 iff:=Cx
 bits:=fun x=>by unfold Ak;simp [Instr.sameBits,beq_toListBytes]
theorem Wh:Js 131 155 3 (.int .i64 0) As AK where
 map:=Tryz.underlying131
 st:=⟨_,Tryz.underlying155⟩
 zero:=fun W=>by simp [go_sem]
 eq:=qJ
 chk:=nP
 iff:=Iq
 bits:=fun x=>by unfold As;simp [Instr.sameBits,beq_toListBytes]
section
open Go.ChangeMaps (setBlock)
theorem Ls{w:World}{b:Nat}{o o':Obj}(h:w.heap[b]?=some o'):(setBlock w b o).heap[b]?=some o:=by
 have hlt:=(Array.getElem?_eq_some_iff.1 h).1;show (w.heap.setIfInBounds b o)[b]?=some o;rw [Array.getElem?_setIfInBounds_self];simp [hlt]
theorem Ts{w:World}{b k:Nat}{o:Obj}(h:k≠b):(setBlock w b o).heap[k]?=w.heap[k]?:=by
 show (w.heap.setIfInBounds b o)[k]?=w.heap[k]?;rw [Array.getElem?_setIfInBounds_ne (by omega)]
theorem iR{w:World}{b:Nat}{o:Obj}(h:w.heap[b]?=some o):setBlock w b o=w:=by
 have hlt:=(Array.getElem?_eq_some_iff.1 h).1
 have e:w.heap.setIfInBounds b o=w.heap:=by
  apply Array.ext_getElem?;intro i;by_cases hi:i=b
  ·subst hi;rw [Array.getElem?_setIfInBounds_self];simp [hlt]at *;exact h.symm
  ·rw [Array.getElem?_setIfInBounds_ne (by omega)]
 unfold setBlock;rw [e]
section
variable {α : Type} {enc : α → Value} {same : α → α → Bool}
theorem iM{mt kt et:TypeId}{z:Value}(K:Js mt kt et z enc same)(k:α)(l:List (α×Value×Nat))(hno:∀e∈l,same k e.1=false){b clock:Nat}{W:World}(hb:W.heap[b]?=some (.map (Aw enc l).toArray clock)) :
  (Instr.mapEntry mt (.map (some b)) (enc k)).run Tryz.prog W=.ok (.tuple #[z,.int .i64 (clock:Nat)]) (setBlock W b (.map (Aw enc (l ++ [(k,z,clock)])).toArray (clock+1))):=by
 have hf:=Rn K k l W
 have hi:Fa same k l=none:=by unfold Fa;rw [List.findIdx?_eq_none_iff];exact hno
 rw [hi]at hf;simp only [Option.bind_none]at hf
 have e0:Aw enc l ++ [{key:=enc k,val:=z,born:=clock}]=Aw enc (l ++ [(k,z,clock)]):=by simp [Aw]
 simp [Instr.mapEntry,run_underlying K.map,MapKept.run_getObj_map hb,K.chk,hf,K.zero,MapKept.run_setObj_map _ hb,Result.andThen,setBlock,e0,goInt]
theorem AiW{mt kt et:TypeId}{z:Value}(K:Js mt kt et z enc same)(k:α)(l:List (α×Value×Nat)){j:Nat}(hj:j<l.length)(hno:∀e∈l.take j,same k e.1=false)(hk:l[j].1=k){b clock:Nat}{W:World}(hb:W.heap[b]?=some (.map (Aw enc l).toArray clock)) :
  (Instr.mapEntry mt (.map (some b)) (enc k)).run Tryz.prog W=.ok (.tuple #[l[j].2.1,.int .i64 (l[j].2.2:Nat)]) W:=by
 have hf:=Rn K k l W
 have hi:Fa same k l=some j:=by unfold Fa;rw [List.findIdx?_eq_some_iff_getElem];refine⟨hj,by rw [hk];exact K.iff.2 rfl,fun i Bf=>?_⟩;rw [Bool.not_eq_true];refine hno l[i] ?_;rw [List.mem_take_iff_getElem];exact⟨i,by omega,rfl⟩
 rw [hi]at hf;simp only [Option.bind_some,Anc hj,Option.map_some]at hf
 have Ea:(Aw enc l)[j]?=some ⟨enc k,l[j].2.1,l[j].2.2⟩:=by simp [Aw,Anc hj,hk]
 have hst:(Instr.keyThatStays (enc k) (enc k)).run Tryz.prog W=.ok (enc k) W:=by simp [Instr.keyThatStays,K.bits]
 have hmod:(Aw enc l).modify j (fun e=>{e with key:=enc k})=Aw enc l:=by
  apply List.ext_getElem?;intro i;rw [List.getElem?_modify];by_cases Bf:j=i
  ·subst Bf;rw [Ea];simp
  ·simp [Bf]
 have AX:(setBlock W b (.map (Aw enc l).toArray clock))=W:=iR hb;unfold setBlock at AX;simp [Instr.mapEntry,run_underlying K.map,MapKept.run_getObj_map hb,K.chk,hf,Ea,hst,MapKept.run_setObj_map _ hb,Result.andThen,goInt];rw [hmod];exact AX
theorem ky(mt:TypeId)(l:List (α×Value×Nat)){j:Nat}(hj:j<l.length)(hno:∀e∈l.take j,e.2.2≠l[j].2.2)(v:Value){b clock:Nat}{W:World}(hb:W.heap[b]?=some (.map (Aw enc l).toArray clock)) :
  (Instr.entryStore mt (.map (some b)) (.int .i64 (l[j].2.2:Nat)) v).run Tryz.prog W=.ok () (setBlock W b (.map (Aw enc (l.set j (l[j].1,v,l[j].2.2))).toArray clock)):=by
 have hf:(Aw enc l).findIdx? (fun e=>(e.born:Int) == (l[j].2.2:Int))=some j:=by rw [List.findIdx?_eq_some_iff_getElem];refine⟨by simp [Aw];exact hj,by simp [Aw],fun i Bf=>?_⟩;have:=hno l[i] (by rw [List.mem_take_iff_getElem];exact⟨i,by omega,rfl⟩);simp [Aw];omega
 have e0:(Aw enc l).modify j (fun e=>{e with val:=v})=Aw enc (l.set j (l[j].1,v,l[j].2.2)):=by
  apply List.ext_getElem?;intro i;rw [List.getElem?_modify];by_cases Bf:j=i
  ·subst Bf;simp [Aw,hj]
  ·simp [Bf,Aw,List.getElem?_set_ne Bf]
 simp [Instr.entryStore,MapKept.run_getObj_map hb,asInt,asIntOf,hf,MapKept.run_setObj_map _ hb,Result.andThen,setBlock,e0]
end
end
section
open Go.ChangeMaps (setBlock)
def AP(s:Sg):Sg:=⟨s.b,s.a⟩
theorem Uk(s:Sg)(w:World):Calls Tryz.prog 104 #[As s] w (CU (As (AP s)) w):=by
 have hE:=((Aa.refl w).alloc (.cells #[S (R s.a.x),S (R s.a.y),S (R s.b.x),S (R s.b.y)] 155)).alloc (.cells #[S [],S [],S [],S []] 155);have hb1:=(Below.heap_alloc (w.alloc (.cells #[S (R s.a.x),S (R s.a.y),S (R s.b.x),S (R s.b.y)] 155)) (.cells #[S [],S [],S [],S []] 155) w.heap.size (by simp)).trans (AmW w (.cells #[S (R s.a.x),S (R s.a.y),S (R s.b.x),S (R s.b.y)] 155));have hb2:=AmW (w.alloc (.cells #[S (R s.a.x),S (R s.a.y),S (R s.b.x),S (R s.b.y)] 155)) (.cells #[S [],S [],S [],S []] 155);rw [Anf]at hb2;unfold AP As;go_enter Tryz.func104,Tryz.ntmps104
 go_upto_region 1 with fail
 rw [show (⟨#[]⟩:ByteArray)=⟨([]:Bs).toArray⟩from rfl];generalize (w.alloc (.cells #[S (R s.a.x),S (R s.a.y),S (R s.b.x),S (R s.b.y)] 155)).alloc (.cells #[S [],S [],S [],S []] 155)=V at *;obtain⟨bb,Bl⟩:=AmT w.heap.size;have hle:w.heap.size<=bb+1:=(by omega);rw [←Bl]at hb1 hb2 ⊢;clear Bl;have k1:=Ab (o:=0) hb1 rfl;have k2:=Ab (o:=1) hb1 rfl;have k3:=Ab (o:=2) hb1 rfl;have k4:=Ab (o:=3) hb1 rfl;have y0:=AU (o:=0) hb2;have y1:=AU (o:=1) hb2;have y2:=AU (o:=2) hb2;have y3:=AU (o:=3) hb2;have z0:=Ab (o:=0) hb2 rfl;have z1:=Ab (o:=1) hb2 rfl;have z2:=Ab (o:=2) hb2 rfl;have z3:=Ab (o:=3) hb2 rfl;have hq:=OG (S (R s.b.x)) (S (R s.b.y)) (S (R s.a.x)) (S (R s.a.y)) hb2;have q0:=Ab (o:=0) hq rfl;have q1:=Ab (o:=1) hq rfl;have q2:=Ab (o:=2) hq rfl;have q3:=Ab (o:=3) hq rfl;clear hq hb1 hb2;go_wp2;refine bodyPost_ret (v:=.agg #[S (R s.b.x),S (R s.b.y),S (R s.a.x),S (R s.a.y)]) (by simp [results,Tryz.results104,go_sem,q0,q1,q2,q3]) rfl ?_;exact⟨rfl,(((hE.setCell (p:=⟨bb+1,0,none⟩) hle _).setCell (p:=⟨bb+1,1,none⟩) hle _).setCell (p:=⟨bb+1,2,none⟩) hle _).setCell (p:=⟨bb+1,3,none⟩) hle _⟩
def Ns(w:World):World:=((w.alloc (.map #[] 0)).alloc (.map #[] 0)).alloc (.cells #[.map (some w.heap.size),.map (some (w.heap.size+1))] 134)
theorem qC(w:World):Calls Tryz.prog 106 #[] w (fun e w'=>e=.returned (.pointer (some ⟨w.heap.size+1+1,0,none⟩))/\w'=Ns w):=by
 have hmm:=@run_makeMap Tryz.prog;go_enter Tryz.func106,Tryz.ntmps106;go_wp2;go_ret;exact⟨rfl,rfl⟩
end
end Go.Proofs.YtbejphgbbpplbaaGreatDoor
