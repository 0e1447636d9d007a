/- Z24: H4 S1 S2 Rg S3. -/
import Derived.Test.YtdaefncphfeaeaaGreatDoorZ23
set_option maxRecDepth 100000
set_option maxHeartbeats 16000000
namespace Go.Proofs.YtdaefncphfeaeaaGreatDoor
open Go.RowKit Kl
theorem Z0(x y:Int)(b o:Nat)(w:World)(h1:w.cell? ⟨b,o,none⟩=some (.int .i64 x))(h2:w.cell? ⟨b,o+1,none⟩=some (.int .i64 y)) :
  Calls Tryz.prog 176 #[.slice (some ⟨b,o,none⟩) 2 2] w (AQ (if x≠0 then x else y) w):=by
 obtain⟨r,hr⟩:=AcG (if x≠0 then x else y);rw [←hr];have HR:=Asb hr;clear hr;go_enter Tryz.func176,Tryz.ntmps176;go_wp2
 go_loopw [8] (fun i wr=>∃j:Nat,i=.int .i64 (j:Nat)/\j<=2/\(1<=j→x=0)/\(2<=j→y=0)/\wr=w) (fun i _=>2-(intOf i).toNat)
 case atStart=>exact⟨0,rfl,by omega,by omega,by omega,rfl⟩
 case round=>
  obtain⟨j,rfl,hj,hx,hy,rfl⟩:=hrel;by_cases j0:j=0
  ·subst j0;by_cases hx0:x=0
   ·have t:(x != 0)=false:=(by rw [hx0];rfl);have HX:=Asb hx0;clear hx hy hx0;go_wp2;go_roundw
    case rel=>exact⟨1,rfl,by omega,fun _=>HX.out,by omega,by trivial⟩
    case measure=>simp [intOf]
   ·have t:(x != 0)=true:=(by rw [bne_iff_ne];exact hx0);have Mj:r=x:=(by rw [HR.out,if_pos hx0]);subst Mj;clear hx hy hx0;go_wp2;go_ret;exact⟨rfl,Aa.refl _⟩
  ·by_cases j1:j=1
   ·subst j1;have hx0:x=0:=hx (by omega);have YK:r=y:=(by rw [HR.out,if_neg (by omega)]);subst YK;have HX:=Asb hx0;by_cases Ba:r=0
    ·have t:(r != 0)=false:=(by rw [Ba];rfl);have HY:=Asb Ba;clear hx hy hx0 Ba j0;go_wp2;go_roundw
     case rel=>exact⟨2,rfl,by omega,fun _=>HX.out,fun _=>HY.out,by trivial⟩
     case measure=>simp [intOf]
    ·have t:(r != 0)=true:=(by rw [bne_iff_ne];exact Ba);clear hx hy hx0 Ba j0;go_wp2;go_ret;exact⟨rfl,Aa.refl _⟩
   ·have j2:j=2:=(by omega);subst j2;have hx0:x=0:=hx (by omega);have Ba:y=0:=hy (by omega);have hr0:r=0:=(by rw [HR.out,if_neg (by omega),Ba]);subst hr0;clear hx hy hx0 Ba j0 j1;go_wp2;go_ret;exact⟨rfl,Aa.refl _⟩
theorem Xf(a b:Pt){k:Nat}(ha:Aq k a)(hb:Aq k b)(hk:0<k)(hk2:k<=400)(w:World)(hw:Ai w) :
  Calls Tryz.prog 92 #[Ak a,Ak b] w (AQ (Bp a b) w):=by
 have c1:=CJ a.x b.x (a:=k) (b:=k) ⟨ha.x,hb.x,hk,hk,by omega⟩;have c2:=CJ a.y b.y (a:=k) (b:=k) ⟨ha.y,hb.y,hk,hk,by omega⟩;have hE:=((Aa.refl w).alloc (.cells #[S (R a.x),S (R a.y)] 35)).alloc (.cells #[S (R b.x),S (R b.y)] 35);obtain⟨x,hx0⟩:=AcG (AD a.x b.x);obtain⟨y,Ba⟩:=AcG (AD a.y b.y)
 have hr:Bp a b=if x≠0 then x else y:=by rw [hx0,Ba];rfl
 rw [hr];rw [←hx0]at c1;rw [←Ba]at c2
 have hA:(w.alloc (.cells #[S (R a.x),S (R a.y)] 35)).alloc (.cells #[S (R b.x),S (R b.y)] 35) |>.heap[w.heap.size]?=some (.cells #[S (R a.x),S (R a.y)] 35):=(Below.heap_alloc _ _ _ (by simp)).trans (Ase w _)
 have hB:=Ase (w.alloc (.cells #[S (R a.x),S (R a.y)] 35)) (.cells #[S (R b.x),S (R b.y)] 35);rw [Asn]at hB;obtain⟨r,EZ⟩:=AcG (if x≠0 then x else y:Int);have HRE:=Asb EZ;rw [←EZ];unfold Ak
 have PC:∀(b o:Nat) (w:World),w.cell? ⟨b,o,none⟩=some (.int .i64 x)→w.cell? ⟨b,o+1,none⟩=some (.int .i64 y)→Calls Tryz.prog 176 #[.slice (some ⟨b,o,none⟩) 2 2] w (AQ r w):=by intro b o w h1 h2;rw [EZ];exact Z0 x y b o w h1 h2
 clear ha hb hr hx0 Ba EZ;go_enter Tryz.func92,Tryz.ntmps92
 go_upto_region 1 with fail
 generalize (w.alloc (.cells #[S (R a.x),S (R a.y)] 35)).alloc (.cells #[S (R b.x),S (R b.y)] 35)=V at *;have hs:=hE.size;obtain⟨ba,Bj⟩:=AcG w.heap.size;rw [←Bj]at hA hB ⊢;clear Bj hs;have k1:=Ab (o:=0) hA rfl;have k2:=Ab (o:=1) hA rfl;have k3:=Ab (o:=0) hB rfl;have k4:=Ab (o:=1) hB rfl;have hV:=hw.ext hE;clear hA hB
 go_region_held3 (fun w'=>w'.cell? ⟨ba,0,none⟩=some (S (R a.x))/\w'.cell? ⟨ba,1,none⟩=some (S (R a.y))/\w'.cell? ⟨ba+1,0,none⟩=some (S (R b.x))/\w'.cell? ⟨ba+1,1,none⟩=some (S (R b.y)))
  (go_keep)
  (first|((with_reducible refine(c1 _ (hV.ext (Aa.refl V).drew)).mono ?_);rintro e w5 ⟨rfl,Ae⟩;have X5:Aa V w5:=(Aa.refl V).drew.trans Ae;have d1:=X5.cellS k1;have d2:=X5.cellS k2;have d3:=X5.cellS k3;have d4:=X5.cellS k4)|((with_reducible refine(c2 _ (hV.ext X5)).mono ?_);rintro e w6 ⟨rfl,Ao⟩;have X6:Aa V w6:=X5.trans Ao;have f1:=X6.cellS k1;have f2:=X6.cellS k2;have f3:=X6.cellS k3;have f4:=X6.cellS k4)|((with_reducible refine(PC w6.heap.size 0 (w6.alloc (.cells #[.int .i64 x,.int .i64 y] 3)) (Ab (o:=0) (Ase w6 _) rfl) (Ab (o:=1) (Ase w6 _) rfl)).mono ?_);rintro e w7 ⟨rfl,Aj⟩;have X7:Aa V w7:=(X6.alloc _).trans Aj;have g1:=X7.cellS k1;have g2:=X7.cellS k2;have g3:=X7.cellS k3;have g4:=X7.cellS k4))
 go_wp2;go_ret;exact⟨rfl,hE.trans X7⟩
theorem Oe(a b:Pt){k:Nat}(ha:Aq k a)(hb:Aq k b)(hk:0<k)(hk2:k<=400)(w:World)(hw:Ai w) :
  Calls Tryz.prog 189 #[Ak a,Ak b] w (AQ (Bp a b) w):=by
 have c1:=CJ a.x b.x (a:=k) (b:=k) ⟨ha.x,hb.x,hk,hk,by omega⟩;have c2:=CJ a.y b.y (a:=k) (b:=k) ⟨ha.y,hb.y,hk,hk,by omega⟩;have hE:=((Aa.refl w).alloc (.cells #[S (R a.x),S (R a.y)] 35)).alloc (.cells #[S (R b.x),S (R b.y)] 35);obtain⟨x,hx0⟩:=AcG (AD a.x b.x);obtain⟨y,Ba⟩:=AcG (AD a.y b.y)
 have hr:Bp a b=if x≠0 then x else y:=by rw [hx0,Ba];rfl
 rw [hr];rw [←hx0]at c1;rw [←Ba]at c2
 have hA:(w.alloc (.cells #[S (R a.x),S (R a.y)] 35)).alloc (.cells #[S (R b.x),S (R b.y)] 35) |>.heap[w.heap.size]?=some (.cells #[S (R a.x),S (R a.y)] 35):=(Below.heap_alloc _ _ _ (by simp)).trans (Ase w _)
 have hB:=Ase (w.alloc (.cells #[S (R a.x),S (R a.y)] 35)) (.cells #[S (R b.x),S (R b.y)] 35);rw [Asn]at hB;obtain⟨r,EZ⟩:=AcG (if x≠0 then x else y:Int);have HRE:=Asb EZ;rw [←EZ];unfold Ak
 have PC:∀(b o:Nat) (w:World),w.cell? ⟨b,o,none⟩=some (.int .i64 x)→w.cell? ⟨b,o+1,none⟩=some (.int .i64 y)→Calls Tryz.prog 176 #[.slice (some ⟨b,o,none⟩) 2 2] w (AQ r w):=by intro b o w h1 h2;rw [EZ];exact Z0 x y b o w h1 h2
 clear ha hb hr hx0 Ba EZ;go_enter Tryz.func189,Tryz.ntmps189
 go_upto_region 1 with fail
 generalize (w.alloc (.cells #[S (R a.x),S (R a.y)] 35)).alloc (.cells #[S (R b.x),S (R b.y)] 35)=V at *;have hs:=hE.size;obtain⟨ba,Bj⟩:=AcG w.heap.size;rw [←Bj]at hA hB ⊢;clear Bj hs;have k1:=Ab (o:=0) hA rfl;have k2:=Ab (o:=1) hA rfl;have k3:=Ab (o:=0) hB rfl;have k4:=Ab (o:=1) hB rfl;have hV:=hw.ext hE;clear hA hB
 go_region_held3 (fun w'=>w'.cell? ⟨ba,0,none⟩=some (S (R a.x))/\w'.cell? ⟨ba,1,none⟩=some (S (R a.y))/\w'.cell? ⟨ba+1,0,none⟩=some (S (R b.x))/\w'.cell? ⟨ba+1,1,none⟩=some (S (R b.y)))
  (go_keep)
  (first|((with_reducible refine(c1 _ (hV.ext (Aa.refl V).drew)).mono ?_);rintro e w5 ⟨rfl,Ae⟩;have X5:Aa V w5:=(Aa.refl V).drew.trans Ae;have d1:=X5.cellS k1;have d2:=X5.cellS k2;have d3:=X5.cellS k3;have d4:=X5.cellS k4)|((with_reducible refine(c2 _ (hV.ext X5)).mono ?_);rintro e w6 ⟨rfl,Ao⟩;have X6:Aa V w6:=X5.trans Ao;have f1:=X6.cellS k1;have f2:=X6.cellS k2;have f3:=X6.cellS k3;have f4:=X6.cellS k4)|((with_reducible refine(PC w6.heap.size 0 (w6.alloc (.cells #[.int .i64 x,.int .i64 y] 3)) (Ab (o:=0) (Ase w6 _) rfl) (Ab (o:=1) (Ase w6 _) rfl)).mono ?_);rintro e w7 ⟨rfl,Aj⟩;have X7:Aa V w7:=(X6.alloc _).trans Aj;have g1:=X7.cellS k1;have g2:=X7.cellS k2;have g3:=X7.cellS k3;have g4:=X7.cellS k4))
 go_wp2;go_ret;exact⟨rfl,hE.trans X7⟩
theorem zw(a b c:Pt){k:Nat}(ha:Aq k a)(hb:Aq k b)(hc:Aq k c)(hk:0<k)(hk2:k<=400)(w:World)(hw:Ai w) :
  Calls Tryz.prog 190 #[Ak a,Ak b,Ak c] w (A0 (R (Aw a b c)) w):=by
 have s1:=BS b.x a.x (a:=k) (b:=k) ⟨hb.x,ha.x,hk,hk,by omega⟩;have s2:=BS b.y a.y (a:=k) (b:=k) ⟨hb.y,ha.y,hk,hk,by omega⟩;have s3:=BS c.x a.x (a:=k) (b:=k) ⟨hc.x,ha.x,hk,hk,by omega⟩;have s4:=BS c.y a.y (a:=k) (b:=k) ⟨hc.y,ha.y,hk,hk,by omega⟩;have m1:=Io (b.x-a.x) (c.y-a.y) (a:=k+k+1) (b:=k+k+1) ⟨hb.x.sub ha.x,hc.y.sub ha.y,by omega,by omega,by omega⟩;have m2:=Io (b.y-a.y) (c.x-a.x) (a:=k+k+1) (b:=k+k+1) ⟨hb.y.sub ha.y,hc.x.sub ha.x,by omega,by omega,by omega⟩;have sb:=BS ((b.x-a.x)*(c.y-a.y)) ((b.y-a.y)*(c.x-a.x)) (a:=k+k+1+(k+k+1)) (b:=k+k+1+(k+k+1)) ⟨(hb.x.sub ha.x).mul (hc.y.sub ha.y),(hb.y.sub ha.y).mul (hc.x.sub ha.x),by omega,by omega,by omega⟩;have e:Aw a b c=(b.x-a.x)*(c.y-a.y)-(b.y-a.y)*(c.x-a.x):=rfl;rw [←e]at sb;obtain⟨r,hr⟩:=AcG (Aw a b c);rw [←hr]at sb ⊢;unfold Ak;clear ha hb hc e hr;go_enter Tryz.func190,Tryz.ntmps190;(go_wp2_with fail);obtain⟨W,hW,hE,hb1,hb2,hb3⟩:=G9 w (.cells #[S (R a.x),S (R a.y)] 35) (.cells #[S (R b.x),S (R b.y)] 35) (.cells #[S (R c.x),S (R c.y)] 35);rw [←hW];clear hW
 have SO:∀w',Aa W w'→(w'.cell? ⟨w.heap.size,0,none⟩=some (S (R a.x))/\w'.cell? ⟨w.heap.size,1,none⟩=some (S (R a.y))/\w'.cell? ⟨w.heap.size+1,0,none⟩=some (S (R b.x))/\w'.cell? ⟨w.heap.size+1,1,none⟩=some (S (R b.y))/\w'.cell? ⟨w.heap.size+1+1,0,none⟩=some (S (R c.x))/\w'.cell? ⟨w.heap.size+1+1,1,none⟩=some (S (R c.y))):=fun w' h=>⟨h.cellS (Ab hb1 rfl),h.cellS (Ab hb1 rfl),h.cellS (Ab hb2 rfl),h.cellS (Ab hb2 rfl),h.cellS (Ab hb3 rfl),h.cellS (Ab hb3 rfl)⟩
 have Dm:=hw.ext hE;have X:Aa W W:=Aa.refl W;clear hb1 hb2 hb3
 go_region_held3 (fun w'=>w'.cell? ⟨w.heap.size,0,none⟩=some (S (R a.x))/\w'.cell? ⟨w.heap.size,1,none⟩=some (S (R a.y))/\w'.cell? ⟨w.heap.size+1,0,none⟩=some (S (R b.x))/\w'.cell? ⟨w.heap.size+1,1,none⟩=some (S (R b.y))/\w'.cell? ⟨w.heap.size+1+1,0,none⟩=some (S (R c.x))/\w'.cell? ⟨w.heap.size+1+1,1,none⟩=some (S (R c.y)))
  (first|with_reducible exact SO _ X|with_reducible exact SO _ X.drew)
  (first|((with_reducible refine(s1 _ (Dm.ext (by first|exact X|exact X.drew))).mono ?_);rintro e w1 ⟨rfl,hx1⟩;replace X:Aa W w1:=(by first|exact X.trans hx1|exact X.drew.trans hx1))|((with_reducible refine(s2 _ (Dm.ext (by first|exact X|exact X.drew))).mono ?_);rintro e w1 ⟨rfl,hx1⟩;replace X:Aa W w1:=(by first|exact X.trans hx1|exact X.drew.trans hx1))|((with_reducible refine(s3 _ (Dm.ext (by first|exact X|exact X.drew))).mono ?_);rintro e w1 ⟨rfl,hx1⟩;replace X:Aa W w1:=(by first|exact X.trans hx1|exact X.drew.trans hx1))|((with_reducible refine(s4 _ (Dm.ext (by first|exact X|exact X.drew))).mono ?_);rintro e w1 ⟨rfl,hx1⟩;replace X:Aa W w1:=(by first|exact X.trans hx1|exact X.drew.trans hx1))|((with_reducible refine(m1 _ (Dm.ext (by first|exact X|exact X.drew))).mono ?_);rintro e w1 ⟨rfl,hx1⟩;replace X:Aa W w1:=(by first|exact X.trans hx1|exact X.drew.trans hx1))|((with_reducible refine(m2 _ (Dm.ext (by first|exact X|exact X.drew))).mono ?_);rintro e w1 ⟨rfl,hx1⟩;replace X:Aa W w1:=(by first|exact X.trans hx1|exact X.drew.trans hx1))|((with_reducible refine(sb _ (Dm.ext (by first|exact X|exact X.drew))).mono ?_);rintro e w1 ⟨rfl,hx1⟩;replace X:Aa W w1:=(by first|exact X.trans hx1|exact X.drew.trans hx1)))
 go_wp2;go_ret;exact⟨rfl,hE.trans X⟩
theorem Oi(a b c:Pt){k:Nat}(ha:Aq k a)(hb:Aq k b)(hc:Aq k c)(hk:0<k)(hk2:k<=400)(w:World)(hw:Ai w) :
  Calls Tryz.prog 119 #[Ak a,Ak b,Ak c] w (AQ (AN (Aw a b c)) w):=by
 have ar:=zw a b c ha hb hc hk hk2;have sg:=Lo (Aw a b c);have hE:=(((Aa.refl w).alloc (.cells #[S (R a.x),S (R a.y)] 35)).alloc (.cells #[S (R b.x),S (R b.y)] 35)).alloc (.cells #[S (R c.x),S (R c.y)] 35);unfold Ak at ar ⊢;clear ha hb hc;go_enter Tryz.func119,Tryz.ntmps119;(go_wp2_with fail);(with_reducible refine(ar _ (hw.ext hE)).mono ?_);rintro e w1 ⟨rfl,hx⟩;(go_wp2_with fail);(with_reducible refine(sg _).mono ?_);rintro e w2 ⟨rfl,hx2⟩;go_wp2;go_ret;exact⟨rfl,hE.trans (hx.trans hx2)⟩
def Kj(y x:Int):Int:=if 0<y then 0 else if y=0 then (if 0<x then 0 else 1)else 1
def Cg(p q:Pt):Int:=Kj (AD q.y p.y) (AD q.x p.x)
theorem AkI{y x:Int}(h:0<y):Kj y x=0:=if_pos h
theorem AkJ{y x:Int}(h:y=0)(hx:0<x):Kj y x=0:=by unfold Kj;rw [if_neg (by omega),if_pos h,if_pos hx]
theorem AkK{y x:Int}(h:y=0)(hx:¬0<x):Kj y x=1:=by unfold Kj;rw [if_neg (by omega),if_pos h,if_neg hx]
theorem AkL{y x:Int}(h:y<0):Kj y x=1:=by unfold Kj;rw [if_neg (by omega),if_neg (by omega)]
theorem Aai(p q:Pt){k:Nat}(hp:Aq k p)(hq:Aq k q)(hk:0<k)(hk2:k<=400)(w:World)(hw:Ai w) :
  Calls Tryz.prog 194 #[Ak p,Ak q] w (AQ (Cg p q) w):=by
 have c1:=CJ q.y p.y (a:=k) (b:=k) ⟨hq.y,hp.y,hk,hk,by omega⟩;have c2:=CJ q.x p.x (a:=k) (b:=k) ⟨hq.x,hp.x,hk,hk,by omega⟩;unfold Cg;generalize AD q.y p.y=y at *;generalize AD q.x p.x=x at *;have hb1:=(Below.heap_alloc (w.alloc (.cells #[S (R p.x),S (R p.y)] 35)) (.cells #[S (R q.x),S (R q.y)] 35) w.heap.size (by simp)).trans (Ase w (.cells #[S (R p.x),S (R p.y)] 35));have hb2:=Ase (w.alloc (.cells #[S (R p.x),S (R p.y)] 35)) (.cells #[S (R q.x),S (R q.y)] 35);rw [Asn]at hb2;have hE:=((Aa.refl w).alloc (.cells #[S (R p.x),S (R p.y)] 35)).alloc (.cells #[S (R q.x),S (R q.y)] 35);unfold Ak;clear hp hq;obtain⟨r,hr⟩:=AcG (Kj y x);rw [←hr];have HR:=Asb hr;clear hr;go_enter Tryz.func194,Tryz.ntmps194
 go_upto_region 1 with fail
 generalize (w.alloc (.cells #[S (R p.x),S (R p.y)] 35)).alloc (.cells #[S (R q.x),S (R q.y)] 35)=V at *;obtain⟨ba,Bj⟩:=AcG w.heap.size;rw [←Bj]at hb1 hb2 ⊢;clear Bj;have k1:=Ab (o:=0) hb1 rfl;have k2:=Ab (o:=1) hb1 rfl;have k3:=Ab (o:=0) hb2 rfl;have k4:=Ab (o:=1) hb2 rfl;clear hb1 hb2;(go_wp2_with fail);(with_reducible refine(c1 _ (hw.ext hE)).mono ?_);rintro e w1 ⟨rfl,hx1⟩;have j1:=hx1.cellS k1;have j2:=hx1.cellS k2;have j3:=hx1.cellS k3;have j4:=hx1.cellS k4;replace hE:=hE.trans hx1;clear k1 k2 k3 k4 hx1;by_cases y1:0<y
 ·have e0:r=0:=(by rw [HR.out,AkI y1]);subst e0;have d1:decide (0<y)=true:=decide_eq_true y1;clear c2 c1;go_wp2;go_ret;exact⟨rfl,hE⟩
 ·by_cases y0:y=0
  ·subst y0;by_cases x1:0<x
   ·have e0:r=0:=(by rw [HR.out,AkJ rfl x1]);subst e0;have d1:decide (0<x)=true:=decide_eq_true x1;clear c1 y1;(go_wp2_with fail);(with_reducible refine(c2 _ (hw.ext hE)).mono ?_);rintro e w2 ⟨rfl,hx2⟩;go_wp2;go_ret;exact⟨rfl,hE.trans hx2⟩
   ·have e0:r=1:=(by rw [HR.out,AkK rfl x1]);subst e0;have d1:decide (0<x)=false:=decide_eq_false x1;have x2:x<=0:=(by omega);clear c1 y1 x1;(go_wp2_with fail);(with_reducible refine(c2 _ (hw.ext hE)).mono ?_);rintro e w2 ⟨rfl,hx2⟩;go_wp2;go_ret;exact⟨rfl,hE.trans hx2⟩
  ·have e0:r=1:=(by rw [HR.out,AkL (by omega)]);subst e0;have d1:decide (0<y)=false:=decide_eq_false y1;have d2:decide (y=0)=false:=decide_eq_false y0;have d3:(y == 0)=false:=(by rw [beq_eq_false_iff_ne];exact y0);have y2:y<0:=(by omega);clear c2 c1 y1;go_wp2;go_ret;exact⟨rfl,hE⟩
def Lj(u v t:Int):Bool:=decide (u<=0)&&(decide (v<=0)&&decide (t=0))
def Ob(a b p:Pt):Bool:=Lj (Bp a p) (Bp p b) (AN (Aw a b p))
def PD(a b p:Pt):Bool:=if 0<Bp a b then Ob b a p else Ob a b p
theorem Amk(a b p:Pt){k:Nat}(ha:Aq k a)(hb:Aq k b)(hp:Aq k p)(hk:0<k)(hk2:k<=400)(hz:¬0<Bp a b)(w:World)(hw:Ai w) :
  Calls Tryz.prog 118 #[Ak a,Ak b,Ak p] w (Dq (Ob a b p) w):=by
 have c0:=Oe a b ha hb hk hk2;have c1:=Oe a p ha hp hk hk2;have c2:=Oe p b hp hb hk hk2;have c3:=Oi a b p ha hb hp hk hk2;unfold Ob;generalize Bp a b=z at *;generalize Bp a p=u at *;generalize Bp p b=v at *;generalize AN (Aw a b p)=t at *;obtain⟨W,hW,hE,hb1,hb2,hb3⟩:=G9 w (.cells #[S (R a.x),S (R a.y)] 35) (.cells #[S (R b.x),S (R b.y)] 35) (.cells #[S (R p.x),S (R p.y)] 35);obtain⟨r,hr⟩:=AcG (Lj u v t);rw [←hr];have HR:=Asb hr;unfold Ak at c0 c1 c2 c3 ⊢;clear ha hb hp hr;go_enter Tryz.func118,Tryz.ntmps118
 go_upto_region 1 with fail
 rw [←hW];clear hW;obtain⟨ba,Bj⟩:=AcG w.heap.size;have hle:w.heap.size<=ba:=(by omega);rw [←Bj]at hb1 hb2 hb3 ⊢;clear Bj;have k1:=Ab (o:=0) hb1 rfl;have k2:=Ab (o:=1) hb1 rfl;have k3:=Ab (o:=0) hb2 rfl;have k4:=Ab (o:=1) hb2 rfl;(go_wp2_with fail);(with_reducible refine(c0 _ (hw.ext hE)).mono ?_);rintro e w1 ⟨rfl,hx1⟩;replace hb1:=(hx1.block _ (Asd hb1)).trans hb1;replace hb2:=(hx1.block _ (Asd hb2)).trans hb2;replace hb3:=(hx1.block _ (Asd hb3)).trans hb3;replace hE:=hE.trans hx1;clear k1 k2 k3 k4 hx1 c0;have dz:decide (0<z)=false:=decide_eq_false (by omega);have hz':z<=0:=(by omega);clear hz
 go_upto_region 3 with fail
 have C9:=hE;have n1:=hb1;have n2:=hb2;have n3:=hb3;obtain⟨V,hV⟩:=AcG w1;rw [←hV]at C9 n1 n2 n3 ⊢;clear hV hb1 hb2 hb3 hE dz;have k1:=Ab (o:=0) n1 rfl;have k2:=Ab (o:=1) n1 rfl;have k3:=Ab (o:=0) n2 rfl;have k4:=Ab (o:=1) n2 rfl;have k5:=Ab (o:=0) n3 rfl;have k6:=Ab (o:=1) n3 rfl;clear n1 n2 n3;(go_wp2_with fail);(with_reducible refine(c1 _ (hw.ext C9)).mono ?_);rintro e w2 ⟨rfl,hx2⟩;have j1:=hx2.cellS k1;have j2:=hx2.cellS k2;have j3:=hx2.cellS k3;have j4:=hx2.cellS k4;have j5:=hx2.cellS k5;have j6:=hx2.cellS k6;replace C9:=C9.trans hx2;clear k1 k2 k3 k4 k5 k6 hx2 c1;by_cases hu:u<=0
 ·have du:decide (u<=0)=true:=decide_eq_true hu;(go_wp2_with fail);(with_reducible refine(c2 _ (hw.ext C9)).mono ?_);rintro e w3 ⟨rfl,hx3⟩;have i1:=hx3.cellS j1;have i2:=hx3.cellS j2;have i3:=hx3.cellS j3;have i4:=hx3.cellS j4;have i5:=hx3.cellS j5;have i6:=hx3.cellS j6;replace C9:=C9.trans hx3;clear j1 j2 j3 j4 j5 j6 hx3 c2;by_cases hv:v<=0
  ·have dv:decide (v<=0)=true:=decide_eq_true hv;have hrt:r=decide (t=0):=(by rw [HR.out];unfold Lj;rw [du,dv];rfl);have PX:=Asb hrt;clear hrt;(go_wp2_with fail);(with_reducible refine(c3 _ (hw.ext C9)).mono ?_);rintro e w4 ⟨rfl,Af⟩;go_wp2;go_ret;exact⟨by rw [PX.out];rfl,C9.trans Af⟩
  ·have dv:decide (v<=0)=false:=decide_eq_false hv;have hrt:r=false:=(by rw [HR.out];unfold Lj;rw [du,dv];rfl);subst hrt;have hv':0<v:=(by omega);clear hv c3;go_wp2;go_ret;exact⟨rfl,C9⟩
 ·have du:decide (u<=0)=false:=decide_eq_false hu;have hrt:r=false:=(by rw [HR.out];unfold Lj;rw [du];rfl);subst hrt;have YQ:0<u:=(by omega);clear hu c2 c3;go_wp2;go_ret;exact⟨rfl,C9⟩
theorem Amj(a b p:Pt){k:Nat}(ha:Aq k a)(hb:Aq k b)(hp:Aq k p)(hk:0<k)(hk2:k<=400)(hz:0<Bp a b)(w:World)(hw:Ai w) :
  Calls Tryz.prog 118 #[Ak a,Ak b,Ak p] w (Dq (Ob b a p) w):=by
 have c0:=Oe a b ha hb hk hk2;have c1:=Oe b p hb hp hk hk2;have c2:=Oe p a hp ha hk hk2;have c3:=Oi b a p hb ha hp hk hk2;unfold Ob;generalize Bp a b=z at *;generalize Bp b p=u at *;generalize Bp p a=v at *;generalize AN (Aw b a p)=t at *;obtain⟨W,hW,hE,hb1,hb2,hb3⟩:=G9 w (.cells #[S (R a.x),S (R a.y)] 35) (.cells #[S (R b.x),S (R b.y)] 35) (.cells #[S (R p.x),S (R p.y)] 35);obtain⟨r,hr⟩:=AcG (Lj u v t);rw [←hr];have HR:=Asb hr;unfold Ak at c0 c1 c2 c3 ⊢;clear ha hb hp hr;go_enter Tryz.func118,Tryz.ntmps118
 go_upto_region 1 with fail
 rw [←hW];clear hW;obtain⟨ba,Bj⟩:=AcG w.heap.size;have hle:w.heap.size<=ba:=(by omega);rw [←Bj]at hb1 hb2 hb3 ⊢;clear Bj;have k1:=Ab (o:=0) hb1 rfl;have k2:=Ab (o:=1) hb1 rfl;have k3:=Ab (o:=0) hb2 rfl;have k4:=Ab (o:=1) hb2 rfl;(go_wp2_with fail);(with_reducible refine(c0 _ (hw.ext hE)).mono ?_);rintro e w1 ⟨rfl,hx1⟩;replace hb1:=(hx1.block _ (Asd hb1)).trans hb1;replace hb2:=(hx1.block _ (Asd hb2)).trans hb2;replace hb3:=(hx1.block _ (Asd hb3)).trans hb3;replace hE:=hE.trans hx1;clear k1 k2 k3 k4 hx1 c0;have dz:decide (0<z)=true:=decide_eq_true hz;have k1:=Ab (o:=0) hb1 rfl;have k2:=Ab (o:=1) hb1 rfl;have k3:=Ab (o:=0) hb2 rfl;have k4:=Ab (o:=1) hb2 rfl;have f1:=An (o:=0) hb1;have f2:=An (o:=1) hb1;have f3:=An (o:=0) hb2;have f4:=An (o:=1) hb2
 go_upto_region 3 with fail
 obtain⟨V,hV⟩:=AcG ((((w1.setCell ⟨ba,0,none⟩ (S (R b.x))).setCell ⟨ba,1,none⟩ (S (R b.y))).setCell ⟨ba+1,0,none⟩ (S (R a.x))).setCell ⟨ba+1,1,none⟩ (S (R a.y)));rw [←hV]
 have C9:Aa w V:=by rw [hV];exact(((hE.setCell (p:=⟨ba,0,none⟩) hle _).setCell (p:=⟨ba,1,none⟩) hle _).setCell (p:=⟨ba+1,0,none⟩) (Nat.le_succ_of_le hle) _).setCell (p:=⟨ba+1,1,none⟩) (Nat.le_succ_of_le hle) _
 have n1:V.heap[ba]?=some (.cells #[S (R b.x),S (R b.y)] 35):=by rw [hV,Below.heap_setCell _ _ _ _ (show ba≠ba+1 by omega),Below.heap_setCell _ _ _ _ (show ba≠ba+1 by omega)];exact D6 _ _ hb1
 have n2:V.heap[ba+1]?=some (.cells #[S (R a.x),S (R a.y)] 35):=by rw [hV];exact D6 _ _ (by rw [Below.heap_setCell _ _ _ _ (show ba+1≠ba by omega),Below.heap_setCell _ _ _ _ (show ba+1≠ba by omega)];exact hb2)
 have n3:V.heap[ba+1+1]?=some (.cells #[S (R p.x),S (R p.y)] 35):=by rw [hV,Below.heap_setCell _ _ _ _ (show ba+1+1≠ba+1 by omega),Below.heap_setCell _ _ _ _ (show ba+1+1≠ba+1 by omega),Below.heap_setCell _ _ _ _ (show ba+1+1≠ba by omega),Below.heap_setCell _ _ _ _ (show ba+1+1≠ba by omega)];exact hb3
 clear hV k1 k2 k3 k4 f1 f2 f3 f4 hb1 hb2 hb3 hE dz;have k1:=Ab (o:=0) n1 rfl;have k2:=Ab (o:=1) n1 rfl;have k3:=Ab (o:=0) n2 rfl;have k4:=Ab (o:=1) n2 rfl;have k5:=Ab (o:=0) n3 rfl;have k6:=Ab (o:=1) n3 rfl;clear n1 n2 n3;(go_wp2_with fail);(with_reducible refine(c1 _ (hw.ext C9)).mono ?_);rintro e w2 ⟨rfl,hx2⟩;have j1:=hx2.cellS k1;have j2:=hx2.cellS k2;have j3:=hx2.cellS k3;have j4:=hx2.cellS k4;have j5:=hx2.cellS k5;have j6:=hx2.cellS k6;replace C9:=C9.trans hx2;clear k1 k2 k3 k4 k5 k6 hx2 c1;by_cases hu:u<=0
 ·have du:decide (u<=0)=true:=decide_eq_true hu;(go_wp2_with fail);(with_reducible refine(c2 _ (hw.ext C9)).mono ?_);rintro e w3 ⟨rfl,hx3⟩;have i1:=hx3.cellS j1;have i2:=hx3.cellS j2;have i3:=hx3.cellS j3;have i4:=hx3.cellS j4;have i5:=hx3.cellS j5;have i6:=hx3.cellS j6;replace C9:=C9.trans hx3;clear j1 j2 j3 j4 j5 j6 hx3 c2;by_cases hv:v<=0
  ·have dv:decide (v<=0)=true:=decide_eq_true hv;have hrt:r=decide (t=0):=(by rw [HR.out];unfold Lj;rw [du,dv];rfl);have PX:=Asb hrt;clear hrt;(go_wp2_with fail);(with_reducible refine(c3 _ (hw.ext C9)).mono ?_);rintro e w4 ⟨rfl,Af⟩;go_wp2;go_ret;exact⟨by rw [PX.out];rfl,C9.trans Af⟩
  ·have dv:decide (v<=0)=false:=decide_eq_false hv;have hrt:r=false:=(by rw [HR.out];unfold Lj;rw [du,dv];rfl);subst hrt;have hv':0<v:=(by omega);clear hv c3;go_wp2;go_ret;exact⟨rfl,C9⟩
 ·have du:decide (u<=0)=false:=decide_eq_false hu;have hrt:r=false:=(by rw [HR.out];unfold Lj;rw [du];rfl);subst hrt;have YQ:0<u:=(by omega);clear hu c2 c3;go_wp2;go_ret;exact⟨rfl,C9⟩
theorem Ami(a b p:Pt){k:Nat}(ha:Aq k a)(hb:Aq k b)(hp:Aq k p)(hk:0<k)(hk2:k<=400)(w:World)(hw:Ai w) :
  Calls Tryz.prog 118 #[Ak a,Ak b,Ak p] w (Dq (PD a b p) w):=by
 unfold PD
 split
 ·exact Amj a b p ha hb hp hk hk2 (by assumption) w hw
 ·exact Amk a b p ha hb hp hk hk2 (by assumption) w hw
structure Ad(W:World) where
 w:World
 h:Aa W w
instance (W:World):Inhabited (Ad W):=⟨⟨W,Aa.refl W⟩⟩
theorem Ad.cell{W:World}{a:Addr}{v:Value}(h:W.cell? a=some v)(p:Ad W):p.w.cell? a=some v:=p.h.cellS h
theorem Bi{P:Program}{id:Nat}{Q:Exit→Act→World→Prop}{a:Act}{W:World}{l:List Oper}(hm:P.follows .mixedOrders=true)(hB:Region.lexB .any l.toArray=true)
  (h:wpQuiet P l.toArray (fun w'=>∃p:Ad W,w'=p.w) (fun a'=>∀w',(∃p:Ad W,w'=p.w)→Q .normal a' w') l a):(Code.region id l.toArray true).wp P Q a W:=
 wp_region_quiet (C:=fun w'=>∃p:Ad W,w'=p.w) hm hB ⟨⟨W.drew,(Aa.refl W).drew⟩,rfl⟩ (by simpa using h)
section
variable {P : Program} {f : FuncId} {args : Array Value} {W : World} {p : Ad W}
theorem eG{v:Value}(h:Calls P f args p.w (Bg v p.w)):Calls P f args p.w fun e w''=>e=.returned v/\∃q:Ad W,w''=q.w:=
 h.mono fun _ w1 ⟨he,hx⟩=>⟨he,⟨w1,p.h.trans hx⟩,rfl⟩
theorem D7{n:Int}(h:Calls P f args p.w (AQ n p.w)):Calls P f args p.w fun e w''=>e=.returned (.int .i64 n)/\∃q:Ad W,w''=q.w:=
 h.mono fun _ w1 ⟨he,hx⟩=>⟨he,⟨w1,p.h.trans hx⟩,rfl⟩
theorem D8{l:Bs}(h:Calls P f args p.w (A0 l p.w)):Calls P f args p.w fun e w''=>e=.returned (S l)/\∃q:Ad W,w''=q.w:=
 h.mono fun _ w1 ⟨he,hx⟩=>⟨he,⟨w1,p.h.trans hx⟩,rfl⟩
theorem eF{b:Bool}(h:Calls P f args p.w (Dq b p.w)):Calls P f args p.w fun e w''=>e=.returned (.bool b)/\∃q:Ad W,w''=q.w:=
 h.mono fun _ w1 ⟨he,hx⟩=>⟨he,⟨w1,p.h.trans hx⟩,rfl⟩
end
def Ar(p q:Pt):Bool:=decide (p.x=q.x)&&decide (p.y=q.y)
theorem Di{p q:Pt} : Ar p q=true↔p=q:=by
 unfold Ar;rw [Bool.and_eq_true,decide_eq_true_eq,decide_eq_true_eq];constructor
 ·rintro⟨h1,h2⟩
  cases p;cases q;simp_all
 ·rintro rfl;exact⟨rfl,rfl⟩
theorem Kz(p q:Rat):(R p == R q)=decide (p=q):=by
 by_cases h:p=q
 ·subst h;simp
 ·rw [decide_eq_false h,beq_eq_false_iff_ne];exact fun e=>h (JH e)
theorem RR(p q:Pt)(W:World):(binOp .eql 35 (.agg #[S (R p.x),S (R p.y)]) (.agg #[S (R q.x),S (R q.y)])).run Tryz.prog W=.ok (.bool (Ar p q)) W:=by
 unfold Ar;rw [←Kz,←Kz]
 cases b1:(R p.x == R q.x)<;>cases b2:(R p.y == R q.y)<;>simp [go_sem,b1,b2]
theorem Vz(p q:Pt)(W:World):(binOp .neq 35 (.agg #[S (R p.x),S (R p.y)]) (.agg #[S (R q.x),S (R q.y)])).run Tryz.prog W=.ok (.bool (!Ar p q)) W:=by
 unfold Ar;rw [←Kz,←Kz]
 cases b1:(R p.x == R q.x)<;>cases b2:(R p.y == R q.y)<;>simp [go_sem,b1,b2]
theorem V7(q:Rat):-1<=AN q/\AN q<=1:=by unfold AN;split<;>(try split)<;>omega
def LL(x y z:Pt):Bool:=PD x y z&&(!Ar z x && !Ar z y)
def ZV(a b c d:Pt):Bool:=Ar a c||(Ar a d||(Ar b c||Ar b d))
def Lv(a b c:Pt):Int:=AN (Aw a b c)
def R9(a b c d:Pt):Bool:=decide (Lv a b c*Lv a b d<0)&&decide (Lv c d a*Lv c d b<0)
def J8(a b c d:Pt):List (Pt×Pt×Pt):=[(c,d,a),(c,d,b),(a,b,c),(a,b,d)]
def Og(a b c d:Pt):Bool:=(J8 a b c d).any (fun t=>LL t.1 t.2.1 t.2.2)||(!ZV a b c d&&R9 a b c d)
def Sa(a b c d:Pt):Array Value:=#[S (R c.x),S (R c.y),S (R d.x),S (R d.y),S (R a.x),S (R a.y),S (R c.x),S (R c.y),S (R d.x),S (R d.y),S (R b.x),S (R b.y),S (R a.x),S (R a.y),S (R b.x),S (R b.y),S (R c.x),S (R c.y),S (R a.x),S (R a.y),S (R b.x),S (R b.y),S (R d.x),S (R d.y)]
theorem AoD(a b c d:Pt){k:Nat}(ha:Aq k a)(hb:Aq k b)(hc:Aq k c)(hd:Aq k d){j:Nat}(hj:j<4) :
  ∃x y z:Pt,(∀W,(Instr.index 177 (.agg (Sa a b c d)) (.int .i64 (j:Nat))).run Tryz.prog W=.ok (.agg #[S (R x.x),S (R x.y),S (R y.x),S (R y.y),S (R z.x),S (R z.y)]) W)/\(J8 a b c d)[j]?=some (x,y,z)/\Aq k x/\Aq k y/\Aq k z:=by
 obtain rfl|rfl|rfl|rfl:j=0∨j=1∨j=2∨j=3:=by omega
 ·exact⟨c,d,a,fun W=>by unfold Sa;kernel_rfl,rfl,hc,hd,ha⟩
 ·exact⟨c,d,b,fun W=>by unfold Sa;kernel_rfl,rfl,hc,hd,hb⟩
 ·exact⟨a,b,c,fun W=>by unfold Sa;kernel_rfl,rfl,ha,hb,hc⟩
 ·exact⟨a,b,d,fun W=>by unfold Sa;kernel_rfl,rfl,ha,hb,hd⟩
theorem AeO(w:World)(o1 o2 o3 o4:Obj):∃W,W=(((w.alloc o1).alloc o2).alloc o3).alloc o4/\Aa w W/\W.heap[w.heap.size]?=some o1/\W.heap[w.heap.size+1]?=some o2/\W.heap[w.heap.size+1+1]?=some o3/\W.heap[w.heap.size+1+1+1]?=some o4:=by
 obtain⟨V,hV,hE,h1,h2,h3⟩:=G9 w o1 o2 o3;have hs:V.heap.size=w.heap.size+1+1+1:=(by rw [hV];simp);have h4:=Ase V o4;have hx:=(Aa.refl V).alloc o4;rw [hs]at h4;exact⟨V.alloc o4,by rw [hV],hE.alloc o4,(hx.block _ (Asd h1)).trans h1,(hx.block _ (Asd h2)).trans h2,(hx.block _ (Asd h3)).trans h3,h4⟩
theorem AlZ(a b c d:Pt){k:Nat}(ha:Aq k a)(hb:Aq k b)(hc:Aq k c)(hd:Aq k d)(hk:0<k)(hk2:k<=400)(w:World)(hw:Ai w) :
  Calls Tryz.prog 52 #[Ak a,Ak b,Ak c,Ak d] w (Dq (Og a b c d) w):=by
 have t1:=Oi a b c ha hb hc hk hk2;have t2:=Oi a b d ha hb hd hk hk2;have t3:=Oi c d a hc hd ha hk hk2;have t4:=Oi c d b hc hd hb hk hk2;have YP:=@AoD a b c d k ha hb hc hd;unfold Sa at YP;have r1:=V7 (Aw a b c);have r2:=V7 (Aw a b d);have r3:=V7 (Aw c d a);have r4:=V7 (Aw c d b);obtain⟨r,hr⟩:=AcG (Og a b c d);rw [←hr];have HR:=Asb hr;have HP:=Asb (show R9 a b c d=(decide (Lv a b c*Lv a b d<0)&&decide (Lv c d a*Lv c d b<0))from rfl);have Iw:=Asb (show ZV a b c d=(Ar a c||(Ar a d||(Ar b c||Ar b d)))from rfl);have pe:=RR;have pn:=Vz;unfold Ak at t1 t2 t3 t4 ⊢;obtain⟨W,hW,hE,hb1,hb2,hb3,hb4⟩:=AeO w (.cells #[S (R a.x),S (R a.y)] 35) (.cells #[S (R b.x),S (R b.y)] 35) (.cells #[S (R c.x),S (R c.y)] 35) (.cells #[S (R d.x),S (R d.y)] 35);clear hr ha hb hc hd;go_enter Tryz.func52,Tryz.ntmps52
 go_upto_region 1 with fail
 rw [←hW];clear hW;obtain⟨ba,Bj⟩:=AcG w.heap.size;rw [←Bj]at hb1 hb2 hb3 hb4 ⊢;clear Bj;have k1:=Ab (o:=0) hb1 rfl;have k2:=Ab (o:=1) hb1 rfl;have k3:=Ab (o:=0) hb2 rfl;have k4:=Ab (o:=1) hb2 rfl;have k5:=Ab (o:=0) hb3 rfl;have k6:=Ab (o:=1) hb3 rfl;have k7:=Ab (o:=0) hb4 rfl;have k8:=Ab (o:=1) hb4 rfl
 go_cut [9] (fun v9 wx=>∃sh,v9=.bool sh/\sh=ZV a b c d/\wx=W)
 case first=>
  cases e1:Ar a c
  ·cases e2:Ar a d
   ·cases e3:Ar b c
    ·cases e4:Ar b d
     ·go_wp2;go_meet;exact⟨_,rfl,by rw [Iw.out,e1,e2,e3,e4];rfl,rfl⟩
     ·go_wp2;go_meet;exact⟨_,rfl,by rw [Iw.out,e1,e2,e3,e4];rfl,rfl⟩
    ·go_wp2;go_meet;exact⟨_,rfl,by rw [Iw.out,e1,e2,e3];rfl,rfl⟩
   ·go_wp2;go_meet;exact⟨_,rfl,by rw [Iw.out,e1,e2];rfl,rfl⟩
  ·go_wp2;go_meet;exact⟨_,rfl,by rw [Iw.out,e1];rfl,rfl⟩
 case rest=>
  obtain⟨sh,rfl,Bf,rfl⟩:=hcut;have Gc:=Asb Bf;clear Bf Iw;have Dm:=hw.ext hE
  go_upto_region 3 with fail
  go_loopw [47] (fun i wr=>∃j:Nat,i=.int .i64 (j:Nat)/\j<=4/\(∀t∈(J8 a b c d).take j,LL t.1 t.2.1 t.2.2=false)/\Aa wc wr) (fun i _=>4-(intOf i).toNat)
  case atStart=>exact⟨0,rfl,by omega,by simp,Aa.refl _⟩
  case round=>
   obtain⟨j,rfl,hj,Au,Ac⟩:=hrel;have HO:=Asb Au;clear Au;by_cases hlt:j<4
   ·obtain⟨x,y,z,hix,Db,zx,zy,zz⟩:=YP hlt;have nD:=Ami x y z zx zy zz hk hk2;have HX:=Asb (show LL x y z=(PD x y z&&(!Ar z x && !Ar z y))from rfl);have HG:=Asb Db;have hj0:(j:Int)<4:=(by omega);unfold Ak at nD;clear Db YP zx zy zz t1 t2 t3 t4 r1 r2 r3 r4 k1 k2 k3 k4 k5 k6 k7 k8 hb1 hb2 hb3 hb4
    go_upto_region 5 with fail
    have EC:=Ase wr (.cells #[S (R x.x),S (R x.y),S (R y.x),S (R y.y),S (R z.x),S (R z.y)] 176);have Ay:=Ac.alloc (.cells #[S (R x.x),S (R x.y),S (R y.x),S (R y.y),S (R z.x),S (R z.y)] 176);generalize wr.alloc (.cells #[S (R x.x),S (R x.y),S (R y.x),S (R y.y),S (R z.x),S (R z.y)] 176)=V at *;obtain⟨bv,bw⟩:=AcG wr.heap.size;rw [←bw]at EC ⊢;clear bw;have s1:=Ab (o:=0) EC rfl;have s2:=Ab (o:=1) EC rfl;have s3:=Ab (o:=2) EC rfl;have s4:=Ab (o:=3) EC rfl;have s5:=Ab (o:=4) EC rfl;have s6:=Ab (o:=5) EC rfl;(go_wp2_with fail);(with_reducible refine(nD _ (Dm.ext Ay)).mono ?_);rintro e w1 ⟨rfl,hx1⟩;have Gq:=(hx1.block _ (Asd EC)).trans EC;have hxb:=Ay.trans hx1;have q1:=Ab (o:=0) Gq rfl;have q2:=Ab (o:=1) Gq rfl;have q3:=Ab (o:=2) Gq rfl;have q4:=Ab (o:=3) Gq rfl;have q5:=Ab (o:=4) Gq rfl;have q6:=Ab (o:=5) Gq rfl;clear s1 s2 s3 s4 s5 s6 EC hx1 Ay nD Gq
    have hgo:LL x y z=false→∀t∈(J8 a b c d).take (j+1),LL t.1 t.2.1 t.2.2=false:=by
     intro h0 t ht;have hl:j<(J8 a b c d).length:=hlt;rw [Asi hl]at ht
     rcases List.mem_append.1 ht with h|h
     ·exact HO.out t h
     ·have e0:(J8 a b c d)[j]=(x,y,z):=Option.some.inj ((Asl hl).symm.trans HG.out);rw [e0,Ass]at h;rw [h];exact h0
    have hst:LL x y z=true→r=true:=by
     intro h0;rw [HR.out];unfold Og;rw [Bool.or_eq_true]
     left
     rw [List.any_eq_true];exact⟨(x,y,z),List.mem_of_getElem? HG.out,h0⟩
    have bH:=Asb hgo;have HST:=Asb hst;clear hgo hst
    cases e0:PD x y z
    ·have HE:=Asb e0;clear e0;go_wp2;go_roundw
     case rel=>exact⟨j+1,by go_num,by omega,bH.out (by rw [HX.out,HE.out];rfl),hxb⟩
     case measure=>simp [intOf];omega
    ·cases e1:Ar z x
     ·cases e2:Ar z y
      ·have HE:=Asb (And.intro e0 (And.intro e1 e2));have hrt:r=true:=HST.out (by rw [HX.out,e0,e1,e2];rfl);subst hrt;go_wp2;go_ret;exact⟨rfl,hE.trans hxb⟩
      ·have HE:=Asb (And.intro e0 (And.intro e1 e2));go_wp2;go_roundw
       case rel=>exact⟨j+1,by go_num,by omega,bH.out (by rw [HX.out,HE.out.1,HE.out.2.1,HE.out.2.2];rfl),hxb⟩
       case measure=>simp [intOf];omega
     ·have HE:=Asb (And.intro e0 e1);go_wp2;go_roundw
      case rel=>exact⟨j+1,by go_num,by omega,bH.out (by rw [HX.out,HE.out.1,HE.out.2];rfl),hxb⟩
      case measure=>simp [intOf];omega
   ·have hle:(4:Int)<=(j:Int):=(by omega);obtain rfl:j=4:=by omega
    have hno:(J8 a b c d).any (fun t=>LL t.1 t.2.1 t.2.2)=false:=by rw [List.any_eq_false];intro t ht;rw [HO.out t (by rw [Aso (by simp [J8])];exact ht)];simp
    have BY:r=(!sh&&R9 a b c d):=(by rw [HR.out,Gc.out];unfold Og;rw [hno];rfl);have bT:=Asb BY;replace hb1:=(Ac.block _ (Asd hb1)).trans hb1;replace hb2:=(Ac.block _ (Asd hb2)).trans hb2;replace hb3:=(Ac.block _ (Asd hb3)).trans hb3;replace hb4:=(Ac.block _ (Asd hb4)).trans hb4;replace hE:=hE.trans Ac;clear k1 k2 k3 k4 k5 k6 k7 k8 hno BY HO Gc Dm Ac YP
    cases sh
    ·have k1:∀p:Ad wr,p.w.cell? ⟨ba,0,none⟩=some (S (R a.x)):=Ad.cell (Ab hb1 rfl);have k2:∀p:Ad wr,p.w.cell? ⟨ba,1,none⟩=some (S (R a.y)):=Ad.cell (Ab hb1 rfl);have k3:∀p:Ad wr,p.w.cell? ⟨ba+1,0,none⟩=some (S (R b.x)):=Ad.cell (Ab hb2 rfl);have k4:∀p:Ad wr,p.w.cell? ⟨ba+1,1,none⟩=some (S (R b.y)):=Ad.cell (Ab hb2 rfl);have k5:∀p:Ad wr,p.w.cell? ⟨ba+1+1,0,none⟩=some (S (R c.x)):=Ad.cell (Ab hb3 rfl);have k6:∀p:Ad wr,p.w.cell? ⟨ba+1+1,1,none⟩=some (S (R c.y)):=Ad.cell (Ab hb3 rfl);have k7:∀p:Ad wr,p.w.cell? ⟨ba+1+1+1,0,none⟩=some (S (R d.x)):=Ad.cell (Ab hb4 rfl);have k8:∀p:Ad wr,p.w.cell? ⟨ba+1+1+1,1,none⟩=some (S (R d.y)):=Ad.cell (Ab hb4 rfl);have hwr:=hw.ext hE;have ID:r=R9 a b c d:=(by rw [bT.out];simp);rw [HP.out]at ID;unfold Lv at ID;generalize AN (Aw a b c)=u1 at *;generalize AN (Aw a b d)=u2 at *;generalize AN (Aw c d a)=u3 at *;generalize AN (Aw c d b)=u4 at *;obtain⟨Zj,Tg⟩:=AcG (u1*u2);obtain⟨m34,Ti⟩:=AcG (u3*u4)
     have Ff:IntKind.i64.wrap (u1*u2)=Zj:=by
      rw [Tg];clear Tg Ti ID;obtain rfl|rfl|rfl:u1 = -1∨u1=0∨u1=1:=by omega
      all_goals (obtain rfl|rfl|rfl:u2 = -1∨u2=0∨u2=1:=by omega)
      all_goals rfl
     have w34:IntKind.i64.wrap (u3*u4)=m34:=by
      rw [Ti];clear Tg Ti ID;obtain rfl|rfl|rfl:u3 = -1∨u3=0∨u3=1:=by omega
      all_goals (obtain rfl|rfl|rfl:u4 = -1∨u4=0∨u4=1:=by omega)
      all_goals rfl
     rw [←Tg,←Ti]at ID;clear hb1 hb2 hb3 hb4 r1 r2 r3 r4 bT HP Tg Ti;by_cases n1:Zj<0
     ·have d1:decide (Zj<0)=true:=decide_eq_true n1;rw [d1,Bool.true_and]at ID;have HRP:=Asb ID;clear ID n1
      go_upto_region 8 with fail
      refine Bi (by kernel_rfl) (by kernel_rfl) ?_
      repeat (go_big_quiet_step (first|(with_reducible refine D7 (t1 _ (hwr.ext (Ad.h _))))|(with_reducible refine D7 (t2 _ (hwr.ext (Ad.h _))))|(with_reducible refine D7 (t3 _ (hwr.ext (Ad.h _))))|(with_reducible refine D7 (t4 _ (hwr.ext (Ad.h _))))))
      refine wpQuiet_nil ?_;rintro _ ⟨p,rfl⟩;go_wp2;go_ret;exact⟨by rw [HRP.out];rfl,hE.trans p.h⟩
     ·have d1:decide (Zj<0)=false:=decide_eq_false n1;rw [d1,Bool.false_and]at ID;subst ID;clear t3 t4 n1
      go_upto_region 8 with fail
      refine Bi (by kernel_rfl) (by kernel_rfl) ?_
      repeat (go_big_quiet_step (first|(with_reducible refine D7 (t1 _ (hwr.ext (Ad.h _))))|(with_reducible refine D7 (t2 _ (hwr.ext (Ad.h _))))|(with_reducible refine D7 (t3 _ (hwr.ext (Ad.h _))))|(with_reducible refine D7 (t4 _ (hwr.ext (Ad.h _))))))
      refine wpQuiet_nil ?_;rintro _ ⟨p,rfl⟩;go_wp2;go_ret;exact⟨rfl,hE.trans p.h⟩
    ·have hrt:r=false:=(by rw [bT.out];rfl);subst hrt
     go_upto_region 8 with fail
     refine Bi (by kernel_rfl) (by kernel_rfl) ?_
     repeat (go_big_quiet_step (first|(with_reducible refine D7 (t1 _ (hwr.ext (Ad.h _))))|(with_reducible refine D7 (t2 _ (hwr.ext (Ad.h _))))|(with_reducible refine D7 (t3 _ (hwr.ext (Ad.h _))))|(with_reducible refine D7 (t4 _ (hwr.ext (Ad.h _))))))
     refine wpQuiet_nil ?_;rintro _ ⟨p,rfl⟩;go_wp2;go_ret;exact⟨rfl,hE.trans p.h⟩
end Go.Proofs.YtdaefncphfeaeaaGreatDoor
