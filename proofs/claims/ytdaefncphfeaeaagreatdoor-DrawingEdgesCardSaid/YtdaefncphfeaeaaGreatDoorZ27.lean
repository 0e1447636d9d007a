/- Z27: Q1 Q2 Q3 Q4 Q5. -/
import Derived.Test.YtdaefncphfeaeaaGreatDoorZ25
import Derived.Test.YtdaefncphfeaeaaGreatDoorZ26
set_option maxRecDepth 100000
set_option maxHeartbeats 4000000
namespace Go.Proofs.YtdaefncphfeaeaaGreatDoor
open Go.RowKit Kl
theorem AoV(a b c d:Rat){k:Nat}(ha:Sz k a)(hb:Sz k b)(hc:Sz k c)(hd:Sz k d)(hk:0<k)(hk2:k<=900)(w:World)(hw:Ai w) :
  Calls Tryz.prog 254 #[S (R a),S (R b),S (R c),S (R d)] w (A0 (R (a*d-b*c)) w):=by
 have m1:=Io a d (a:=k) (b:=k) ⟨ha,hd,hk,hk,by omega⟩;have m2:=Io b c (a:=k) (b:=k) ⟨hb,hc,hk,hk,by omega⟩;have sb:=BS (a*d) (b*c) (a:=k+k) (b:=k+k) ⟨ha.mul hd,hb.mul hc,by omega,by omega,by omega⟩;clear ha hb hc hd;go_enter Tryz.func254,Tryz.ntmps254;(go_wp2_with fail);(with_reducible refine(m1 _ hw).mono ?_);rintro e w1 ⟨rfl,hx1⟩;(go_wp2_with fail);(with_reducible refine(m2 _ (hw.ext hx1)).mono ?_);rintro e w2 ⟨rfl,hx2⟩;have BB:=hx1.trans hx2;(go_wp2_with fail);(with_reducible refine(sb _ (hw.ext BB)).mono ?_);rintro e w3 ⟨rfl,hx3⟩;go_wp2;go_ret;exact⟨rfl,BB.trans hx3⟩
theorem AbJ(a b c:Pt){k:Nat}(ha:Aq k a)(hb:Aq k b)(hc:Aq k c)(hk:0<k)(hk2:k<=400)(w:World)(hw:Ai w) :
  Calls Tryz.prog 225 #[Ak a,Ak b,Ak c] w (A0 (R (Aw a b c)) w):=by
 have s1:=BS b.x a.x (a:=k) (b:=k) ⟨hb.x,ha.x,hk,hk,by omega⟩;have s2:=BS b.y a.y (a:=k) (b:=k) ⟨hb.y,ha.y,hk,hk,by omega⟩;have s3:=BS c.x a.x (a:=k) (b:=k) ⟨hc.x,ha.x,hk,hk,by omega⟩;have s4:=BS c.y a.y (a:=k) (b:=k) ⟨hc.y,ha.y,hk,hk,by omega⟩;have m1:=AoV (b.x-a.x) (b.y-a.y) (c.x-a.x) (c.y-a.y) (k:=k+k+1) (hb.x.sub ha.x) (hb.y.sub ha.y) (hc.x.sub ha.x) (hc.y.sub ha.y) (by omega) (by omega);have e:Aw a b c=(b.x-a.x)*(c.y-a.y)-(b.y-a.y)*(c.x-a.x):=rfl;rw [←e]at m1;obtain⟨r,hr⟩:=AcG (Aw a b c);rw [←hr]at m1 ⊢;unfold Ak;clear ha hb hc e hr;go_enter Tryz.func225,Tryz.ntmps225
 go_upto_region 1 with fail
 obtain⟨W,hW,hE,hb1,hb2,hb3⟩:=G9 w (.cells #[S (R a.x),S (R a.y)] 35) (.cells #[S (R b.x),S (R b.y)] 35) (.cells #[S (R c.x),S (R c.y)] 35);rw [←hW];clear hW;have Dm:=hw.ext hE;have q1:∀q:Ad W,q.w.cell? ⟨w.heap.size,0,none⟩=some (S (R a.x)):=Ad.cell (Ab hb1 rfl);have q2:∀q:Ad W,q.w.cell? ⟨w.heap.size,1,none⟩=some (S (R a.y)):=Ad.cell (Ab hb1 rfl);have q3:∀q:Ad W,q.w.cell? ⟨w.heap.size+1,0,none⟩=some (S (R b.x)):=Ad.cell (Ab hb2 rfl);have q4:∀q:Ad W,q.w.cell? ⟨w.heap.size+1,1,none⟩=some (S (R b.y)):=Ad.cell (Ab hb2 rfl);have q5:∀q:Ad W,q.w.cell? ⟨w.heap.size+1+1,0,none⟩=some (S (R c.x)):=Ad.cell (Ab hb3 rfl);have q6:∀q:Ad W,q.w.cell? ⟨w.heap.size+1+1,1,none⟩=some (S (R c.y)):=Ad.cell (Ab hb3 rfl);clear hb1 hb2 hb3;refine Bi (by kernel_rfl) (by kernel_rfl) ?_
 repeat (go_big_quiet_step (first|(with_reducible refine D8 (s1 _ (Dm.ext (Ad.h _))))|(with_reducible refine D8 (s2 _ (Dm.ext (Ad.h _))))|(with_reducible refine D8 (s3 _ (Dm.ext (Ad.h _))))|(with_reducible refine D8 (s4 _ (Dm.ext (Ad.h _))))|(with_reducible refine D8 (m1 _ (Dm.ext (Ad.h _))))))
 refine wpQuiet_nil ?_;rintro _ ⟨q,rfl⟩;go_wp2;go_ret;exact⟨rfl,hE.trans q.h⟩
def Kq(a b x:Rat):Bool:=decide (BE a b<=x)&&decide (x<=BD a b)
theorem Afu(p q:Rat):AD p q<=0↔p<=q:=by unfold AD;grind
theorem AbR(a b x:Rat){k:Nat}(ha:Sz k a)(hb:Sz k b)(hx:Sz k x)(hk:0<k)(hk2:k<=900)(w:World)(hw:Ai w) :
  Calls Tryz.prog 226 #[S (R a),S (R b),S (R x)] w (Dq (Kq a b x) w):=by
 have mn:=Aaw a b (a:=k) (b:=k) ⟨ha,hb,hk,hk,by omega⟩;have mx:=Aav a b (a:=k) (b:=k) ⟨ha,hb,hk,hk,by omega⟩;have szn:Sz k (BE a b):=(by unfold BE;split<;>assumption);have szx:Sz k (BD a b):=(by unfold BD;split<;>assumption);have c1:=CJ (BE a b) x (a:=k) (b:=k) ⟨szn,hx,hk,hk,by omega⟩;have c2:=CJ x (BD a b) (a:=k) (b:=k) ⟨hx,szx,hk,hk,by omega⟩;obtain⟨r,hr⟩:=AcG (Kq a b x);rw [←hr]
 have hr2:r=(decide (AD (BE a b) x<=0)&&decide (AD x (BD a b)<=0)):=by rw [hr];unfold Kq;simp only [Afu]
 obtain⟨u,hu⟩:=AcG (AD (BE a b) x);obtain⟨v,hv⟩:=AcG (AD x (BD a b));rw [←hu]at c1 hr2;rw [←hv]at c2 hr2;obtain⟨p,hp⟩:=AcG (BE a b);obtain⟨s,hs⟩:=AcG (BD a b);rw [←hp]at mn c1;rw [←hs]at mx c2;clear hr ha hb hx szn szx hp hs hu hv;by_cases h1:u<=0
 ·have d1:decide (u<=0)=true:=decide_eq_true h1;rw [d1,Bool.true_and]at hr2;have HR:=Asb hr2;clear hr2 h1;go_enter Tryz.func226,Tryz.ntmps226;(go_wp2_with fail);(with_reducible refine(mn _ hw).mono ?_);rintro e w1 ⟨rfl,hx1⟩;(go_wp2_with fail);(with_reducible refine(c1 _ (hw.ext hx1)).mono ?_);rintro e w2 ⟨rfl,hx2⟩;have BB:=hx1.trans hx2;(go_wp2_with fail);(with_reducible refine(mx _ (hw.ext BB)).mono ?_);rintro e w3 ⟨rfl,hx3⟩;have IE:=BB.trans hx3;(go_wp2_with fail);(with_reducible refine(c2 _ (hw.ext IE)).mono ?_);rintro e w4 ⟨rfl,Af⟩;go_wp2;go_ret;exact⟨by rw [HR.out];rfl,IE.trans Af⟩
 ·have d1:decide (u<=0)=false:=decide_eq_false h1;rw [d1,Bool.false_and]at hr2;subst hr2;clear h1;go_enter Tryz.func226,Tryz.ntmps226;(go_wp2_with fail);(with_reducible refine(mn _ hw).mono ?_);rintro e w1 ⟨rfl,hx1⟩;(go_wp2_with fail);(with_reducible refine(c1 _ (hw.ext hx1)).mono ?_);rintro e w2 ⟨rfl,hx2⟩;go_wp2;go_ret;exact⟨rfl,hx1.trans hx2⟩
theorem pJ(l:List Pt)(hz:∀p∈l,Aq 200 p)(A:Option Addr)(c:Nat)(w:World)(hw:Ai w)(hr:Am w A (flat (AI l)))(hc:l.length<=c)(hcm:c<=9223372036854775807) :
  Calls Tryz.prog 162 #[.slice A l.length c] w (AQ 0 w):=by
 have HL:=Asb hz;clear hz;go_enter Tryz.func162,Tryz.ntmps162
 go_upto_region 2 with fail
 go_loopw [8] (fun i wr=>∃j:Nat,i=.int .i64 (j:Nat)/\j<=l.length/\Aa w wr) (fun i _=>l.length-(intOf i).toNat)
 case atStart=>exact⟨0,rfl,by omega,Aa.refl _⟩
 case round=>
  obtain⟨j,rfl,hj,Ac⟩:=hrel;by_cases hlt:j<l.length
  ·obtain⟨b,o,rfl,hg1,hg2⟩:=BO (hr.ext Ac) hlt;have hp:=HL.out _ (Asg hlt);obtain⟨p,If⟩:=AcG (l[j]);rw [←If]at hg1 hg2 hp;clear If;have ck:=SL (R p.x) (R p.y) true (by simp [Li hp.x (by omega) (by omega),Li hp.y (by omega) (by omega)]) (by have:=Hv (by omega) hp.x;omega) (by have:=Hv (by omega) hp.y;omega);rw [GA]at ck;have hx1:=Ac.alloc (.cells #[S (R p.x),S (R p.y)] 35);have hj0:(0:Int)<=(j:Int):=(by omega);have AG:(j:Int)<(l.length:Int):=(by omega);clear hp;(go_wp2_with fail);(with_reducible refine(ck _ (hw.ext hx1)).mono ?_);rintro e w2 ⟨rfl,hx2⟩;go_wp2;go_roundw
   case rel=>exact⟨j+1,by go_num,hlt,hx1.trans hx2⟩
   case measure=>simp [intOf];omega
  ·have hle:(l.length:Int)<=(j:Int):=(by omega);go_wp2;go_ret;exact⟨rfl,Ac⟩
def AaG(n:Int):Value:=.tuple #[.int .i64 n,.int .i64 0]
def AaF(b:Bool):Value:=.tuple #[.bool b,.int .i64 0]
theorem AoX(a b c:Pt)(ha:Aq 200 a)(hb:Aq 200 b)(hc:Aq 200 c)(w:World)(hw:Ai w) :
  Calls Tryz.prog 227 #[Ak a,Ak b,Ak c] w (Bg (AaG (AN (Aw a b c))) w):=by
 have ar:=AbJ a b c ha hb hc (by omega) (by omega);have sg:=Lo (Aw a b c)
 have hl:∀p∈[a,b,c],Aq 200 p:=by
  intro p hp;simp only [List.mem_cons,Asr,or_false]at hp
  rcases hp with rfl|rfl|rfl<;>assumption
 obtain⟨r,hr⟩:=AcG (Aw a b c);rw [←hr]at ar sg ⊢;obtain⟨W,hW,hE,hb1,hb2,hb3⟩:=G9 w (.cells #[S (R a.x),S (R a.y)] 35) (.cells #[S (R b.x),S (R b.y)] 35) (.cells #[S (R c.x),S (R c.y)] 35);have pt:Calls Tryz.prog 162 #[.slice (some ⟨W.heap.size,0,none⟩) 3 3] (W.alloc (.cells #[S (R a.x),S (R a.y),S (R b.x),S (R b.y),S (R c.x),S (R c.y)] 35)) (AQ 0 _):=pJ [a,b,c] hl (some ⟨W.heap.size,0,none⟩) 3 (W.alloc (.cells #[S (R a.x),S (R a.y),S (R b.x),S (R b.y),S (R c.x),S (R c.y)] 35)) ((hw.ext hE).ext ((Aa.refl W).alloc _)) (Am.lit W #[S (R a.x),S (R a.y),S (R b.x),S (R b.y),S (R c.x),S (R c.y)] 35) (by simp) (by omega);have Hd:=hE.alloc (.cells #[S (R a.x),S (R a.y),S (R b.x),S (R b.y),S (R c.x),S (R c.y)] 35);have I5:=(Aa.refl W).alloc (.cells #[S (R a.x),S (R a.y),S (R b.x),S (R b.y),S (R c.x),S (R c.y)] 35);have k1:=Ab (o:=0) hb1 rfl;have k2:=Ab (o:=1) hb1 rfl;have k3:=Ab (o:=0) hb2 rfl;have k4:=Ab (o:=1) hb2 rfl;have k5:=Ab (o:=0) hb3 rfl;have k6:=Ab (o:=1) hb3 rfl;unfold Ak at ar ⊢;clear ha hb hc hr hb1 hb2 hb3 hl;go_enter Tryz.func227,Tryz.ntmps227
 go_upto_region 1 with fail
 rw [←hW];clear hW;(go_wp2_with fail);(with_reducible refine pt.mono ?_);rintro e w1 ⟨rfl,hx1⟩;have hx2:=I5.trans hx1;have hw1:=hw.ext (hE.trans hx2);replace k1:=hx2.cellS k1;replace k2:=hx2.cellS k2;replace k3:=hx2.cellS k3;replace k4:=hx2.cellS k4;replace k5:=hx2.cellS k5;replace k6:=hx2.cellS k6;have hx3:=hE.trans hx2;clear pt hE Hd I5 hx1 hx2;(go_wp2_with fail);(with_reducible refine(ar _ hw1).mono ?_);rintro e w2 ⟨rfl,Af⟩;(go_wp2_with fail);(with_reducible refine(sg _).mono ?_);rintro e w3 ⟨rfl,Ae⟩;go_wp2;go_ret2;exact⟨rfl,(hx3.trans Af).trans Ae⟩
def Qp(a b p:Pt):Bool:=decide (Aw a b p=0)&&(Kq a.x b.x p.x&&Kq a.y b.y p.y)
theorem AoT(a b c:Pt)(ha:Aq 200 a)(hb:Aq 200 b)(hc:Aq 200 c)(w:World)(hw:Ai w) :
  Calls Tryz.prog 154 #[Ak a,Ak b,Ak c] w (Bg (AaF (Qp a b c)) w):=by
 have ar:=AbJ a b c ha hb hc (by omega) (by omega);have t1:=AbR a.x b.x c.x ha.x hb.x hc.x (by omega) (by omega);have t2:=AbR a.y b.y c.y ha.y hb.y hc.y (by omega) (by omega)
 have hl:∀p∈[a,b,c],Aq 200 p:=by
  intro p hp;simp only [List.mem_cons,Asr,or_false]at hp
  rcases hp with rfl|rfl|rfl<;>assumption
 have hz:(R (Aw a b c) == [48])=decide (Aw a b c=0):=by
  by_cases h:Aw a b c=0
  ·rw [h,G7];rfl
  ·rw [D4 h,decide_eq_false h]
 obtain⟨x,hx⟩:=AcG (Qp a b c);have hx':=hx;unfold Qp at hx';obtain⟨u,hu⟩:=AcG (decide (Aw a b c=0));obtain⟨s,hs⟩:=AcG (Kq a.x b.x c.x);obtain⟨t,ht⟩:=AcG (Kq a.y b.y c.y);rw [←hu]at hz hx';rw [←hs]at t1 hx';rw [←ht]at t2 hx';rw [←hx];obtain⟨r,hr⟩:=AcG (Aw a b c);rw [←hr]at ar hz;have HX:=Asb hx';obtain⟨W,hW,hE,hb1,hb2,hb3⟩:=G9 w (.cells #[S (R a.x),S (R a.y)] 35) (.cells #[S (R b.x),S (R b.y)] 35) (.cells #[S (R c.x),S (R c.y)] 35);have pt:Calls Tryz.prog 162 #[.slice (some ⟨W.heap.size,0,none⟩) 3 3] (W.alloc (.cells #[S (R a.x),S (R a.y),S (R b.x),S (R b.y),S (R c.x),S (R c.y)] 35)) (AQ 0 _):=pJ [a,b,c] hl (some ⟨W.heap.size,0,none⟩) 3 (W.alloc (.cells #[S (R a.x),S (R a.y),S (R b.x),S (R b.y),S (R c.x),S (R c.y)] 35)) ((hw.ext hE).ext ((Aa.refl W).alloc _)) (Am.lit W #[S (R a.x),S (R a.y),S (R b.x),S (R b.y),S (R c.x),S (R c.y)] 35) (by simp) (by omega);have I5:=(Aa.refl W).alloc (.cells #[S (R a.x),S (R a.y),S (R b.x),S (R b.y),S (R c.x),S (R c.y)] 35);have k1:=Ab (o:=0) hb1 rfl;have k2:=Ab (o:=1) hb1 rfl;have k3:=Ab (o:=0) hb2 rfl;have k4:=Ab (o:=1) hb2 rfl;have k5:=Ab (o:=0) hb3 rfl;have k6:=Ab (o:=1) hb3 rfl;unfold Ak at ar ⊢;clear ha hb hc hr hb1 hb2 hb3 hl hx hx' hu hs ht;go_enter Tryz.func154,Tryz.ntmps154
 go_upto_region 1 with fail
 rw [←hW];clear hW;(go_wp2_with fail);(with_reducible refine pt.mono ?_);rintro e w1 ⟨rfl,hx1⟩;have hx2:=I5.trans hx1;have hw1:=hw.ext (hE.trans hx2);replace k1:=hx2.cellS k1;replace k2:=hx2.cellS k2;replace k3:=hx2.cellS k3;replace k4:=hx2.cellS k4;replace k5:=hx2.cellS k5;replace k6:=hx2.cellS k6;have hx3:=hE.trans hx2;clear pt hE I5 hx1 hx2;(go_wp2_with fail);(with_reducible refine(ar _ hw1).mono ?_);rintro e w2 ⟨rfl,Af⟩;replace k1:=Af.cellS k1;replace k2:=Af.cellS k2;replace k3:=Af.cellS k3;replace k4:=Af.cellS k4;replace k5:=Af.cellS k5;replace k6:=Af.cellS k6;replace hw1:=hw1.ext Af;replace hx3:=hx3.trans Af;clear ar Af
 cases u
 ·rw [Bool.false_and]at HX;have he:x=false:=HX.out;subst he;go_wp2;go_ret2;exact⟨rfl,hx3⟩
 ·rw [Bool.true_and]at HX;(go_wp2_with fail);(with_reducible refine(t1 _ hw1).mono ?_);rintro e w3 ⟨rfl,Af⟩;replace k2:=Af.cellS k2;replace k4:=Af.cellS k4;replace k6:=Af.cellS k6
  cases s
  ·rw [Bool.false_and]at HX;have he:x=false:=HX.out;subst he;go_wp2;go_ret2;exact⟨rfl,hx3.trans Af⟩
  ·rw [Bool.true_and]at HX;(go_wp2_with fail);(with_reducible refine(t2 _ (hw1.ext Af)).mono ?_);rintro e w4 ⟨rfl,Ae⟩;go_wp2;go_ret2;exact⟨by rw [HX.out];rfl,(hx3.trans Af).trans Ae⟩
theorem aK(x y:Int)(hx:x.natAbs<10000000)(hy:y.natAbs<10000000)(w:World)(hw:Ai w):Calls Tryz.prog 161 #[.int .i64 x,.int .i64 y] w (Bg (Ak ⟨x,y⟩) w):=by
 have o1:=nY x (by omega) (by omega);have o2:=nY y (by omega) (by omega);have hb:=Ase w (.cells #[S [],S []] 35);have hE:=(Aa.refl w).alloc (.cells #[S [],S []] 35);unfold Ak;clear hx hy;go_enter Tryz.func161,Tryz.ntmps161;(go_wp2_with fail);rw [show (⟨#[]⟩:ByteArray)=⟨([]:Bs).toArray⟩from rfl];(with_reducible refine(o1 _ (hw.ext hE)).mono ?_);rintro e w1 ⟨rfl,hx⟩;replace hb:=(hx.block _ (Asd hb)).trans hb;replace hE:=hE.trans hx;(go_wp2_with fail);(with_reducible refine(o2 _ (hw.ext hE)).mono ?_);rintro e w2 ⟨rfl,hx2⟩;replace hb:=(hx2.block _ (Asd hb)).trans hb;replace hE:=hE.trans hx2;have g1:=Ab (o:=0) hb rfl;have g2:=Ab (o:=1) hb rfl;have g3:=An (o:=0) hb;have g4:=An (o:=1) hb;obtain⟨e1,e2⟩:=set2 (S (R (x:Rat))) (S (R (y:Rat))) g1 g2;go_wp2;refine bodyPost_ret (v:=.agg #[S (R (x:Rat)),S (R (y:Rat))]) (by simp [results,Tryz.results161,go_sem,e1,e2]) rfl ?_;exact⟨rfl,(hE.setCell (Asf _) _).setCell (Asf _) _⟩
theorem AjP(z:Int)(w:World):Calls Tryz.prog 255 #[S (I z)] w (A0 (D z.natAbs) w):=by
 have t:=pE (I z) [45];rw [pD]at t;go_enter Tryz.func255,Tryz.ntmps255;(go_wp2_with fail);(with_reducible refine(t _).mono ?_);rintro e w1 ⟨rfl,hx⟩;go_wp2;go_ret;exact⟨rfl,hx⟩
theorem wq(q:Rat)(hq:Sz 200 q)(w:World)(hw:Ai w):Calls Tryz.prog 228 #[S (R q)] w (Dq false w):=by
 have p:=Aax q (by omega) (by omega) hq w hw;have ab:=AjP q.num;have l1:=Ck (by omega) hq.num;have l2:=Ck (by omega) hq.den;unfold Rz at p;obtain⟨n,hn⟩:=AcG (D q.num.natAbs);obtain⟨d,hd⟩:=AcG (D q.den);rw [←hn]at ab l1;rw [←hd]at p l2;have n1:¬((n.length:Int)>200):=(by omega);have n2:¬((d.length:Int)>200):=(by omega);clear hn hd l1 l2;go_enter Tryz.func228,Tryz.ntmps228;(go_wp2_with fail);(with_reducible refine p.mono ?_);rintro e w1 ⟨rfl,hx⟩;(go_wp2_with fail);(with_reducible refine(ab _).mono ?_);rintro e w2 ⟨rfl,hx2⟩;go_wp2;go_ret;exact⟨by simp [n1,n2],hx.trans hx2⟩
def Vw(p:Pt):Value:=.tuple #[Ak p,.int .i64 0]
theorem AoW(x y:Rat)(hx:Sz 200 x)(hy:Sz 200 y)(w:World)(hw:Ai w):Calls Tryz.prog 163 #[S (R x),S (R y)] w (Bg (Vw ⟨x,y⟩) w):=by
 have l1:=wq x hx;have l2:=wq y hy;have hb:=Ase w (.cells #[S [],S []] 35);have hE:=(Aa.refl w).alloc (.cells #[S [],S []] 35);unfold Vw Ak;clear hx hy;go_enter Tryz.func163,Tryz.ntmps163;(go_wp2_with fail);rw [show (⟨#[]⟩:ByteArray)=⟨([]:Bs).toArray⟩from rfl];(with_reducible refine(l1 _ (hw.ext hE)).mono ?_);rintro e w1 ⟨rfl,hx⟩;replace hb:=(hx.block _ (Asd hb)).trans hb;replace hE:=hE.trans hx;(go_wp2_with fail);(with_reducible refine(l2 _ (hw.ext hE)).mono ?_);rintro e w2 ⟨rfl,hx2⟩;replace hb:=(hx2.block _ (Asd hb)).trans hb;replace hE:=hE.trans hx2;have g1:=Ab (o:=0) hb rfl;have g2:=Ab (o:=1) hb rfl;have g3:=An (o:=0) hb;have g4:=An (o:=1) hb;obtain⟨e1,e2⟩:=set2 (S (R x)) (S (R y)) g1 g2;go_wp2;refine bodyPost_ret (v:=.tuple #[.agg #[S (R x),S (R y)],.int .i64 0]) (by simp [results,Tryz.results163,go_sem,e1,e2]) rfl ?_;exact⟨rfl,(hE.setCell (Asf _) _).setCell (Asf _) _⟩
theorem AbL(a b k:Rat)(ha:Sz 50 a)(hb:Sz 50 b)(hk:Sz 50 k)(w:World)(hw:Ai w):Calls Tryz.prog 164 #[S (R a),S (R b),S (R k)] w (A0 (R (CL a b k)) w):=by
 have s1:=BS b a (a:=50) (b:=50) ⟨hb,ha,by omega,by omega,by omega⟩;have m1:=Io k (b-a) (a:=50) (b:=101) ⟨hk,hb.sub ha,by omega,by omega,by omega⟩;have a1:=Ol a (k*(b-a)) (a:=50) (b:=151) ⟨ha,hk.mul (hb.sub ha),by omega,by omega,by omega⟩;have e:CL a b k=a+k*(b-a):=rfl;rw [e];clear ha hb hk e;go_enter Tryz.func164,Tryz.ntmps164;(go_wp2_with fail);(with_reducible refine(s1 _ hw).mono ?_);rintro e w1 ⟨rfl,hx1⟩;(go_wp2_with fail);(with_reducible refine(m1 _ (hw.ext hx1)).mono ?_);rintro e w2 ⟨rfl,hx2⟩;have BB:=hx1.trans hx2;(go_wp2_with fail);(with_reducible refine(a1 _ (hw.ext BB)).mono ?_);rintro e w3 ⟨rfl,hx3⟩;go_wp2;go_ret;exact⟨rfl,BB.trans hx3⟩
theorem AbM(a b:Pt)(k:Rat)(ha:Aq 20 a)(hb:Aq 20 b)(hk:Sz 20 k)(w:World)(hw:Ai w):Calls Tryz.prog 86 #[Ak a,Ak b,S (R k)] w (Bg (Vw ⟨CL a.x b.x k,CL a.y b.y k⟩) w):=by
 have s1:=AbL a.x b.x k (ha.x.mono (by omega)) (hb.x.mono (by omega)) (hk.mono (by omega));have s2:=AbL a.y b.y k (ha.y.mono (by omega)) (hb.y.mono (by omega)) (hk.mono (by omega));have pc:=AoW (CL a.x b.x k) (CL a.y b.y k) ((aG ha.x hb.x hk).mono (by omega)) ((aG ha.y hb.y hk).mono (by omega))
 have hl:∀p∈[a,b],Aq 200 p:=by
  intro p hp;simp only [List.mem_cons,Asr,or_false]at hp
  rcases hp with rfl|rfl
  ·exact⟨ha.x.mono (by omega),ha.y.mono (by omega)⟩
  ·exact⟨hb.x.mono (by omega),hb.y.mono (by omega)⟩
 have nb:=yl [R k] true (by simp [Zw,Li hk (by omega) (by omega)]);obtain⟨W,hW,hE,hb1,hb2,hb3⟩:=G9 w (.cells #[S (R a.x),S (R a.y)] 35) (.cells #[S (R b.x),S (R b.y)] 35) (.cells #[S [],S []] 35);have pt:Calls Tryz.prog 162 #[.slice (some ⟨W.heap.size,0,none⟩) 2 2] (W.alloc (.cells #[S (R a.x),S (R a.y),S (R b.x),S (R b.y)] 35)) (AQ 0 _):=pJ [a,b] hl (some ⟨W.heap.size,0,none⟩) 2 (W.alloc (.cells #[S (R a.x),S (R a.y),S (R b.x),S (R b.y)] 35)) ((hw.ext hE).ext ((Aa.refl W).alloc _)) (Am.lit W #[S (R a.x),S (R a.y),S (R b.x),S (R b.y)] 35) (by simp) (by omega);have I5:=(Aa.refl W).alloc (.cells #[S (R a.x),S (R a.y),S (R b.x),S (R b.y)] 35);have Co:(R k).length<100000:=(by have:=Hv (by omega) hk;omega);have NW:∀(W1:World) (hw1:Ai W1),Calls Tryz.prog 113 #[.slice (some ⟨W1.heap.size,0,none⟩) 1 1] (W1.alloc (.cells #[S (R k)] 33)) (AQ (E8 true) _):=fun (W1:World) (hw1:Ai W1)=>nb (some ⟨W1.heap.size,0,none⟩) 1 (W1.alloc (.cells #[S (R k)] 33)) (hw1.ext ((Aa.refl W1).alloc _)) (Am.lit W1 #[S (R k)] 33) (by simp) (by omega) (by simp) (by simpa using Co);rw [GA]at NW;unfold Vw Ak at pc ⊢;clear ha hb hk hl nb;obtain⟨p,hp⟩:=AcG (CL a.x b.x k);obtain⟨q,hq⟩:=AcG (CL a.y b.y k);rw [←hp]at s1 pc ⊢;rw [←hq]at s2 pc ⊢;clear hp hq;go_enter Tryz.func86,Tryz.ntmps86
 go_upto_region 1 with fail
 rw [show (⟨#[]⟩:ByteArray)=⟨([]:Bs).toArray⟩from rfl,←hW];clear hW;have k1:=Ab (o:=0) hb1 rfl;have k2:=Ab (o:=1) hb1 rfl;have k3:=Ab (o:=0) hb2 rfl;have k4:=Ab (o:=1) hb2 rfl;(go_wp2_with fail);(with_reducible refine pt.mono ?_);rintro e w1 ⟨rfl,hx1⟩;have hx2:=I5.trans hx1;have hw1:=hw.ext (hE.trans hx2);clear k1 k2 k3 k4;(go_wp2_with fail);(with_reducible refine(NW _ hw1).mono ?_);rintro e w2 ⟨rfl,hx3⟩;have Af:=(hx2.alloc (.cells #[S (R k)] 33)).trans hx3;have h1:=(Af.block _ (Asd hb1)).trans hb1;have h2:=(Af.block _ (Asd hb2)).trans hb2;have h3:=(Af.block _ (Asd hb3)).trans hb3;have FD:=hE.trans Af;have hw2:=hw.ext FD;have k1:=Ab (o:=0) h1 rfl;have k2:=Ab (o:=1) h1 rfl;have k3:=Ab (o:=0) h2 rfl;have k4:=Ab (o:=1) h2 rfl;have X:Aa w2 w2:=Aa.refl w2
 have SO:∀w',Aa w2 w'→(w'.cell? ⟨w.heap.size,0,none⟩=some (S (R a.x))/\w'.cell? ⟨w.heap.size,1,none⟩=some (S (R a.y))/\w'.cell? ⟨w.heap.size+1,0,none⟩=some (S (R b.x))/\w'.cell? ⟨w.heap.size+1,1,none⟩=some (S (R b.y))):=fun w' h=>⟨h.cellS k1,h.cellS k2,h.cellS k3,h.cellS k4⟩
 have Nt:=h3;clear h1 h2 hb1 hb2 hb3 hx1 hx2 hx3 Af pt NW I5 hw1 h3
 go_upto_region 7 with fail
 go_region_held3 (fun w'=>w'.cell? ⟨w.heap.size,0,none⟩=some (S (R a.x))/\w'.cell? ⟨w.heap.size,1,none⟩=some (S (R a.y))/\w'.cell? ⟨w.heap.size+1,0,none⟩=some (S (R b.x))/\w'.cell? ⟨w.heap.size+1,1,none⟩=some (S (R b.y)))
  (first|with_reducible exact SO _ X|with_reducible exact SO _ X.drew|(refine⟨?_,?_,?_,?_⟩<;>(rw [World.cell?_setCell_far _ _ _ _ (by simp only [ne_eq];omega),World.cell?_setCell_far _ _ _ _ (by simp only [ne_eq];omega)];first|exact(SO _ X).1|exact(SO _ X).2.1|exact(SO _ X).2.2.1|exact(SO _ X).2.2.2)))
  (first|((with_reducible refine(s1 _ (hw2.ext (by first|exact X|exact X.drew))).mono ?_);rintro e w3 ⟨rfl,hx1⟩;replace X:Aa w2 w3:=(by first|exact X.trans hx1|exact X.drew.trans hx1))|((with_reducible refine(s2 _ (hw2.ext (by first|exact X|exact X.drew))).mono ?_);rintro e w3 ⟨rfl,hx1⟩;replace X:Aa w2 w3:=(by first|exact X.trans hx1|exact X.drew.trans hx1))|((with_reducible refine(pc _ (hw2.ext (by first|exact X|exact X.drew))).mono ?_);rintro e w3 ⟨rfl,hx1⟩;replace X:Aa w2 w3:=(by first|exact X.trans hx1|exact X.drew.trans hx1);have hb3:=(X.block _ (Asd Nt)).trans Nt;have g1:=Ab (o:=0) hb3 rfl;have g2:=Ab (o:=1) hb3 rfl;have g3:=An (o:=0) hb3;have g4:=An (o:=1) hb3))
 obtain⟨e1,e2⟩:=set2 (S (R p)) (S (R q)) g1 g2;go_wp2;refine bodyPost_ret (v:=.tuple #[.agg #[S (R p),S (R q)],.int .i64 0]) (by simp [results,Tryz.results86,go_sem,e1,e2]) rfl ?_;exact⟨rfl,((FD.trans X).setCell (by show w.heap.size<=w.heap.size+1+1;omega) _).setCell (by show w.heap.size<=w.heap.size+1+1;omega) _⟩
def gp(u:Int×Int):Pt:=⟨(u.1:Rat)/2,(u.2:Rat)/2⟩
structure Oz(u:Int×Int):Prop where
 x0:0<=u.1
 x1:u.1<=6
 y0:0<=u.2
 y1:u.2<=6
theorem Oz.on{u:Int×Int}(h:Oz u):Gg (gp u):=⟨⟨u.1,by have:=h.x0;have:=h.x1;omega,rfl⟩,⟨u.2,by have:=h.y0;have:=h.y1;omega,rfl⟩⟩
theorem Oz.sz{u:Int×Int}(h:Oz u):Aq 20 (gp u):=h.on.sz (by omega)
theorem Oz.sz2{u:Int×Int}(h:Oz u):Aq 200 (gp u):=h.on.sz (by omega)
theorem AhH{a b:Int} : (a:Rat)/2<=(b:Rat)/2↔a<=b:=by
 constructor
 ·intro h;have:(a:Rat)<=(b:Rat):=(by grind);exact Rat.intCast_le_intCast.1 this
 ·intro h;have:(a:Rat)<=(b:Rat):=Rat.intCast_le_intCast.2 h
  grind
theorem AgX(x y:Int):gp (2*x,2*y)=⟨x,y⟩:=by
 unfold gp;simp only [Pt.mk.injEq,Rat.intCast_mul];constructor<;>grind
theorem xk(a b m:Int)(h:a+b=2*m):CL ((a:Rat)/2) ((b:Rat)/2) (1/2)=(m:Rat)/2:=by
 unfold CL
 have:(a:Rat)+(b:Rat)=2*(m:Rat):=by rw [←Rat.intCast_add,h,Rat.intCast_mul];rfl
 grind
theorem wW(u v m:Int×Int)(h1:u.1+v.1=2*m.1)(h2:u.2+v.2=2*m.2):(⟨CL (gp u).x (gp v).x (1/2),CL (gp u).y (gp v).y (1/2)⟩:Pt)=gp m:=by
 unfold gp;simp only [xk _ _ _ h1,xk _ _ _ h2]
theorem Ab0:Sz 20 (1/2:Rat):=by
 have:(1/2:Rat)=mkRat 1 2:=(by decide +kernel);rw [this];exact Sz.mkRat (by omega) (by decide) (by decide)
def CC(n:Nat):Bs:=if n%4=0 then [97] else if n%4=1 then [98] else if n%4=2 then [99] else [100]
theorem AbE(n:Nat)(hn:n<256)(w:World):Calls Tryz.prog 85 #[.int .u8 (n:Nat)] w (A0 (CC n) w):=by
 have hE:=(Aa.refl w).alloc (.cells #[S [97],S [98],S [99],S [100]] 9);obtain⟨r,hr⟩:=AcG (n%4:Nat);have Py:((n:Int).tmod 4)=(r:Int):=(by rw [Int.tmod_eq_emod_of_nonneg (by omega)];omega);have hr4:r<4:=by omega
 have hu:CC n=if r=0 then [97] else if r=1 then [98] else if r=2 then [99] else [100]:=by unfold CC;rw [hr]
 rw [hu];clear hu hr;go_enter Tryz.func85,Tryz.ntmps85
 go_upto_region 1 with fail
 rcases(show r=0∨r=1∨r=2∨r=3 by omega)with h|h|h|h
 all_goals (
  subst h;go_wp2;go_ret
  exact⟨rfl,hE⟩)
theorem dM{w:World}{b:Nat}{a0 a1 a2:Value}{t:TypeId}(v0 v1 v2:Value)(h:w.heap[b]?=some (.cells #[a0,a1,a2] t)) :
  (((w.setCell ⟨b,0,none⟩ v0).setCell ⟨b,1,none⟩ v1).setCell ⟨b,2,none⟩ v2).heap[b]?=some (.cells #[v0,v1,v2] t):=by
 simp only [World.setCell,Array.getElem?_modify,h];simp
def aA(x y:Int):List (Int×Int):=[(2*x,2*y),(2*x+2,2*y),(2*x+2,2*y+2),(2*x,2*y+2)]
def Xo(l:List (Int×Int)):List Value:=flat (AI (l.map gp))
theorem Aok(x y:Int):Xo (aA x y) = [S (R (x:Rat)),S (R (y:Rat)),S (R ((x+1:Int):Rat)),S (R (y:Rat)),S (R ((x+1:Int):Rat)),S (R ((y+1:Int):Rat)),S (R (x:Rat)),S (R ((y+1:Int):Rat))]:=by
 have e1:(2*x+2:Int)=2*(x+1):=(by omega);have e2:(2*y+2:Int)=2*(y+1):=(by omega);unfold Xo aA;rw [e1,e2];simp only [List.map_cons,List.map_nil,AgX]
 rfl
theorem Aor(x y:Int)(hx:0<=x)(hx2:x<=2)(hy:0<=y)(hy2:y<=2)(u:Bs)(w:World)(hw:Ai w):Calls Tryz.prog 84 #[.int .i64 x,.int .i64 y,S u] w fun e w'=>
  ∃b,e=.returned (.agg #[.slice (some ⟨b,0,none⟩) 4 4,S u,.slice none 0 0])/\w.heap.size<=b/\w'.heap[b]?=some (.cells (Xo (aA x y)).toArray 35)/\Aa w w':=by
 have a1:=aK x y (by omega) (by omega);have a2:=aK (x+1) y (by omega) (by omega);have a3:=aK (x+1) (y+1) (by omega) (by omega);have a4:=aK x (y+1) (by omega) (by omega);have v1:IntKind.wrap .i64 (x+1)=x+1:=Asm _ (by omega);have v2:IntKind.wrap .i64 (y+1)=y+1:=Asm _ (by omega);rw [Aok];have hb:=Ase w (.cells #[.slice none 0 0,S [],.slice none 0 0] 140);have hE:=(Aa.refl w).alloc (.cells #[.slice none 0 0,S [],.slice none 0 0] 140);unfold Ak at a1 a2 a3 a4;simp only at a1 a2 a3 a4;obtain⟨p,hp⟩:=AcG (R (x:Rat));obtain⟨q,hq⟩:=AcG (R (y:Rat));obtain⟨r,hr⟩:=AcG (R ((x+1:Int):Rat));obtain⟨s,hs⟩:=AcG (R ((y+1:Int):Rat));rw [←hp,←hq]at a1;rw [←hr,←hq]at a2;rw [←hr,←hs]at a3;rw [←hp,←hs]at a4;rw [←hp,←hq,←hr,←hs];clear hp hq hr hs hx hx2 hy hy2;go_enter Tryz.func84,Tryz.ntmps84;(go_wp2_with fail);rw [show (⟨#[]⟩:ByteArray)=⟨([]:Bs).toArray⟩from rfl];(with_reducible refine(a1 _ (hw.ext hE)).mono ?_);rintro e w1 ⟨rfl,hx⟩;replace hb:=(hx.block _ (Asd hb)).trans hb;replace hE:=hE.trans hx;clear hx;(go_wp2_with fail);(with_reducible refine(a2 _ (hw.ext hE)).mono ?_);rintro e w2 ⟨rfl,hx⟩;replace hb:=(hx.block _ (Asd hb)).trans hb;replace hE:=hE.trans hx;clear hx;(go_wp2_with fail);(with_reducible refine(a3 _ (hw.ext hE)).mono ?_);rintro e w3 ⟨rfl,hx⟩;replace hb:=(hx.block _ (Asd hb)).trans hb;replace hE:=hE.trans hx;clear hx;(go_wp2_with fail);(with_reducible refine(a4 _ (hw.ext hE)).mono ?_);rintro e w4 ⟨rfl,hx⟩;replace hb:=(hx.block _ (Asd hb)).trans hb;replace hE:=hE.trans hx;clear hx;have Em:=Ase w4 (.cells #[S p,S q,S r,S q,S r,S s,S p,S s] 35);have Ke:=hE.size;have C5:=(Aa.refl w4).alloc (.cells #[S p,S q,S r,S q,S r,S s,S p,S s] 35);have hlt:=Asd hb;have k1:w4.cell? ⟨w.heap.size,0,none⟩=some (.slice none 0 0):=Ab hb rfl;have k2:w4.cell? ⟨w.heap.size,1,none⟩=some (S []):=Ab hb rfl;have k3:w4.cell? ⟨w.heap.size,2,none⟩=some (.slice none 0 0):=Ab hb rfl;have k4:=An (o:=0) hb;have k5:=An (o:=1) hb;have k6:=An (o:=2) hb;have Fj:=hE.trans C5;go_wp2;have EB:=dM (.slice (some ⟨w4.heap.size,0,none⟩) 4 4) (S u) (.slice none 0 0) hb;have xO:=((hE.setCell (p:=⟨w.heap.size,0,none⟩) (Asf _) (.slice (some ⟨w4.heap.size,0,none⟩) 4 4)).setCell (p:=⟨w.heap.size,1,none⟩) (Asf _) (S u)).setCell (p:=⟨w.heap.size,2,none⟩) (Asf _) (.slice none 0 0);have pq:(((w4.setCell ⟨w.heap.size,0,none⟩ (.slice (some ⟨w4.heap.size,0,none⟩) 4 4)).setCell ⟨w.heap.size,1,none⟩ (S u)).setCell ⟨w.heap.size,2,none⟩ (.slice none 0 0)).heap.size=w4.heap.size:=(by simp);unfold S at EB xO pq;generalize (((w4.setCell ⟨w.heap.size,0,none⟩ (.slice (some ⟨w4.heap.size,0,none⟩) 4 4)).setCell ⟨w.heap.size,1,none⟩ (.string ⟨u.toArray⟩)).setCell ⟨w.heap.size,2,none⟩ (.slice none 0 0))=w9 at *;obtain⟨b0,hb0⟩:=AcG w.heap.size;have Yv:=Asd EB;rw [←hb0]at EB Yv ⊢;have I5:=(Aa.refl w9).alloc (.cells #[S p,S q,S r,S q,S r,S s,S p,S s] 35);have gG:=(I5.block _ (Asd EB)).trans EB;have e1:=Ab (o:=0) gG rfl;have e2:=Ab (o:=1) gG rfl;have e3:=Ab (o:=2) gG rfl;have hnew:=Ase w9 (.cells #[S p,S q,S r,S q,S r,S s,S p,S s] 35)
 rw [pq]at hnew;have Ahs:=xO.alloc (.cells #[S p,S q,S r,S q,S r,S s,S p,S s] 35);generalize w9.alloc (.cells #[S p,S q,S r,S q,S r,S s,S p,S s] 35)=FZ at *;refine bodyPost_ret (v:=.agg #[.slice (some ⟨w4.heap.size,0,none⟩) 4 4,.string ⟨u.toArray⟩,.slice none 0 0]) (by simp [results,Tryz.results84,go_sem,e1,e2,e3]) rfl ?_;exact⟨w4.heap.size,rfl,by rw [hb0];exact Ke,hnew,Ahs⟩
def BL(p:Pt):Prop:=∃u,Oz u/\p=gp u
theorem BL.on{p:Pt}(h:BL p):Gg p:=by obtain⟨u,hu,rfl⟩:=h;exact hu.on
theorem BL.sz{p:Pt}(h:BL p):Aq 20 p:=h.on.sz (by omega)
theorem BL.sz2{p:Pt}(h:BL p):Aq 200 p:=h.on.sz (by omega)
structure Hf where
 a:Pt
 b:Pt
 l:Int
def Jo(h:Hf):Value:=.agg #[S (R h.a.x),S (R h.a.y),S (R h.b.x),S (R h.b.y),.int .i64 h.l]
def Bl(l:List Hf):List Value:=l.flatMap fun h=>[S (R h.a.x),S (R h.a.y),S (R h.b.x),S (R h.b.y),.int .i64 h.l]
theorem dw(l:List Hf):(Bl l).length=l.length*5:=by
 induction l with
 | nil=>rfl
 | cons h l ih=>simp [Bl]at ih ⊢;omega
theorem QC:∀(l:List Hf) (j:Nat) (h:j<l.length),(Bl l)[j*5]?=some (S (R l[j].a.x))/\(Bl l)[j*5+1]?=some (S (R l[j].a.y))/\(Bl l)[j*5+2]?=some (S (R l[j].b.x))/\(Bl l)[j*5+3]?=some (S (R l[j].b.y))/\(Bl l)[j*5+4]?=some (.int .i64 l[j].l)
 | e::l,0,_=>⟨rfl,rfl,rfl,rfl,rfl⟩
 | e::l,j+1,h=>by
  have ih:=QC l j (by simpa using h);have e0:Bl (e::l)=S (R e.a.x)::S (R e.a.y)::S (R e.b.x)::S (R e.b.y) :: .int .i64 e.l::Bl l:=rfl;rw [e0];have e1:(j+1)*5=j*5+1+1+1+1+1:=(by omega);rw [e1]
  simpa using ih
structure Kv(w:World)(b o:Nat)(h:Hf):Prop where
 c0:w.cell? ⟨b,o,none⟩=some (S (R h.a.x))
 c1:w.cell? ⟨b,o+1,none⟩=some (S (R h.a.y))
 c2:w.cell? ⟨b,o+2,none⟩=some (S (R h.b.x))
 c3:w.cell? ⟨b,o+3,none⟩=some (S (R h.b.y))
 c4:w.cell? ⟨b,o+4,none⟩=some (.int .i64 h.l)
theorem Kv.ext{w w':World}{b o:Nat}{h:Hf}(k:Kv w b o h)(hx:Aa w w'):Kv w' b o h:=⟨hx.cellS k.c0,hx.cellS k.c1,hx.cellS k.c2,hx.cellS k.c3,hx.cellS k.c4⟩
theorem M6{w:World}{A:Option Addr}{l:List Hf}(hr:Am w A (Bl l)){j:Nat}(h:j<l.length):∃b o,A=some ⟨b,o,none⟩/\Kv w b (o+j*5) l[j]:=by
 have hl:=dw l;obtain⟨b,o,e,hcs⟩:=hr.ad (by omega);obtain⟨f1,f2,f3,f4,f5⟩:=QC l j h;have g1:=hcs (j*5) (by omega);have g2:=hcs (j*5+1) (by omega);have g3:=hcs (j*5+2) (by omega);have g4:=hcs (j*5+3) (by omega);have g5:=hcs (j*5+4) (by omega);rw [Asl (by omega),Asj]at f1 f2 f3 f4 f5;rw [f1]at g1;rw [f2,←Nat.add_assoc]at g2;rw [f3,←Nat.add_assoc]at g3;rw [f4,←Nat.add_assoc]at g4;rw [f5,←Nat.add_assoc]at g5;exact⟨b,o,e,g1,g2,g3,g4,g5⟩
def Ki(h x:Hf):Bool:=Ar x.a h.b&&Ar x.b h.a
def Ez(l:List Hf)(h:Hf):Int:=match l.find? (Ki h)with|some x=>x.l|none=>-1
theorem Ae7{l:List Hf}{h:Hf}{j:Nat}(hj:j<l.length)(hno:∀q∈l.take j,Ki h q=false)(he:Ki h l[j]=true):Ez l h=l[j].l:=by
 unfold Ez
 have:l.find? (Ki h)=some l[j]:=by rw [List.find?_eq_some_iff_getElem];exact⟨he,j,hj,rfl,fun i hi=>by rw [hno l[i] (by rw [List.mem_take_iff_getElem];exact⟨i,by omega,rfl⟩)];rfl⟩
 rw [this]
theorem Ae9{l:List Hf}{h:Hf}(hno:∀q∈l,Ki h q=false):Ez l h = -1:=by
 unfold Ez;rw [List.find?_eq_none.2 (fun q hq=>by rw [hno q hq];simp)]
theorem Ae8(l:List Hf)(h:Hf):Ez l h = -1∨∃x∈l,Ez l h=x.l:=by
 unfold Ez
 cases hf:l.find? (Ki h)with
 | none=>exact .inl rfl
 | some x=>exact .inr ⟨x,List.mem_of_find?_eq_some hf,rfl⟩
theorem WE(l:List Hf)(h:Hf)(A:Option Addr)(c:Nat)(w:World)(hr:Am w A (Bl l))(hc:l.length<=c)(hcm:c<=9223372036854775807) :
  Calls Tryz.prog 81 #[.slice A l.length c,Jo h] w (AQ (Ez l h) w):=by
 have pe:=RR;have hb0:=Ase w (.cells #[S (R h.a.x),S (R h.a.y),S (R h.b.x),S (R h.b.y),.int .i64 h.l] 137);have hE:=(Aa.refl w).alloc (.cells #[S (R h.a.x),S (R h.a.y),S (R h.b.x),S (R h.b.y),.int .i64 h.l] 137);obtain⟨r,hr0⟩:=AcG (Ez l h);rw [←hr0];have HR:=Asb hr0;unfold Jo;clear hr0;go_enter Tryz.func81,Tryz.ntmps81
 go_upto_region 2 with fail
 generalize w.alloc (.cells #[S (R h.a.x),S (R h.a.y),S (R h.b.x),S (R h.b.y),.int .i64 h.l] 137)=V at *;obtain⟨bp,AS⟩:=AcG w.heap.size;rw [←AS]at hb0 ⊢;clear AS
 go_loopw [5] (fun i wr=>∃j:Nat,i=.int .i64 (j:Nat)/\j<=l.length/\(∀q∈l.take j,Ki h q=false)/\Aa V wr) (fun i _=>l.length-(intOf i).toNat)
 case atStart=>exact⟨0,rfl,by omega,by simp,Aa.refl _⟩
 case round=>
  obtain⟨j,rfl,hj,Au,Ac⟩:=hrel;have HO:=Asb Au;clear Au;have hbr:=(Ac.block _ (Asd hb0)).trans hb0;have k1:∀q:Ad wr,q.w.cell? ⟨bp,0,none⟩=some (S (R h.a.x)):=Ad.cell (Ab (o:=0) hbr rfl);have k2:∀q:Ad wr,q.w.cell? ⟨bp,1,none⟩=some (S (R h.a.y)):=Ad.cell (Ab (o:=1) hbr rfl);have k3:∀q:Ad wr,q.w.cell? ⟨bp,2,none⟩=some (S (R h.b.x)):=Ad.cell (Ab (o:=2) hbr rfl);have k4:∀q:Ad wr,q.w.cell? ⟨bp,3,none⟩=some (S (R h.b.y)):=Ad.cell (Ab (o:=3) hbr rfl);clear hbr;by_cases hlt:j<l.length
  ·obtain⟨b,o,rfl,hf⟩:=M6 (hr.ext (hE.trans Ac)) hlt;obtain⟨x,hx⟩:=AcG (l[j]);rw [←hx]at hf;obtain⟨f0,f1,f2,f3,f4⟩:=hf;have j0:∀q:Ad wr,q.w.cell? ⟨b,o+j*5,none⟩=some (S (R x.a.x)):=Ad.cell f0;have j1:∀q:Ad wr,q.w.cell? ⟨b,o+j*5+1,none⟩=some (S (R x.a.y)):=Ad.cell f1;have j2:∀q:Ad wr,q.w.cell? ⟨b,o+j*5+2,none⟩=some (S (R x.b.x)):=Ad.cell f2;have j3:∀q:Ad wr,q.w.cell? ⟨b,o+j*5+3,none⟩=some (S (R x.b.y)):=Ad.cell f3;have j4:∀q:Ad wr,q.w.cell? ⟨b,o+j*5+4,none⟩=some (.int .i64 x.l):=Ad.cell f4;have hj0:(0:Int)<=(j:Int):=(by omega);have AG:(j:Int)<(l.length:Int):=(by omega);have HQ:=Asb hx;clear hx f0 f1 f2 f3 f4
   cases e0:Ki h x
   ·have HE:=Asb e0
    have rel:∀q∈l.take (j+1),Ki h q=false:=by
     intro y hy;rw [Asi hlt,←HQ.out]at hy
     rcases List.mem_append.1 hy with h|h
     ·exact HO.out y h
     ·simp only [Ass]at h;rw [h];exact HE.out
    have rA:=Asb rel;clear rel;unfold Ki at e0
    cases e1:Ar x.a h.b
    ·go_upto_region 4 with fail
     refine Bi (by kernel_rfl) (by kernel_rfl) ?_
     repeat (go_big_quiet_step (fail))
     refine wpQuiet_nil ?_;rintro _ ⟨q,rfl⟩;go_wp2;go_roundw
     case rel=>exact⟨j+1,by go_num,hlt,rA.out,Ac.trans q.h⟩
     case measure=>simp [intOf];omega
    ·rw [e1,Bool.true_and]at e0
     go_upto_region 4 with fail
     refine Bi (by kernel_rfl) (by kernel_rfl) ?_
     repeat (go_big_quiet_step (fail))
     refine wpQuiet_nil ?_;rintro _ ⟨q,rfl⟩;go_wp2;go_roundw
     case rel=>exact⟨j+1,by go_num,hlt,rA.out,Ac.trans q.h⟩
     case measure=>simp [intOf];omega
   ·have Hl:r=x.l:=(by rw [HR.out,Ae7 hlt HO.out (by rw [←HQ.out];exact e0),←HQ.out]);subst Hl;unfold Ki at e0;rw [Bool.and_eq_true]at e0;obtain⟨e1,e2⟩:=e0
    go_upto_region 4 with fail
    refine Bi (by kernel_rfl) (by kernel_rfl) ?_
    repeat (go_big_quiet_step (fail))
    refine wpQuiet_nil ?_;rintro _ ⟨q,rfl⟩;go_wp2;go_ret;exact⟨rfl,(hE.trans Ac).trans q.h⟩
  ·have hle:(l.length:Int)<=(j:Int):=(by omega);have Hl:r = -1:=(by rw [HR.out];exact Ae9 (by have:=HO.out;rw [Aso (by omega)]at this;exact this));subst Hl;clear k1 k2 k3 k4;go_wp2;go_ret;exact⟨rfl,hE.trans Ac⟩
end Go.Proofs.YtdaefncphfeaeaaGreatDoor
