/- W17. -/
import Derived.Test.YtnfedbopbcegjaaGreatDoorW13
import Derived.Test.YtnfedbopbcegjaaGreatDoorW16
set_option maxRecDepth 100000
set_option maxHeartbeats 4000000
namespace Go.Proofs.YtnfedbopbcegjaaGreatDoor
open Go.RowKit Kl Go.Shelf
section
attribute [local go_sem] Oper.semAt_some
theorem nl{a:Act}{l:List Value}{ds:List Deferred}(hs:a.tmps.size=l.length)(h:∀d (hd:d<l.length),a.eval (.tmp d)=l[d])(hd:a.defers=ds):a = {tmps:=l.toArray,defers:=ds}:=by
 obtain⟨t,d⟩:=a;simp only at hd hs;subst hd
 congr 1
 apply Array.ext
 ·simpa using hs
 ·intro i h1 h2;have:=h i (by simpa using h2);simp only [Act.eval,Array.getD_eq_getD_getElem?,Array.getElem?_eq_getElem h1,Option.getD_some]at this
  simpa using this
end
end Go.Proofs.YtnfedbopbcegjaaGreatDoor
namespace Go.Proofs.YtnfedbopbcegjaaGreatDoor
open Go.RowKit Kl
theorem Ah6(a b c d:Rat){k:Nat}(ha:Sz k a)(hb:Sz k b)(hc:Sz k c)(hd:Sz k d)(hk:0<k)(hk2:k<=4)(w:World)(hw:Ak w) :
  Calls Tryz.prog 243 #[S (R a),S (R b),S (R c),S (R d)] w (BK (R (a*d-b*c)) w):=by
 have m1:=Kk a d (a:=k) (b:=k) ⟨ha,hd,hk,hk,by omega⟩;have m2:=Kk b c (a:=k) (b:=k) ⟨hb,hc,hk,hk,by omega⟩;have sb:=Fu (a*d) (b*c) (a:=k+k) (b:=k+k) ⟨ha.mul hd,hb.mul hc,by omega,by omega,by omega⟩;clear ha hb hc hd;go_enter Tryz.func243,Tryz.ntmps243;(go_wp2_with fail);(with_reducible refine(m1 _ hw).mono ?_);rintro e w1 ⟨rfl,hx1⟩;(go_wp2_with fail);(with_reducible refine(m2 _ (hw.ext hx1)).mono ?_);rintro e w2 ⟨rfl,hx2⟩;have En:=hx1.trans hx2;(go_wp2_with fail);(with_reducible refine(sb _ (hw.ext En)).mono ?_);rintro e w3 ⟨rfl,hx3⟩;go_wp2;go_ret;exact⟨rfl,En.trans hx3⟩
theorem di(a b c:Pt){k:Nat}(ha:A0 k a)(hb:A0 k b)(hc:A0 k c)(hk:0<k)(hk2:k<=1)(w:World)(hw:Ak w) :
  Calls Tryz.prog 201 #[Ag a,Ag b,Ag c] w (BK (R (Ar a b c)) w):=by
 have s1:=Fu b.x a.x (a:=k) (b:=k) ⟨hb.x,ha.x,hk,hk,by omega⟩;have s2:=Fu b.y a.y (a:=k) (b:=k) ⟨hb.y,ha.y,hk,hk,by omega⟩;have s3:=Fu c.x a.x (a:=k) (b:=k) ⟨hc.x,ha.x,hk,hk,by omega⟩;have s4:=Fu c.y a.y (a:=k) (b:=k) ⟨hc.y,ha.y,hk,hk,by omega⟩;have m1:=Ah6 (b.x-a.x) (b.y-a.y) (c.x-a.x) (c.y-a.y) (k:=k+k+1) (hb.x.sub ha.x) (hb.y.sub ha.y) (hc.x.sub ha.x) (hc.y.sub ha.y) (by omega) (by omega);have e:Ar a b c=(b.x-a.x)*(c.y-a.y)-(b.y-a.y)*(c.x-a.x):=rfl;rw [←e]at m1;obtain⟨r,hr⟩:=AjJ (Ar a b c);rw [←hr]at m1 ⊢;unfold Ag;clear ha hb hc e hr;go_enter Tryz.func201,Tryz.ntmps201
 go_upto_region 1 with fail
 obtain⟨W,hW,hE,hb1,hb2,hb3⟩:=IA w (.cells #[S (R a.x),S (R a.y)] 28) (.cells #[S (R b.x),S (R b.y)] 28) (.cells #[S (R c.x),S (R c.y)] 28);rw [←hW];clear hW;have C6:=hw.ext hE;have q1:∀q:Ac W,q.w.cell? ⟨w.heap.size,0,none⟩=some (S (R a.x)):=Ac.cell (Ab hb1 rfl);have q2:∀q:Ac W,q.w.cell? ⟨w.heap.size,1,none⟩=some (S (R a.y)):=Ac.cell (Ab hb1 rfl);have q3:∀q:Ac W,q.w.cell? ⟨w.heap.size+1,0,none⟩=some (S (R b.x)):=Ac.cell (Ab hb2 rfl);have q4:∀q:Ac W,q.w.cell? ⟨w.heap.size+1,1,none⟩=some (S (R b.y)):=Ac.cell (Ab hb2 rfl);have q5:∀q:Ac W,q.w.cell? ⟨w.heap.size+1+1,0,none⟩=some (S (R c.x)):=Ac.cell (Ab hb3 rfl);have q6:∀q:Ac W,q.w.cell? ⟨w.heap.size+1+1,1,none⟩=some (S (R c.y)):=Ac.cell (Ab hb3 rfl);clear hb1 hb2 hb3;refine Bh (by kernel_rfl) (by kernel_rfl) ?_
 repeat (go_big_quiet_step (first|(with_reducible refine Mn (s1 _ (C6.ext (Ac.h _))))|(with_reducible refine Mn (s2 _ (C6.ext (Ac.h _))))|(with_reducible refine Mn (s3 _ (C6.ext (Ac.h _))))|(with_reducible refine Mn (s4 _ (C6.ext (Ac.h _))))|(with_reducible refine Mn (m1 _ (C6.ext (Ac.h _))))))
 refine wpQuiet_nil ?_;rintro _ ⟨q,rfl⟩;go_wp2;go_ret;exact⟨rfl,hE.trans q.h⟩
def Ix(a b x:Rat):Bool:=decide (Io a b<=x)&&decide (x<=Im a b)
theorem wk(p q:Rat):AC p q<=0↔p<=q:=by unfold AC;grind
theorem eh(a b x:Rat){k:Nat}(ha:Sz k a)(hb:Sz k b)(hx:Sz k x)(hk:0<k)(hk2:k<=4)(w:World)(hw:Ak w) :
  Calls Tryz.prog 202 #[S (R a),S (R b),S (R x)] w (BE (Ix a b x) w):=by
 have mn:=AfP a b (a:=k) (b:=k) ⟨ha,hb,hk,hk,by omega⟩;have mx:=AfO a b (a:=k) (b:=k) ⟨ha,hb,hk,hk,by omega⟩;have au:Sz k (Io a b):=(by unfold Io;split<;>assumption);have aw:Sz k (Im a b):=(by unfold Im;split<;>assumption);have c1:=FW (Io a b) x (a:=k) (b:=k) ⟨au,hx,hk,hk,by omega⟩;have c2:=FW x (Im a b) (a:=k) (b:=k) ⟨hx,aw,hk,hk,by omega⟩;obtain⟨r,hr⟩:=AjJ (Ix a b x);rw [←hr]
 have hr2:r=(decide (AC (Io a b) x<=0)&&decide (AC x (Im a b)<=0)):=by rw [hr];unfold Ix;simp only [wk]
 obtain⟨u,hu⟩:=AjJ (AC (Io a b) x);obtain⟨v,hv⟩:=AjJ (AC x (Im a b));rw [←hu]at c1 hr2;rw [←hv]at c2 hr2;obtain⟨p,hp⟩:=AjJ (Io a b);obtain⟨s,hs⟩:=AjJ (Im a b);rw [←hp]at mn c1;rw [←hs]at mx c2;clear hr ha hb hx au aw hp hs hu hv;by_cases h1:u<=0
 ·have d1:decide (u<=0)=true:=decide_eq_true h1;rw [d1,Bool.true_and]at hr2;have HR:=AjK hr2;clear hr2 h1;go_enter Tryz.func202,Tryz.ntmps202;(go_wp2_with fail);(with_reducible refine(mn _ hw).mono ?_);rintro e w1 ⟨rfl,hx1⟩;(go_wp2_with fail);(with_reducible refine(c1 _ (hw.ext hx1)).mono ?_);rintro e w2 ⟨rfl,hx2⟩;have En:=hx1.trans hx2;(go_wp2_with fail);(with_reducible refine(mx _ (hw.ext En)).mono ?_);rintro e w3 ⟨rfl,hx3⟩;have sV:=En.trans hx3;(go_wp2_with fail);(with_reducible refine(c2 _ (hw.ext sV)).mono ?_);rintro e w4 ⟨rfl,Aj⟩;go_wp2;go_ret;exact⟨by rw [HR.out];rfl,sV.trans Aj⟩
 ·have d1:decide (u<=0)=false:=decide_eq_false h1;rw [d1,Bool.false_and]at hr2;subst hr2;clear h1;go_enter Tryz.func202,Tryz.ntmps202;(go_wp2_with fail);(with_reducible refine(mn _ hw).mono ?_);rintro e w1 ⟨rfl,hx1⟩;(go_wp2_with fail);(with_reducible refine(c1 _ (hw.ext hx1)).mono ?_);rintro e w2 ⟨rfl,hx2⟩;go_wp2;go_ret;exact⟨rfl,hx1.trans hx2⟩
theorem bN(l:List Pt)(hz:∀p∈l,A0 1 p)(A:Option Addr)(c:Nat)(w:World)(hw:Ak w)(hr:Ad w A (flat (Aq l)))(hc:l.length<=c)(hcm:c<=9223372036854775807) :
  Calls Tryz.prog 139 #[.slice A l.length c] w (AB 0 w):=by
 have HL:=AjK hz;clear hz;go_enter Tryz.func139,Tryz.ntmps139
 go_upto_region 2 with fail
 go_loopw [8] (fun i wr=>∃j:Nat,i=.int .i64 (j:Nat)/\j<=l.length/\Aa w wr) (fun i _=>l.length-(intOf i).toNat)
 case atStart=>exact⟨0,rfl,by omega,Aa.refl _⟩
 case round=>
  obtain⟨j,rfl,hj,Ae⟩:=hrel;by_cases hlt:j<l.length
  ·obtain⟨b,o,rfl,hg1,hg2⟩:=CX (hr.ext Ae) hlt;have hp:=HL.out _ (AjO hlt);obtain⟨p,Kc⟩:=AjJ (l[j]);rw [←Kc]at hg1 hg2 hp;clear Kc;have ck:=S2 (R p.x) (R p.y) true (by simp [MW hp.x (by omega) (by omega),MW hp.y (by omega) (by omega)]) (by have:=KF (by omega) hp.x;omega) (by have:=KF (by omega) hp.y;omega);rw [Gg]at ck;have hx1:=Ae.alloc (.cells #[S (R p.x),S (R p.y)] 28);have hj0:(0:Int)<=(j:Int):=(by omega);have Ay:(j:Int)<(l.length:Int):=(by omega);clear hp;(go_wp2_with fail);(with_reducible refine(ck _ (hw.ext hx1)).mono ?_);rintro e w2 ⟨rfl,hx2⟩;go_wp2;go_roundw
   case rel=>exact⟨j+1,by go_num,hlt,hx1.trans hx2⟩
   case measure=>simp [intOf];omega
  ·have hle:(l.length:Int)<=(j:Int):=(by omega);go_wp2;go_ret;exact⟨rfl,Ae⟩
def xY(n:Int):Value:=.tuple #[.int .i64 n,.int .i64 0]
def xX(b:Bool):Value:=.tuple #[.bool b,.int .i64 0]
theorem Ah8(a b c:Pt)(ha:A0 1 a)(hb:A0 1 b)(hc:A0 1 c)(w:World)(hw:Ak w) :
  Calls Tryz.prog 203 #[Ag a,Ag b,Ag c] w (Cp (xY (AV (Ar a b c))) w):=by
 have ar:=di a b c ha hb hc (by omega) (by omega);have sg:=aE (Ar a b c)
 have hl:∀p∈[a,b,c],A0 1 p:=by
  intro p hp;simp only [List.mem_cons,AjY,or_false]at hp
  rcases hp with rfl|rfl|rfl<;>assumption
 obtain⟨r,hr⟩:=AjJ (Ar a b c);rw [←hr]at ar sg ⊢;obtain⟨W,hW,hE,hb1,hb2,hb3⟩:=IA w (.cells #[S (R a.x),S (R a.y)] 28) (.cells #[S (R b.x),S (R b.y)] 28) (.cells #[S (R c.x),S (R c.y)] 28);have pt:Calls Tryz.prog 139 #[.slice (some ⟨W.heap.size,0,none⟩) 3 3] (W.alloc (.cells #[S (R a.x),S (R a.y),S (R b.x),S (R b.y),S (R c.x),S (R c.y)] 28)) (AB 0 _):=bN [a,b,c] hl (some ⟨W.heap.size,0,none⟩) 3 (W.alloc (.cells #[S (R a.x),S (R a.y),S (R b.x),S (R b.y),S (R c.x),S (R c.y)] 28)) ((hw.ext hE).ext ((Aa.refl W).alloc _)) (Ad.lit W #[S (R a.x),S (R a.y),S (R b.x),S (R b.y),S (R c.x),S (R c.y)] 28) (by simp) (by omega);have CG:=hE.alloc (.cells #[S (R a.x),S (R a.y),S (R b.x),S (R b.y),S (R c.x),S (R c.y)] 28);have Gi:=(Aa.refl W).alloc (.cells #[S (R a.x),S (R a.y),S (R b.x),S (R b.y),S (R c.x),S (R c.y)] 28);have k1:=Ab (o:=0) hb1 rfl;have k2:=Ab (o:=1) hb1 rfl;have k3:=Ab (o:=0) hb2 rfl;have k4:=Ab (o:=1) hb2 rfl;have k5:=Ab (o:=0) hb3 rfl;have k6:=Ab (o:=1) hb3 rfl;unfold Ag at ar ⊢;clear ha hb hc hr hb1 hb2 hb3 hl;go_enter Tryz.func203,Tryz.ntmps203
 go_upto_region 1 with fail
 rw [←hW];clear hW;(go_wp2_with fail);(with_reducible refine pt.mono ?_);rintro e w1 ⟨rfl,hx1⟩;have hx2:=Gi.trans hx1;have hw1:=hw.ext (hE.trans hx2);replace k1:=hx2.cellS k1;replace k2:=hx2.cellS k2;replace k3:=hx2.cellS k3;replace k4:=hx2.cellS k4;replace k5:=hx2.cellS k5;replace k6:=hx2.cellS k6;have hx3:=hE.trans hx2;clear pt hE CG Gi hx1 hx2;(go_wp2_with fail);(with_reducible refine(ar _ hw1).mono ?_);rintro e w2 ⟨rfl,Aj⟩;(go_wp2_with fail);(with_reducible refine(sg _).mono ?_);rintro e w3 ⟨rfl,An⟩;go_wp2;go_ret2;exact⟨rfl,(hx3.trans Aj).trans An⟩
def IB(a b p:Pt):Bool:=decide (Ar a b p=0)&&(Ix a.x b.x p.x&&Ix a.y b.y p.y)
theorem Ahw(a b c:Pt)(ha:A0 1 a)(hb:A0 1 b)(hc:A0 1 c)(w:World)(hw:Ak w) :
  Calls Tryz.prog 131 #[Ag a,Ag b,Ag c] w (Cp (xX (IB a b c)) w):=by
 have ar:=di a b c ha hb hc (by omega) (by omega);have t1:=eh a.x b.x c.x ha.x hb.x hc.x (by omega) (by omega);have t2:=eh a.y b.y c.y ha.y hb.y hc.y (by omega) (by omega)
 have hl:∀p∈[a,b,c],A0 1 p:=by
  intro p hp;simp only [List.mem_cons,AjY,or_false]at hp
  rcases hp with rfl|rfl|rfl<;>assumption
 have hz:(R (Ar a b c) == [48])=decide (Ar a b c=0):=by
  by_cases h:Ar a b c=0
  ·rw [h,Fa];rfl
  ·rw [G5 h,decide_eq_false h]
 obtain⟨x,hx⟩:=AjJ (IB a b c);have hx':=hx;unfold IB at hx';obtain⟨u,hu⟩:=AjJ (decide (Ar a b c=0));obtain⟨s,hs⟩:=AjJ (Ix a.x b.x c.x);obtain⟨t,ht⟩:=AjJ (Ix a.y b.y c.y);rw [←hu]at hz hx';rw [←hs]at t1 hx';rw [←ht]at t2 hx';rw [←hx];obtain⟨r,hr⟩:=AjJ (Ar a b c);rw [←hr]at ar hz;have HX:=AjK hx';obtain⟨W,hW,hE,hb1,hb2,hb3⟩:=IA w (.cells #[S (R a.x),S (R a.y)] 28) (.cells #[S (R b.x),S (R b.y)] 28) (.cells #[S (R c.x),S (R c.y)] 28);have pt:Calls Tryz.prog 139 #[.slice (some ⟨W.heap.size,0,none⟩) 3 3] (W.alloc (.cells #[S (R a.x),S (R a.y),S (R b.x),S (R b.y),S (R c.x),S (R c.y)] 28)) (AB 0 _):=bN [a,b,c] hl (some ⟨W.heap.size,0,none⟩) 3 (W.alloc (.cells #[S (R a.x),S (R a.y),S (R b.x),S (R b.y),S (R c.x),S (R c.y)] 28)) ((hw.ext hE).ext ((Aa.refl W).alloc _)) (Ad.lit W #[S (R a.x),S (R a.y),S (R b.x),S (R b.y),S (R c.x),S (R c.y)] 28) (by simp) (by omega);have Gi:=(Aa.refl W).alloc (.cells #[S (R a.x),S (R a.y),S (R b.x),S (R b.y),S (R c.x),S (R c.y)] 28);have k1:=Ab (o:=0) hb1 rfl;have k2:=Ab (o:=1) hb1 rfl;have k3:=Ab (o:=0) hb2 rfl;have k4:=Ab (o:=1) hb2 rfl;have k5:=Ab (o:=0) hb3 rfl;have k6:=Ab (o:=1) hb3 rfl;unfold Ag at ar ⊢;clear ha hb hc hr hb1 hb2 hb3 hl hx hx' hu hs ht;go_enter Tryz.func131,Tryz.ntmps131
 go_upto_region 1 with fail
 rw [←hW];clear hW;(go_wp2_with fail);(with_reducible refine pt.mono ?_);rintro e w1 ⟨rfl,hx1⟩;have hx2:=Gi.trans hx1;have hw1:=hw.ext (hE.trans hx2);replace k1:=hx2.cellS k1;replace k2:=hx2.cellS k2;replace k3:=hx2.cellS k3;replace k4:=hx2.cellS k4;replace k5:=hx2.cellS k5;replace k6:=hx2.cellS k6;have hx3:=hE.trans hx2;clear pt hE Gi hx1 hx2;(go_wp2_with fail);(with_reducible refine(ar _ hw1).mono ?_);rintro e w2 ⟨rfl,Aj⟩;replace k1:=Aj.cellS k1;replace k2:=Aj.cellS k2;replace k3:=Aj.cellS k3;replace k4:=Aj.cellS k4;replace k5:=Aj.cellS k5;replace k6:=Aj.cellS k6;replace hw1:=hw1.ext Aj;replace hx3:=hx3.trans Aj;clear ar Aj
 cases u
 ·rw [Bool.false_and]at HX;have he:x=false:=HX.out;subst he;go_wp2;go_ret2;exact⟨rfl,hx3⟩
 ·rw [Bool.true_and]at HX;(go_wp2_with fail);(with_reducible refine(t1 _ hw1).mono ?_);rintro e w3 ⟨rfl,Aj⟩;replace k2:=Aj.cellS k2;replace k4:=Aj.cellS k4;replace k6:=Aj.cellS k6
  cases s
  ·rw [Bool.false_and]at HX;have he:x=false:=HX.out;subst he;go_wp2;go_ret2;exact⟨rfl,hx3.trans Aj⟩
  ·rw [Bool.true_and]at HX;(go_wp2_with fail);(with_reducible refine(t2 _ (hw1.ext Aj)).mono ?_);rintro e w4 ⟨rfl,An⟩;go_wp2;go_ret2;exact⟨by rw [HX.out];rfl,(hx3.trans Aj).trans An⟩
theorem Vg(x y:Int)(hx:x.natAbs<10000000)(hy:y.natAbs<10000000)(w:World)(hw:Ak w):Calls Tryz.prog 138 #[.int .i64 x,.int .i64 y] w (Cp (Ag ⟨x,y⟩) w):=by
 have o1:=xP x (by omega) (by omega);have o2:=xP y (by omega) (by omega);have hb:=AjM w (.cells #[S [],S []] 28);have hE:=(Aa.refl w).alloc (.cells #[S [],S []] 28);unfold Ag;clear hx hy;go_enter Tryz.func138,Tryz.ntmps138;(go_wp2_with fail);rw [show (⟨#[]⟩:ByteArray)=⟨([]:Bs).toArray⟩from rfl];(with_reducible refine(o1 _ (hw.ext hE)).mono ?_);rintro e w1 ⟨rfl,hx⟩;replace hb:=(hx.block _ (AjL hb)).trans hb;replace hE:=hE.trans hx;(go_wp2_with fail);(with_reducible refine(o2 _ (hw.ext hE)).mono ?_);rintro e w2 ⟨rfl,hx2⟩;replace hb:=(hx2.block _ (AjL hb)).trans hb;replace hE:=hE.trans hx2;have g1:=Ab (o:=0) hb rfl;have g2:=Ab (o:=1) hb rfl;have g3:=Ao (o:=0) hb;have g4:=Ao (o:=1) hb;obtain⟨e1,e2⟩:=set2 (S (R (x:Rat))) (S (R (y:Rat))) g1 g2;go_wp2;refine bodyPost_ret (v:=.agg #[S (R (x:Rat)),S (R (y:Rat))]) (by simp [results,Tryz.results138,go_sem,e1,e2]) rfl ?_;exact⟨rfl,(hE.setCell (AjN _) _).setCell (AjN _) _⟩
theorem AcY(z:Int)(w:World):Calls Tryz.prog 246 #[S (I z)] w (BK (D z.natAbs) w):=by
 have t:=bE (I z) [45];rw [cd]at t;go_enter Tryz.func246,Tryz.ntmps246;(go_wp2_with fail);(with_reducible refine(t _).mono ?_);rintro e w1 ⟨rfl,hx⟩;go_wp2;go_ret;exact⟨rfl,hx⟩
theorem uO(q:Rat)(hq:Sz 7 q)(w:World)(hw:Ak w):Calls Tryz.prog 205 #[S (R q)] w (BE false w):=by
 have p:=xN q (by omega) (by omega) hq w hw;have ab:=AcY q.num;have l1:=Hk (by omega) hq.num;have l2:=Hk (by omega) hq.den;unfold O5 at p;obtain⟨n,hn⟩:=AjJ (D q.num.natAbs);obtain⟨d,hd⟩:=AjJ (D q.den);rw [←hn]at ab l1;rw [←hd]at p l2;have n1:¬((n.length:Int)>200):=(by omega);have n2:¬((d.length:Int)>200):=(by omega);clear hn hd l1 l2;go_enter Tryz.func205,Tryz.ntmps205;(go_wp2_with fail);(with_reducible refine p.mono ?_);rintro e w1 ⟨rfl,hx⟩;(go_wp2_with fail);(with_reducible refine(ab _).mono ?_);rintro e w2 ⟨rfl,hx2⟩;go_wp2;go_ret;exact⟨by simp [n1,n2],hx.trans hx2⟩
def Rl(p:Pt):Value:=.tuple #[Ag p,.int .i64 0]
theorem Ah7(x y:Rat)(hx:Sz 7 x)(hy:Sz 7 y)(w:World)(hw:Ak w):Calls Tryz.prog 141 #[S (R x),S (R y)] w (Cp (Rl ⟨x,y⟩) w):=by
 have l1:=uO x hx;have l2:=uO y hy;have hb:=AjM w (.cells #[S [],S []] 28);have hE:=(Aa.refl w).alloc (.cells #[S [],S []] 28);unfold Rl Ag;clear hx hy;go_enter Tryz.func141,Tryz.ntmps141;(go_wp2_with fail);rw [show (⟨#[]⟩:ByteArray)=⟨([]:Bs).toArray⟩from rfl];(with_reducible refine(l1 _ (hw.ext hE)).mono ?_);rintro e w1 ⟨rfl,hx⟩;replace hb:=(hx.block _ (AjL hb)).trans hb;replace hE:=hE.trans hx;(go_wp2_with fail);(with_reducible refine(l2 _ (hw.ext hE)).mono ?_);rintro e w2 ⟨rfl,hx2⟩;replace hb:=(hx2.block _ (AjL hb)).trans hb;replace hE:=hE.trans hx2;have g1:=Ab (o:=0) hb rfl;have g2:=Ab (o:=1) hb rfl;have g3:=Ao (o:=0) hb;have g4:=Ao (o:=1) hb;obtain⟨e1,e2⟩:=set2 (S (R x)) (S (R y)) g1 g2;go_wp2;refine bodyPost_ret (v:=.tuple #[.agg #[S (R x),S (R y)],.int .i64 0]) (by simp [results,Tryz.results141,go_sem,e1,e2]) rfl ?_;exact⟨rfl,(hE.setCell (AjN _) _).setCell (AjN _) _⟩
theorem dn(a b k:Rat)(ha:Sz 1 a)(hb:Sz 1 b)(hk:Sz 1 k)(w:World)(hw:Ak w):Calls Tryz.prog 142 #[S (R a),S (R b),S (R k)] w (BK (R (CH a b k)) w):=by
 have s1:=Fu b a (a:=1) (b:=1) ⟨hb,ha,by omega,by omega,by omega⟩;have m1:=Kk k (b-a) (a:=1) (b:=3) ⟨hk,hb.sub ha,by omega,by omega,by omega⟩;have a1:=LP a (k*(b-a)) (a:=1) (b:=4) ⟨ha,hk.mul (hb.sub ha),by omega,by omega,by omega⟩;have e:CH a b k=a+k*(b-a):=rfl;rw [e];clear ha hb hk e;go_enter Tryz.func142,Tryz.ntmps142;(go_wp2_with fail);(with_reducible refine(s1 _ hw).mono ?_);rintro e w1 ⟨rfl,hx1⟩;(go_wp2_with fail);(with_reducible refine(m1 _ (hw.ext hx1)).mono ?_);rintro e w2 ⟨rfl,hx2⟩;have En:=hx1.trans hx2;(go_wp2_with fail);(with_reducible refine(a1 _ (hw.ext En)).mono ?_);rintro e w3 ⟨rfl,hx3⟩;go_wp2;go_ret;exact⟨rfl,En.trans hx3⟩
theorem dp(a b:Pt)(k:Rat)(ha:A0 1 a)(hb:A0 1 b)(hk:Sz 1 k)(w:World)(hw:Ak w):Calls Tryz.prog 79 #[Ag a,Ag b,S (R k)] w (Cp (Rl ⟨CH a.x b.x k,CH a.y b.y k⟩) w):=by
 have s1:=dn a.x b.x k (ha.x.mono (by omega)) (hb.x.mono (by omega)) (hk.mono (by omega));have s2:=dn a.y b.y k (ha.y.mono (by omega)) (hb.y.mono (by omega)) (hk.mono (by omega));have pc:=Ah7 (CH a.x b.x k) (CH a.y b.y k) ((ak ha.x hb.x hk).mono (by omega)) ((ak ha.y hb.y hk).mono (by omega))
 have hl:∀p∈[a,b],A0 1 p:=by
  intro p hp;simp only [List.mem_cons,AjY,or_false]at hp
  rcases hp with rfl|rfl
  ·exact⟨ha.x.mono (by omega),ha.y.mono (by omega)⟩
  ·exact⟨hb.x.mono (by omega),hb.y.mono (by omega)⟩
 have nb:=vL [R k] true (by simp [UJ,MW hk (by omega) (by omega)]);obtain⟨W,hW,hE,hb1,hb2,hb3⟩:=IA w (.cells #[S (R a.x),S (R a.y)] 28) (.cells #[S (R b.x),S (R b.y)] 28) (.cells #[S [],S []] 28);have pt:Calls Tryz.prog 139 #[.slice (some ⟨W.heap.size,0,none⟩) 2 2] (W.alloc (.cells #[S (R a.x),S (R a.y),S (R b.x),S (R b.y)] 28)) (AB 0 _):=bN [a,b] hl (some ⟨W.heap.size,0,none⟩) 2 (W.alloc (.cells #[S (R a.x),S (R a.y),S (R b.x),S (R b.y)] 28)) ((hw.ext hE).ext ((Aa.refl W).alloc _)) (Ad.lit W #[S (R a.x),S (R a.y),S (R b.x),S (R b.y)] 28) (by simp) (by omega);have Gi:=(Aa.refl W).alloc (.cells #[S (R a.x),S (R a.y),S (R b.x),S (R b.y)] 28);have Gr:(R k).length<=17:=(by have:=KF (by omega) hk;omega);have LH:∀(W1:World) (hw1:Ak W1),Calls Tryz.prog 140 #[.slice (some ⟨W1.heap.size,0,none⟩) 1 1] (W1.alloc (.cells #[S (R k)] 26)) (AB (EM true) _):=fun (W1:World) (hw1:Ak W1)=>nb (some ⟨W1.heap.size,0,none⟩) 1 (W1.alloc (.cells #[S (R k)] 26)) (hw1.ext ((Aa.refl W1).alloc _)) (Ad.lit W1 #[S (R k)] 26) (by simp) (by omega) (by simp) (by simpa using Gr);rw [Gg]at LH;unfold Rl Ag at pc ⊢;clear ha hb hk hl nb;obtain⟨p,hp⟩:=AjJ (CH a.x b.x k);obtain⟨q,hq⟩:=AjJ (CH a.y b.y k);rw [←hp]at s1 pc ⊢;rw [←hq]at s2 pc ⊢;clear hp hq;go_enter Tryz.func79,Tryz.ntmps79
 go_upto_region 1 with fail
 rw [show (⟨#[]⟩:ByteArray)=⟨([]:Bs).toArray⟩from rfl,←hW];clear hW;have k1:=Ab (o:=0) hb1 rfl;have k2:=Ab (o:=1) hb1 rfl;have k3:=Ab (o:=0) hb2 rfl;have k4:=Ab (o:=1) hb2 rfl;(go_wp2_with fail);(with_reducible refine pt.mono ?_);rintro e w1 ⟨rfl,hx1⟩;have hx2:=Gi.trans hx1;have hw1:=hw.ext (hE.trans hx2);clear k1 k2 k3 k4;(go_wp2_with fail);(with_reducible refine(LH _ hw1).mono ?_);rintro e w2 ⟨rfl,hx3⟩;have Aj:=(hx2.alloc (.cells #[S (R k)] 26)).trans hx3;have h1:=(Aj.block _ (AjL hb1)).trans hb1;have h2:=(Aj.block _ (AjL hb2)).trans hb2;have h3:=(Aj.block _ (AjL hb3)).trans hb3;have DK:=hE.trans Aj;have hw2:=hw.ext DK;have k1:=Ab (o:=0) h1 rfl;have k2:=Ab (o:=1) h1 rfl;have k3:=Ab (o:=0) h2 rfl;have k4:=Ab (o:=1) h2 rfl;have X:Aa w2 w2:=Aa.refl w2
 have SO:∀w',Aa w2 w'→(w'.cell? ⟨w.heap.size,0,none⟩=some (S (R a.x))/\w'.cell? ⟨w.heap.size,1,none⟩=some (S (R a.y))/\w'.cell? ⟨w.heap.size+1,0,none⟩=some (S (R b.x))/\w'.cell? ⟨w.heap.size+1,1,none⟩=some (S (R b.y))):=fun w' h=>⟨h.cellS k1,h.cellS k2,h.cellS k3,h.cellS k4⟩
 have mG:=h3;clear h1 h2 hb1 hb2 hb3 hx1 hx2 hx3 Aj pt LH Gi hw1 h3
 go_upto_region 7 with fail
 go_region_held3 (fun w'=>w'.cell? ⟨w.heap.size,0,none⟩=some (S (R a.x))/\w'.cell? ⟨w.heap.size,1,none⟩=some (S (R a.y))/\w'.cell? ⟨w.heap.size+1,0,none⟩=some (S (R b.x))/\w'.cell? ⟨w.heap.size+1,1,none⟩=some (S (R b.y)))
  (first|with_reducible exact SO _ X|with_reducible exact SO _ X.drew|(refine⟨?_,?_,?_,?_⟩<;>(rw [World.cell?_setCell_far _ _ _ _ (by simp only [ne_eq];omega),World.cell?_setCell_far _ _ _ _ (by simp only [ne_eq];omega)];first|exact(SO _ X).1|exact(SO _ X).2.1|exact(SO _ X).2.2.1|exact(SO _ X).2.2.2)))
  (first|((with_reducible refine(s1 _ (hw2.ext (by first|exact X|exact X.drew))).mono ?_);rintro e w3 ⟨rfl,hx1⟩;replace X:Aa w2 w3:=(by first|exact X.trans hx1|exact X.drew.trans hx1))|((with_reducible refine(s2 _ (hw2.ext (by first|exact X|exact X.drew))).mono ?_);rintro e w3 ⟨rfl,hx1⟩;replace X:Aa w2 w3:=(by first|exact X.trans hx1|exact X.drew.trans hx1))|((with_reducible refine(pc _ (hw2.ext (by first|exact X|exact X.drew))).mono ?_);rintro e w3 ⟨rfl,hx1⟩;replace X:Aa w2 w3:=(by first|exact X.trans hx1|exact X.drew.trans hx1);have hb3:=(X.block _ (AjL mG)).trans mG;have g1:=Ab (o:=0) hb3 rfl;have g2:=Ab (o:=1) hb3 rfl;have g3:=Ao (o:=0) hb3;have g4:=Ao (o:=1) hb3))
 obtain⟨e1,e2⟩:=set2 (S (R p)) (S (R q)) g1 g2;go_wp2;refine bodyPost_ret (v:=.tuple #[.agg #[S (R p),S (R q)],.int .i64 0]) (by simp [results,Tryz.results79,go_sem,e1,e2]) rfl ?_;exact⟨rfl,((DK.trans X).setCell (by show w.heap.size<=w.heap.size+1+1;omega) _).setCell (by show w.heap.size<=w.heap.size+1+1;omega) _⟩
def gp(u:Int×Int):Pt:=⟨(u.1:Rat)/2,(u.2:Rat)/2⟩
structure VF(u:Int×Int):Prop where
 x0:0<=u.1
 x1:u.1<=6
 y0:0<=u.2
 y1:u.2<=6
theorem VF.on{u:Int×Int}(h:VF u):Da (gp u):=⟨⟨u.1,by have:=h.x0;have:=h.x1;omega,rfl⟩,⟨u.2,by have:=h.y0;have:=h.y1;omega,rfl⟩⟩
theorem Ab0{a b:Int} : (a:Rat)/2<=(b:Rat)/2↔a<=b:=by
 constructor
 ·intro h;have:(a:Rat)<=(b:Rat):=(by grind);exact Rat.intCast_le_intCast.1 this
 ·intro h;have:(a:Rat)<=(b:Rat):=Rat.intCast_le_intCast.2 h
  grind
theorem AaM(x y:Int):gp (2*x,2*y)=⟨x,y⟩:=by
 unfold gp;simp only [Pt.mk.injEq,Rat.intCast_mul];constructor<;>grind
theorem uU(a b m:Int)(h:a+b=2*m):CH ((a:Rat)/2) ((b:Rat)/2) (1/2)=(m:Rat)/2:=by
 unfold CH
 have:(a:Rat)+(b:Rat)=2*(m:Rat):=by rw [←Rat.intCast_add,h,Rat.intCast_mul];rfl
 grind
theorem SU(u v m:Int×Int)(h1:u.1+v.1=2*m.1)(h2:u.2+v.2=2*m.2):(⟨CH (gp u).x (gp v).x (1/2),CH (gp u).y (gp v).y (1/2)⟩:Pt)=gp m:=by
 unfold gp;simp only [uU _ _ _ h1,uU _ _ _ h2]
theorem aj:Sz 1 (1/2:Rat):=by
 have:(1/2:Rat)=mkRat 1 2:=(by decide +kernel);rw [this];exact Sz.mkRat (by omega) (by decide) (by decide)
def AY(n:Nat):Bs:=if n%4=0 then [97] else if n%4=1 then [98] else if n%4=2 then [99] else [100]
theorem cj(n:Nat)(hn:n<256)(w:World):Calls Tryz.prog 78 #[.int .u8 (n:Nat)] w (BK (AY n) w):=by
 have hE:=(Aa.refl w).alloc (.cells #[S [97],S [98],S [99],S [100]] 9);obtain⟨r,hr⟩:=AjJ (n%4:Nat);have hw8:((n:Int).tmod 4)=(r:Int):=(by rw [Int.tmod_eq_emod_of_nonneg (by omega)];omega);have hr4:r<4:=by omega
 have hu:AY n=if r=0 then [97] else if r=1 then [98] else if r=2 then [99] else [100]:=by unfold AY;rw [hr]
 rw [hu];clear hu hr;go_enter Tryz.func78,Tryz.ntmps78
 go_upto_region 1 with fail
 rcases(show r=0∨r=1∨r=2∨r=3 by omega)with h|h|h|h
 all_goals (
  subst h;go_wp2;go_ret
  exact⟨rfl,hE⟩)
theorem GB{w:World}{b:Nat}{a0 a1 a2:Value}{t:TypeId}(v0 v1 v2:Value)(h:w.heap[b]?=some (.cells #[a0,a1,a2] t)) :
  (((w.setCell ⟨b,0,none⟩ v0).setCell ⟨b,1,none⟩ v1).setCell ⟨b,2,none⟩ v2).heap[b]?=some (.cells #[v0,v1,v2] t):=by
 simp only [World.setCell,Array.getElem?_modify,h];simp
def Vd(x y:Int):List (Int×Int):=[(2*x,2*y),(2*x+2,2*y),(2*x+2,2*y+2),(2*x,2*y+2)]
def SR(l:List (Int×Int)):List Value:=flat (Aq (l.map gp))
theorem AgV(x y:Int):SR (Vd x y) = [S (R (x:Rat)),S (R (y:Rat)),S (R ((x+1:Int):Rat)),S (R (y:Rat)),S (R ((x+1:Int):Rat)),S (R ((y+1:Int):Rat)),S (R (x:Rat)),S (R ((y+1:Int):Rat))]:=by
 have e1:(2*x+2:Int)=2*(x+1):=(by omega);have e2:(2*y+2:Int)=2*(y+1):=(by omega);unfold SR Vd;rw [e1,e2];simp only [List.map_cons,List.map_nil,AaM]
 rfl
theorem AgX(x y:Int)(hx:0<=x)(hx2:x<=2)(hy:0<=y)(hy2:y<=2)(u:Bs)(w:World)(hw:Ak w):Calls Tryz.prog 77 #[.int .i64 x,.int .i64 y,S u] w fun e w'=>
  ∃b,e=.returned (.agg #[.slice (some ⟨b,0,none⟩) 4 4,S u,.slice none 0 0])/\w.heap.size<=b/\w'.heap[b]?=some (.cells (SR (Vd x y)).toArray 28)/\Aa w w':=by
 have a1:=Vg x y (by omega) (by omega);have a2:=Vg (x+1) y (by omega) (by omega);have a3:=Vg (x+1) (y+1) (by omega) (by omega);have a4:=Vg x (y+1) (by omega) (by omega);have v1:IntKind.wrap .i64 (x+1)=x+1:=AjT _ (by omega);have v2:IntKind.wrap .i64 (y+1)=y+1:=AjT _ (by omega);rw [AgV];have hb:=AjM w (.cells #[.slice none 0 0,S [],.slice none 0 0] 148);have hE:=(Aa.refl w).alloc (.cells #[.slice none 0 0,S [],.slice none 0 0] 148);unfold Ag at a1 a2 a3 a4;simp only at a1 a2 a3 a4;obtain⟨p,hp⟩:=AjJ (R (x:Rat));obtain⟨q,hq⟩:=AjJ (R (y:Rat));obtain⟨r,hr⟩:=AjJ (R ((x+1:Int):Rat));obtain⟨s,hs⟩:=AjJ (R ((y+1:Int):Rat));rw [←hp,←hq]at a1;rw [←hr,←hq]at a2;rw [←hr,←hs]at a3;rw [←hp,←hs]at a4;rw [←hp,←hq,←hr,←hs];clear hp hq hr hs hx hx2 hy hy2;go_enter Tryz.func77,Tryz.ntmps77;(go_wp2_with fail);rw [show (⟨#[]⟩:ByteArray)=⟨([]:Bs).toArray⟩from rfl];(with_reducible refine(a1 _ (hw.ext hE)).mono ?_);rintro e w1 ⟨rfl,hx⟩;replace hb:=(hx.block _ (AjL hb)).trans hb;replace hE:=hE.trans hx;clear hx;(go_wp2_with fail);(with_reducible refine(a2 _ (hw.ext hE)).mono ?_);rintro e w2 ⟨rfl,hx⟩;replace hb:=(hx.block _ (AjL hb)).trans hb;replace hE:=hE.trans hx;clear hx;(go_wp2_with fail);(with_reducible refine(a3 _ (hw.ext hE)).mono ?_);rintro e w3 ⟨rfl,hx⟩;replace hb:=(hx.block _ (AjL hb)).trans hb;replace hE:=hE.trans hx;clear hx;(go_wp2_with fail);(with_reducible refine(a4 _ (hw.ext hE)).mono ?_);rintro e w4 ⟨rfl,hx⟩;replace hb:=(hx.block _ (AjL hb)).trans hb;replace hE:=hE.trans hx;clear hx;have Dp:=AjM w4 (.cells #[S p,S q,S r,S q,S r,S s,S p,S s] 28);have Uy:=hE.size;have Cr:=(Aa.refl w4).alloc (.cells #[S p,S q,S r,S q,S r,S s,S p,S s] 28);have hlt:=AjL hb;have k1:w4.cell? ⟨w.heap.size,0,none⟩=some (.slice none 0 0):=Ab hb rfl;have k2:w4.cell? ⟨w.heap.size,1,none⟩=some (S []):=Ab hb rfl;have k3:w4.cell? ⟨w.heap.size,2,none⟩=some (.slice none 0 0):=Ab hb rfl;have k4:=Ao (o:=0) hb;have k5:=Ao (o:=1) hb;have k6:=Ao (o:=2) hb;have WP:=hE.trans Cr;go_wp2;have E8:=GB (.slice (some ⟨w4.heap.size,0,none⟩) 4 4) (S u) (.slice none 0 0) hb;have WQ:=((hE.setCell (p:=⟨w.heap.size,0,none⟩) (AjN _) (.slice (some ⟨w4.heap.size,0,none⟩) 4 4)).setCell (p:=⟨w.heap.size,1,none⟩) (AjN _) (S u)).setCell (p:=⟨w.heap.size,2,none⟩) (AjN _) (.slice none 0 0);have rN:(((w4.setCell ⟨w.heap.size,0,none⟩ (.slice (some ⟨w4.heap.size,0,none⟩) 4 4)).setCell ⟨w.heap.size,1,none⟩ (S u)).setCell ⟨w.heap.size,2,none⟩ (.slice none 0 0)).heap.size=w4.heap.size:=(by simp);unfold S at E8 WQ rN;generalize (((w4.setCell ⟨w.heap.size,0,none⟩ (.slice (some ⟨w4.heap.size,0,none⟩) 4 4)).setCell ⟨w.heap.size,1,none⟩ (.string ⟨u.toArray⟩)).setCell ⟨w.heap.size,2,none⟩ (.slice none 0 0))=w9 at *;obtain⟨b0,hb0⟩:=AjJ w.heap.size;have Aco:=AjL E8;rw [←hb0]at E8 Aco ⊢;have Gi:=(Aa.refl w9).alloc (.cells #[S p,S q,S r,S q,S r,S s,S p,S s] 28);have X9:=(Gi.block _ (AjL E8)).trans E8;have e1:=Ab (o:=0) X9 rfl;have e2:=Ab (o:=1) X9 rfl;have e3:=Ab (o:=2) X9 rfl;have hnew:=AjM w9 (.cells #[S p,S q,S r,S q,S r,S s,S p,S s] 28)
 rw [rN]at hnew;have Tj:=WQ.alloc (.cells #[S p,S q,S r,S q,S r,S s,S p,S s] 28);generalize w9.alloc (.cells #[S p,S q,S r,S q,S r,S s,S p,S s] 28)=w10 at *;refine bodyPost_ret (v:=.agg #[.slice (some ⟨w4.heap.size,0,none⟩) 4 4,.string ⟨u.toArray⟩,.slice none 0 0]) (by simp [results,Tryz.results77,go_sem,e1,e2,e3]) rfl ?_;exact⟨w4.heap.size,rfl,by rw [hb0];exact Uy,hnew,Tj⟩
def Cg(p:Pt):Prop:=∃u,VF u/\p=gp u
theorem Cg.on{p:Pt}(h:Cg p):Da p:=by obtain⟨u,hu,rfl⟩:=h;exact hu.on
theorem Cg.sz{p:Pt}(h:Cg p):A0 1 p:=h.on.sz (by omega)
theorem Cg.sz2{p:Pt}(h:Cg p):A0 1 p:=h.on.sz (by omega)
structure Hf where
 a:Pt
 b:Pt
 l:Int
def Fl(h:Hf):Value:=.agg #[S (R h.a.x),S (R h.a.y),S (R h.b.x),S (R h.b.y),.int .i64 h.l]
def AO(l:List Hf):List Value:=l.flatMap fun h=>[S (R h.a.x),S (R h.a.y),S (R h.b.x),S (R h.b.y),.int .i64 h.l]
theorem nS(l:List Hf):(AO l).length=l.length*5:=by
 induction l with
 | nil=>rfl
 | cons h l ih=>simp [AO]at ih ⊢;omega
theorem NT:∀(l:List Hf) (j:Nat) (h:j<l.length),(AO l)[j*5]?=some (S (R l[j].a.x))/\(AO l)[j*5+1]?=some (S (R l[j].a.y))/\(AO l)[j*5+2]?=some (S (R l[j].b.x))/\(AO l)[j*5+3]?=some (S (R l[j].b.y))/\(AO l)[j*5+4]?=some (.int .i64 l[j].l)
 | e::l,0,_=>⟨rfl,rfl,rfl,rfl,rfl⟩
 | e::l,j+1,h=>by
  have ih:=NT l j (by simpa using h);have e0:AO (e::l)=S (R e.a.x)::S (R e.a.y)::S (R e.b.x)::S (R e.b.y) :: .int .i64 e.l::AO l:=rfl;rw [e0];have e1:(j+1)*5=j*5+1+1+1+1+1:=(by omega);rw [e1]
  simpa using ih
structure Md(w:World)(b o:Nat)(h:Hf):Prop where
 c0:w.cell? ⟨b,o,none⟩=some (S (R h.a.x))
 c1:w.cell? ⟨b,o+1,none⟩=some (S (R h.a.y))
 c2:w.cell? ⟨b,o+2,none⟩=some (S (R h.b.x))
 c3:w.cell? ⟨b,o+3,none⟩=some (S (R h.b.y))
 c4:w.cell? ⟨b,o+4,none⟩=some (.int .i64 h.l)
theorem Kn{w:World}{A:Option Addr}{l:List Hf}(hr:Ad w A (AO l)){j:Nat}(h:j<l.length):∃b o,A=some ⟨b,o,none⟩/\Md w b (o+j*5) l[j]:=by
 have hl:=nS l;obtain⟨b,o,e,hcs⟩:=hr.ad (by omega);obtain⟨f1,f2,f3,f4,f5⟩:=NT l j h;have g1:=hcs (j*5) (by omega);have g2:=hcs (j*5+1) (by omega);have g3:=hcs (j*5+2) (by omega);have g4:=hcs (j*5+3) (by omega);have g5:=hcs (j*5+4) (by omega);rw [AjS (by omega),AjR]at f1 f2 f3 f4 f5;rw [f1]at g1;rw [f2,←Nat.add_assoc]at g2;rw [f3,←Nat.add_assoc]at g3;rw [f4,←Nat.add_assoc]at g4;rw [f5,←Nat.add_assoc]at g5;exact⟨b,o,e,g1,g2,g3,g4,g5⟩
def Ii(h x:Hf):Bool:=Ah x.a h.b&&Ah x.b h.a
def BO(l:List Hf)(h:Hf):Int:=match l.find? (Ii h)with|some x=>x.l|none=>-1
theorem rx{l:List Hf}{h:Hf}{j:Nat}(hj:j<l.length)(hno:∀q∈l.take j,Ii h q=false)(he:Ii h l[j]=true):BO l h=l[j].l:=by
 unfold BO
 have:l.find? (Ii h)=some l[j]:=by rw [List.find?_eq_some_iff_getElem];exact⟨he,j,hj,rfl,fun i hi=>by rw [hno l[i] (by rw [List.mem_take_iff_getElem];exact⟨i,by omega,rfl⟩)];rfl⟩
 rw [this]
theorem rz{l:List Hf}{h:Hf}(hno:∀q∈l,Ii h q=false):BO l h = -1:=by
 unfold BO;rw [List.find?_eq_none.2 (fun q hq=>by rw [hno q hq];simp)]
theorem ry(l:List Hf)(h:Hf):BO l h = -1∨∃x∈l,BO l h=x.l:=by
 unfold BO
 cases hf:l.find? (Ii h)with
 | none=>exact .inl rfl
 | some x=>exact .inr ⟨x,List.mem_of_find?_eq_some hf,rfl⟩
theorem Su(l:List Hf)(h:Hf)(A:Option Addr)(c:Nat)(w:World)(hr:Ad w A (AO l))(hc:l.length<=c)(hcm:c<=9223372036854775807) :
  Calls Tryz.prog 74 #[.slice A l.length c,Fl h] w (AB (BO l h) w):=by
 have pe:=OH;have hb0:=AjM w (.cells #[S (R h.a.x),S (R h.a.y),S (R h.b.x),S (R h.b.y),.int .i64 h.l] 145);have hE:=(Aa.refl w).alloc (.cells #[S (R h.a.x),S (R h.a.y),S (R h.b.x),S (R h.b.y),.int .i64 h.l] 145);obtain⟨r,hr0⟩:=AjJ (BO l h);rw [←hr0];have HR:=AjK hr0;unfold Fl;clear hr0;go_enter Tryz.func74,Tryz.ntmps74
 go_upto_region 2 with fail
 generalize w.alloc (.cells #[S (R h.a.x),S (R h.a.y),S (R h.b.x),S (R h.b.y),.int .i64 h.l] 145)=V at *;obtain⟨bp,Aw⟩:=AjJ w.heap.size;rw [←Aw]at hb0 ⊢;clear Aw
 go_loopw [5] (fun i wr=>∃j:Nat,i=.int .i64 (j:Nat)/\j<=l.length/\(∀q∈l.take j,Ii h q=false)/\Aa V wr) (fun i _=>l.length-(intOf i).toNat)
 case atStart=>exact⟨0,rfl,by omega,by simp,Aa.refl _⟩
 case round=>
  obtain⟨j,rfl,hj,Ai,Ae⟩:=hrel;have HO:=AjK Ai;clear Ai;have hbr:=(Ae.block _ (AjL hb0)).trans hb0;have k1:∀q:Ac wr,q.w.cell? ⟨bp,0,none⟩=some (S (R h.a.x)):=Ac.cell (Ab (o:=0) hbr rfl);have k2:∀q:Ac wr,q.w.cell? ⟨bp,1,none⟩=some (S (R h.a.y)):=Ac.cell (Ab (o:=1) hbr rfl);have k3:∀q:Ac wr,q.w.cell? ⟨bp,2,none⟩=some (S (R h.b.x)):=Ac.cell (Ab (o:=2) hbr rfl);have k4:∀q:Ac wr,q.w.cell? ⟨bp,3,none⟩=some (S (R h.b.y)):=Ac.cell (Ab (o:=3) hbr rfl);clear hbr;by_cases hlt:j<l.length
  ·obtain⟨b,o,rfl,hf⟩:=Kn (hr.ext (hE.trans Ae)) hlt;obtain⟨x,hx⟩:=AjJ (l[j]);rw [←hx]at hf;obtain⟨f0,f1,f2,f3,f4⟩:=hf;have j0:∀q:Ac wr,q.w.cell? ⟨b,o+j*5,none⟩=some (S (R x.a.x)):=Ac.cell f0;have j1:∀q:Ac wr,q.w.cell? ⟨b,o+j*5+1,none⟩=some (S (R x.a.y)):=Ac.cell f1;have j2:∀q:Ac wr,q.w.cell? ⟨b,o+j*5+2,none⟩=some (S (R x.b.x)):=Ac.cell f2;have j3:∀q:Ac wr,q.w.cell? ⟨b,o+j*5+3,none⟩=some (S (R x.b.y)):=Ac.cell f3;have j4:∀q:Ac wr,q.w.cell? ⟨b,o+j*5+4,none⟩=some (.int .i64 x.l):=Ac.cell f4;have hj0:(0:Int)<=(j:Int):=(by omega);have Ay:(j:Int)<(l.length:Int):=(by omega);have HQ:=AjK hx;clear hx f0 f1 f2 f3 f4
   cases e0:Ii h x
   ·have HE:=AjK e0
    have rel:∀q∈l.take (j+1),Ii h q=false:=by
     intro y hy;rw [AjQ hlt,←HQ.out]at hy
     rcases List.mem_append.1 hy with h|h
     ·exact HO.out y h
     ·simp only [AjZ]at h;rw [h];exact HE.out
    have dT:=AjK rel;clear rel;unfold Ii at e0
    cases e1:Ah x.a h.b
    ·go_upto_region 4 with fail
     refine Bh (by kernel_rfl) (by kernel_rfl) ?_
     repeat (go_big_quiet_step (fail))
     refine wpQuiet_nil ?_;rintro _ ⟨q,rfl⟩;go_wp2;go_roundw
     case rel=>exact⟨j+1,by go_num,hlt,dT.out,Ae.trans q.h⟩
     case measure=>simp [intOf];omega
    ·rw [e1,Bool.true_and]at e0
     go_upto_region 4 with fail
     refine Bh (by kernel_rfl) (by kernel_rfl) ?_
     repeat (go_big_quiet_step (fail))
     refine wpQuiet_nil ?_;rintro _ ⟨q,rfl⟩;go_wp2;go_roundw
     case rel=>exact⟨j+1,by go_num,hlt,dT.out,Ae.trans q.h⟩
     case measure=>simp [intOf];omega
   ·have Cu:r=x.l:=(by rw [HR.out,rx hlt HO.out (by rw [←HQ.out];exact e0),←HQ.out]);subst Cu;unfold Ii at e0;rw [Bool.and_eq_true]at e0;obtain⟨e1,e2⟩:=e0
    go_upto_region 4 with fail
    refine Bh (by kernel_rfl) (by kernel_rfl) ?_
    repeat (go_big_quiet_step (fail))
    refine wpQuiet_nil ?_;rintro _ ⟨q,rfl⟩;go_wp2;go_ret;exact⟨rfl,(hE.trans Ae).trans q.h⟩
  ·have hle:(l.length:Int)<=(j:Int):=(by omega);have Cu:r = -1:=(by rw [HR.out];exact rz (by have:=HO.out;rw [AjV (by omega)]at this;exact this));subst Cu;clear k1 k2 k3 k4;go_wp2;go_ret;exact⟨rfl,hE.trans Ae⟩
theorem Zw(a b:Pt)(ha:A0 1 a)(hb:A0 1 b)(w:World)(hw:Ak w):Calls Tryz.prog 136 #[Ag a,Ag b] w (AB (AS a b) w):=by
 have c1:=FW a.x b.x (a:=1) (b:=1) ⟨ha.x,hb.x,by omega,by omega,by omega⟩;have c2:=FW a.y b.y (a:=1) (b:=1) ⟨ha.y,hb.y,by omega,by omega,by omega⟩;have k1:=AjM w (.cells #[S (R a.x),S (R a.y)] 28);have hE:=((Aa.refl w).alloc (.cells #[S (R a.x),S (R a.y)] 28)).alloc (.cells #[S (R b.x),S (R b.y)] 28);have hb1:=(Below.heap_alloc (w.alloc (.cells #[S (R a.x),S (R a.y)] 28)) (.cells #[S (R b.x),S (R b.y)] 28) w.heap.size (by simp)).trans k1;have hb2:=AjM (w.alloc (.cells #[S (R a.x),S (R a.y)] 28)) (.cells #[S (R b.x),S (R b.y)] 28);rw [AjU]at hb2
 have hl:AS a b=if AC a.x b.x≠0 then AC a.x b.x else AC a.y b.y:=rfl
 rw [hl];obtain⟨u,hu⟩:=AjJ (AC a.x b.x);obtain⟨v,hv⟩:=AjJ (AC a.y b.y);rw [←hu]at c1 ⊢;rw [←hv]at c2 ⊢;obtain⟨r,hr⟩:=AjJ (if u≠0 then u else v);rw [←hr];have HR:=AjK hr;unfold Ag;clear hr hu hv hl k1 ha hb;go_enter Tryz.func136,Tryz.ntmps136
 go_upto_region 1 with fail
 generalize (w.alloc (.cells #[S (R a.x),S (R a.y)] 28)).alloc (.cells #[S (R b.x),S (R b.y)] 28)=V at *;obtain⟨bp,Aw⟩:=AjJ w.heap.size;rw [←Aw]at hb1 hb2 ⊢;clear Aw;have q1:=Ab (o:=0) hb1 rfl;have q2:=Ab (o:=0) hb2 rfl;have q3:=Ab (o:=1) hb1 rfl;have q4:=Ab (o:=1) hb2 rfl;(go_wp2_with fail);(with_reducible refine(c1 _ (hw.ext hE)).mono ?_);rintro e w1 ⟨rfl,hx1⟩;have hw1:=hw.ext (hE.trans hx1);replace q3:=hx1.cellS q3;replace q4:=hx1.cellS q4;by_cases h0:u=0
 ·subst h0;obtain rfl:r=v:=(by rw [HR.out,if_neg (by omega)]);(go_wp2_with fail);(with_reducible refine(c2 _ hw1).mono ?_);rintro e w2 ⟨rfl,hx2⟩;go_wp2;go_ret;exact⟨rfl,(hE.trans hx1).trans hx2⟩
 ·obtain rfl:r=u:=(by rw [HR.out,if_pos h0]);go_wp2;go_ret;exact⟨rfl,hE.trans hx1⟩
theorem wZ(p q:Pt):Ah p q=Ah q p:=by
 cases h:Ah q p
 ·rw [Bool.eq_false_iff]at h ⊢;exact fun k=>h (BN.2 (BN.1 k).symm)
 ·exact BN.2 (BN.1 h).symm
def Ij(a b:Hf):Bool:=decide (AS a.a b.a<0)||(decide (AS a.a b.a=0)&&decide (AS a.b b.b<0))
theorem AdN(a b:Hf)(h1:A0 1 a.a)(h2:A0 1 a.b)(h3:A0 1 b.a)(h4:A0 1 b.b)(w:World)(hw:Ak w):Calls Tryz.prog 134 #[Fl a,Fl b] w (BE (Ij a b) w):=by
 have c1:=Zw a.a b.a h1 h3;have c2:=Zw a.b b.b h2 h4;have k1:=AjM w (.cells #[S (R a.a.x),S (R a.a.y),S (R a.b.x),S (R a.b.y),.int .i64 a.l] 145);have hE:=((Aa.refl w).alloc (.cells #[S (R a.a.x),S (R a.a.y),S (R a.b.x),S (R a.b.y),.int .i64 a.l] 145)).alloc (.cells #[S (R b.a.x),S (R b.a.y),S (R b.b.x),S (R b.b.y),.int .i64 b.l] 145);have hb1:=(Below.heap_alloc (w.alloc (.cells #[S (R a.a.x),S (R a.a.y),S (R a.b.x),S (R a.b.y),.int .i64 a.l] 145)) (.cells #[S (R b.a.x),S (R b.a.y),S (R b.b.x),S (R b.b.y),.int .i64 b.l] 145) w.heap.size (by simp)).trans k1;have hb2:=AjM (w.alloc (.cells #[S (R a.a.x),S (R a.a.y),S (R a.b.x),S (R a.b.y),.int .i64 a.l] 145)) (.cells #[S (R b.a.x),S (R b.a.y),S (R b.b.x),S (R b.b.y),.int .i64 b.l] 145);rw [AjU]at hb2;obtain⟨r,hr⟩:=AjJ (Ij a b);rw [←hr];unfold Ij at hr;obtain⟨u,hu⟩:=AjJ (AS a.a b.a);obtain⟨v,hv⟩:=AjJ (AS a.b b.b);rw [←hu]at c1 hr;rw [←hv]at c2 hr;unfold Fl;unfold Ag at c1 c2;clear hu hv k1 h1 h2 h3 h4;go_enter Tryz.func134,Tryz.ntmps134
 go_upto_region 1 with fail
 generalize (w.alloc (.cells #[S (R a.a.x),S (R a.a.y),S (R a.b.x),S (R a.b.y),.int .i64 a.l] 145)).alloc (.cells #[S (R b.a.x),S (R b.a.y),S (R b.b.x),S (R b.b.y),.int .i64 b.l] 145)=V at *;obtain⟨bp,Aw⟩:=AjJ w.heap.size;rw [←Aw]at hb1 hb2 ⊢;clear Aw;have q1:=Ab (o:=0) hb1 rfl;have q2:=Ab (o:=1) hb1 rfl;have q3:=Ab (o:=2) hb1 rfl;have q4:=Ab (o:=3) hb1 rfl;have p1:=Ab (o:=0) hb2 rfl;have p2:=Ab (o:=1) hb2 rfl;have p3:=Ab (o:=2) hb2 rfl;have p4:=Ab (o:=3) hb2 rfl;(go_wp2_with fail);(with_reducible refine(c1 _ (hw.ext hE)).mono ?_);rintro e w1 ⟨rfl,hx1⟩;have hx:=hE.trans hx1;have hw1:=hw.ext hx;replace q3:=hx1.cellS q3;replace q4:=hx1.cellS q4;replace p3:=hx1.cellS p3;replace p4:=hx1.cellS p4;clear q1 q2 p1 p2 hb1 hb2 hE hx1 c1;by_cases g1:u<0
 ·rw [decide_eq_true g1,Bool.true_or]at hr;subst hr;go_wp2;go_ret;exact⟨rfl,hx⟩
 ·have d1:decide (u<0)=false:=decide_eq_false g1;rw [d1,Bool.false_or]at hr;by_cases g2:u=0
  ·subst g2;rw [decide_eq_true rfl,Bool.true_and]at hr;have HR:=AjK hr;clear hr d1 g1;(go_wp2_with fail);(with_reducible refine(c2 _ hw1).mono ?_);rintro e w2 ⟨rfl,hx2⟩;go_wp2;go_ret;exact⟨by rw [HR.out];rfl,hx.trans hx2⟩
  ·have d2:decide (u=0)=false:=decide_eq_false g2;rw [d2,Bool.false_and]at hr;subst hr;go_wp2;go_ret;exact⟨rfl,hx⟩
theorem uI(l:List Pt)(p:Pt)(A:Option Addr)(c:Nat)(v1 v2:Value)(w:World)(hr:Ad w A (flat (Aq l)))(hc:l.length<=c)(hcm:c<=9223372036854775807) :
  Calls Tryz.prog 137 #[.agg #[.slice A l.length c,v1,v2],Ag p] w (AB (Dl l p) w):=by
 have pe:=OH;have k1:=AjM w (.cells #[.slice A l.length c,v1,v2] 44);have hE:=((Aa.refl w).alloc (.cells #[.slice A l.length c,v1,v2] 44)).alloc (.cells #[S (R p.x),S (R p.y)] 28);have hb1:=(Below.heap_alloc (w.alloc (.cells #[.slice A l.length c,v1,v2] 44)) (.cells #[S (R p.x),S (R p.y)] 28) w.heap.size (by simp)).trans k1;have hb2:=AjM (w.alloc (.cells #[.slice A l.length c,v1,v2] 44)) (.cells #[S (R p.x),S (R p.y)] 28);rw [AjU]at hb2;obtain⟨r,hr0⟩:=AjJ (Dl l p);rw [←hr0];have HR:=AjK hr0;unfold Ag;clear hr0 k1;go_enter Tryz.func137,Tryz.ntmps137
 go_upto_region 2 with fail
 generalize (w.alloc (.cells #[.slice A l.length c,v1,v2] 44)).alloc (.cells #[S (R p.x),S (R p.y)] 28)=V at *;obtain⟨bp,Aw⟩:=AjJ w.heap.size;rw [←Aw]at hb1 hb2 ⊢;clear Aw
 go_loopw [5] (fun i wr=>∃j:Nat,i=.int .i64 (j:Nat)/\j<=l.length/\(∀q∈l.take j,Ah p q=false)/\Aa V wr) (fun i _=>l.length-(intOf i).toNat)
 case atStart=>exact⟨0,rfl,by omega,by simp,Aa.refl _⟩
 case round=>
  obtain⟨j,rfl,hj,Ai,Ae⟩:=hrel;have HO:=AjK Ai;clear Ai;have hbr:=(Ae.block _ (AjL hb1)).trans hb1;have XI:=(Ae.block _ (AjL hb2)).trans hb2;have m0:=Ab (o:=0) hbr rfl;have n0:∀q:Ac wr,q.w.cell? ⟨bp,0,none⟩=some (.slice A l.length c):=Ac.cell m0;have n1:∀q:Ac wr,q.w.cell? ⟨bp+1,0,none⟩=some (S (R p.x)):=Ac.cell (Ab (o:=0) XI rfl);have n2:∀q:Ac wr,q.w.cell? ⟨bp+1,1,none⟩=some (S (R p.y)):=Ac.cell (Ab (o:=1) XI rfl);clear hbr XI;by_cases hlt:j<l.length
  ·obtain⟨b,o,hA,hg1,hg2⟩:=CX (hr.ext (hE.trans Ae)) hlt;obtain⟨q,hq⟩:=AjJ (l[j]);rw [←hq]at hg1 hg2;have j1:∀z:Ac wr,z.w.cell? ⟨b,o+j*2,none⟩=some (S (R q.x)):=Ac.cell hg1;have j2:∀z:Ac wr,z.w.cell? ⟨b,o+j*2+1,none⟩=some (S (R q.y)):=Ac.cell hg2;have hj0:(0:Int)<=(j:Int):=(by omega);have Ay:(j:Int)<(l.length:Int):=(by omega);have HQ:=AjK hq;subst hA;clear hq hg1 hg2
   cases e0:Ah p q
   ·have HE:=AjK e0;have e1:Ah q p=false:=(by rw [←e0];exact wZ q p);clear e0
    go_upto_region 4 with fail
    refine Bh (by kernel_rfl) (by kernel_rfl) ?_
    repeat (go_big_quiet_step (fail))
    refine wpQuiet_nil ?_;rintro _ ⟨z,rfl⟩;go_wp2;go_roundw
    case rel=>
     refine⟨j+1,by go_num,hlt,?_,Ae.trans z.h⟩;intro x hx;rw [AjQ hlt,←HQ.out]at hx
     rcases List.mem_append.1 hx with h|h
     ·exact HO.out x h
     ·simp only [AjZ]at h;rw [h];exact HE.out
    case measure=>simp [intOf];omega
   ·have Cu:r=(j:Int):=(by rw [HR.out];exact tJ hlt HO.out (by rw [←HQ.out];exact e0));have e1:Ah q p=true:=(by rw [←e0];exact wZ q p);clear e0;subst Cu
    go_upto_region 4 with fail
    refine Bh (by kernel_rfl) (by kernel_rfl) ?_
    repeat (go_big_quiet_step (fail))
    refine wpQuiet_nil ?_;rintro _ ⟨z,rfl⟩;go_wp2;go_ret;exact⟨rfl,(hE.trans Ae).trans z.h⟩
  ·have hle:(l.length:Int)<=(j:Int):=(by omega);have Cu:r = -1:=(by rw [HR.out];exact tK (by have:=HO.out;rw [AjV (by omega)]at this;exact this));subst Cu;clear n0 n1 n2;go_wp2;go_ret;exact⟨rfl,hE.trans Ae⟩
def eC(l:List Hf):Prop:=∀h∈l,Cg h.a/\Cg h.b
def Gh(l:List Hf)(p:Pt):Nat:=l.countP (fun h=>Ah h.a p)
end Go.Proofs.YtnfedbopbcegjaaGreatDoor
