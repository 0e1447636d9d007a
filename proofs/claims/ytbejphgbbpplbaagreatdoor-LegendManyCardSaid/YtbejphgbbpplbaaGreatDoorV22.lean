/- V22: N1 N2 Q6 Q7 LG1 LG2 LG3 LG4 LG5 LG6. -/
import Derived.Test.YtbejphgbbpplbaaGreatDoorV21
set_option maxRecDepth 100000
set_option maxHeartbeats 16000000
namespace Go.Proofs.YtbejphgbbpplbaaGreatDoor
open Go.RowKit Kl
theorem JR(a b:Rat):a<b∨a=b∨b<a:=by grind
theorem MN{a b:Rat}(h:a<=b):a<b∨a=b:=by grind
def Up(x y:Rat):Prop:=0<y∨(y=0/\0<x)
theorem Aid{a b:Rat}(ha:0<a)(h:0<a*b):0<b:=by
 rcases JR b 0 with hb|hb|hb
 ·have:=Rat.mul_pos ha (show 0 < -b by grind)
  grind
 ·subst hb;grind
 ·exact hb
theorem Ta{a b:Rat}(ha:0<a)(h:0<=a*b):0<=b:=by
 rcases JR b 0 with hb|hb|hb
 ·have:=Rat.mul_pos ha (show 0 < -b by grind)
  grind
 ·grind
 ·grind
theorem YK{ux uy vx vy wx wy:Rat}(hu:Up ux uy)(hv:Up vx vy)(hw:Up wx wy)(h1:0<ux*vy-uy*vx)(h2:0<vx*wy-vy*wx):0<ux*wy-uy*wx:=by
 have P8:0<=uy:=(by unfold Up at hu;grind);have SD:0<=wy:=by unfold Up at hw;grind
 rcases hv with hv|⟨hv,hv'⟩
 ·have e:vy*(ux*wy-uy*wx)=wy*(ux*vy-uy*vx)+uy*(vx*wy-vy*wx):=(by grind);refine Aid hv ?_;rw [e];have a1:=Rat.mul_nonneg SD (Rat.le_of_lt h1);have a2:=Rat.mul_nonneg P8 (Rat.le_of_lt h2)
  rcases MN SD with hw1|hw1
  ·have:=Rat.mul_pos hw1 h1;grind
  ·rcases MN P8 with hu1|hu1
   ·have:=Rat.mul_pos hu1 h2;grind
   ·exfalso
    have hwx:0<wx:=(by unfold Up at hw;grind);have:=Rat.mul_pos hv hwx;subst hw1;subst hu1;clear a1 a2 e
    grind
 ·exfalso
  have:=Rat.mul_nonneg P8 (Rat.le_of_lt hv');subst hv
  grind
theorem pD{ux uy vx vy wx wy:Rat}(hu:Up ux uy)(hv:Up vx vy)(hw:Up wx wy)(h1:ux*vy-uy*vx<=0)(h2:vx*wy-vy*wx<=0):ux*wy-uy*wx<=0:=by
 have P8:0<=uy:=(by unfold Up at hu;grind);have SD:0<=wy:=by unfold Up at hw;grind
 rcases hv with hv|⟨hv,hv'⟩
 ·have e:vy*(-(ux*wy-uy*wx))=wy*(-(ux*vy-uy*vx))+uy*(-(vx*wy-vy*wx)):=by grind
  have:0<=-(ux*wy-uy*wx):=by
   refine Ta hv ?_;rw [e];have a1:=Rat.mul_nonneg SD (show 0<=-(ux*vy-uy*vx)by grind);have a2:=Rat.mul_nonneg P8 (show 0<=-(vx*wy-vy*wx)by grind)
   grind
  grind
 ·subst hv
  have Afh:wy=0:=by
   rcases MN SD with hw1|hw1
   ·have:=Rat.mul_pos hv' hw1;grind
   ·exact hw1.symm
  have hwx:0<wx:=(by unfold Up at hw;grind);have:=Rat.mul_nonneg P8 (Rat.le_of_lt hwx);subst Afh
  grind
/-! ### Directions around a place -/
theorem QR(p q:Rat):AN p q<0↔p<q:=by unfold AN;grind
theorem Uv(p q:Rat):AN p q=0↔p=q:=by unfold AN;grind
theorem QS(p q:Rat):0<AN p q↔q<p:=by unfold AN;grind
theorem l5(q:Rat):AD q=0↔q=0:=by unfold AD;grind
theorem WW(q:Rat):0<AD q↔0<q:=by unfold AD;grind
theorem Lg(p q:Pt):BI p q=0↔Up (q.x-p.x) (q.y-p.y):=by
 unfold BI IY Up;simp only [QS,Uv];constructor
 ·intro h;by_cases h1:p.y<q.y
  ·left;grind
  ·rw [if_neg h1]at h;by_cases h2:q.y=p.y
   ·rw [if_pos h2]at h;by_cases h3:p.x<q.x
    ·right;grind
    ·rw [if_neg h3]at h;cases h
   ·rw [if_neg h2]at h;cases h
 ·rintro(h|⟨h1,h2⟩)
  ·rw [if_pos (by grind)]
  ·rw [if_neg (by grind),if_pos (by grind),if_pos (by grind)]
theorem SQ(p q:Pt):BI p q=0∨BI p q=1:=by
 unfold BI IY
 (repeat' split)<;>simp
theorem ME{p q:Pt}(hne:q≠p)(h:BI p q=1):Up (p.x-q.x) (p.y-q.y):=by
 have h0:¬Up (q.x-p.x) (q.y-p.y):=(by rw [←Lg];omega);unfold Up at *;by_cases h1:q.y=p.y
 ·right
  refine⟨by grind,?_⟩;have:q.x≠p.x:=fun e=>hne (by cases p;cases q;simp_all)
  grind
 ·left;grind
def CX(p a b:Pt):Int:=if BI p a-BI p b≠0 then BI p a-BI p b else -AD (Al p a b)
theorem pP(p a b:Pt):CX p a b<0↔BI p a<BI p b∨(BI p a=BI p b/\0<Al p a b):=by
 unfold CX;have hs:=WW (Al p a b)
 split
 ·constructor
  ·intro h;left;omega
  ·rintro(h|⟨h,_⟩)<;>omega
 ·constructor
  ·intro h;exact .inr ⟨by omega,hs.1 (by omega)⟩
  ·rintro(h|⟨_,h⟩)
   ·omega
   ·have:=hs.2 h;omega
theorem pQ(p a b:Pt):CX p a b=0↔BI p a=BI p b/\Al p a b=0:=by
 unfold CX;have hs:=l5 (Al p a b)
 split
 ·constructor
  ·intro h;omega
  ·rintro⟨h,_⟩;omega
 ·constructor
  ·intro h;exact⟨by omega,hs.1 (by omega)⟩
  ·rintro⟨_,h⟩;have:=hs.2 h;omega
theorem zw(p a:Pt):Al p a a=0:=by unfold Al;grind
theorem Yr(p a b:Pt):Al p b a =-Al p a b:=by unfold Al;grind
theorem Ys(p a b:Pt):Al p a b=(p.x-a.x)*(p.y-b.y)-(p.y-a.y)*(p.x-b.x):=by unfold Al;grind
theorem AbK{p a b c:Pt}(ha:a≠p)(hb:b≠p)(hc:c≠p)(h1:CX p a b<0)(h2:CX p b c<0):CX p a c<0:=by
 rw [pP]at *
 rcases h1 with h1|⟨e1,h1⟩
 ·left
  rcases h2 with h2|⟨e2,h2⟩<;>omega
 ·rcases h2 with h2|⟨e2,h2⟩
  ·left;omega
  ·right
   refine⟨by omega,?_⟩
   rcases SQ p a with ea|ea
   ·unfold Al at *;exact YK ((Lg p a).1 ea) ((Lg p b).1 (by omega)) ((Lg p c).1 (by omega)) h1 h2
   ·rw [Ys]at *;exact YK (ME ha ea) (ME hb (by omega)) (ME hc (by omega)) h1 h2
theorem AbI{p a b c:Pt}(ha:a≠p)(hb:b≠p)(hc:c≠p)(h1:¬CX p a b<0)(h2:¬CX p b c<0):¬CX p a c<0:=by
 rw [pP]at *;rintro(h|⟨e,h⟩)
 ·have:¬BI p a<BI p b:=fun h=>h1 (.inl h);have:¬BI p b<BI p c:=fun h=>h2 (.inl h);omega
 ·have e1:¬BI p a<BI p b:=fun h=>h1 (.inl h);have e2:¬BI p b<BI p c:=fun h=>h2 (.inl h);have f1:BI p a=BI p b:=(by omega);have f2:BI p b=BI p c:=by omega
  have g1:Al p a b<=0:=by
   have:¬0<Al p a b:=fun h=>h1 (.inr ⟨f1,h⟩)
   grind
  have g2:Al p b c<=0:=by
   have:¬0<Al p b c:=fun h=>h2 (.inr ⟨f2,h⟩)
   grind
  have:Al p a c<=0:=by
   rcases SQ p a with ea|ea
   ·unfold Al at *;exact pD ((Lg p a).1 ea) ((Lg p b).1 (by omega)) ((Lg p c).1 (by omega)) g1 g2
   ·rw [Ys]at *;exact pD (ME ha ea) (ME hb (by omega)) (ME hc (by omega)) g1 g2
  grind
/-! ### Segments without a common place but an end of both -/
def EJ(a b z:Pt):Prop:=∃t:Rat,0<=t/\t<=1/\z.x=a.x+t*(b.x-a.x)/\z.y=a.y+t*(b.y-a.y)
theorem EJ.swap{a b z:Pt}(h:EJ a b z):EJ b a z:=by
 obtain⟨t,h0,h1,hx,hy⟩:=h;exact⟨1-t,by grind,by grind,by grind,by grind⟩
theorem SN(a b:Pt):AW a b<=0↔a.x<b.x∨(a.x=b.x/\a.y<=b.y):=by
 unfold AW;have h1:=Uv a.x b.x;have h2:=QR a.x b.x;have h3:=QR a.y b.y;have h4:=QS a.x b.x;have h5:=QS a.y b.y
 split
 ·constructor
  ·intro h
   left
   exact h2.1 (by omega)
  ·rintro(h|⟨h,_⟩)
   ·have:=h2.2 h;omega
   ·exact absurd (h1.2 h) (by assumption)
 ·have e:a.x=b.x:=h1.1 (by omega);constructor
  ·intro h
   right
   refine⟨e,?_⟩;have:¬b.y<a.y:=fun h6=>by have:=h5.2 h6;omega
   grind
  ·rintro(h|⟨_,h⟩)
   ·grind
   ·have:¬0<AN a.y b.y:=fun h6=>(by have:=h5.1 h6;grind);omega
theorem Agc(a b:Pt):0<AW a b↔b.x<a.x∨(a.x=b.x/\b.y<a.y):=by
 have:=SN a b;constructor
 ·intro h;have h1:¬(a.x<b.x∨(a.x=b.x/\a.y<=b.y)):=fun h2=>by have:=this.2 h2;omega
  grind
 ·intro h;have h1:¬AW a b<=0:=fun h2=>(by have:=this.1 h2;grind);omega
theorem Wr{t d:Rat}(h0:0<=t)(h1:t<=1)(hd:0<=d):0<=t*d/\t*d<=d:=by
 have a:=Rat.mul_nonneg h0 hd;have b:=Rat.mul_nonneg (show 0<=1-t by grind) hd;exact⟨a,by grind⟩
theorem Lq{a b:Rat}(h:a*b=0):a=0∨b=0:=Rat.mul_eq_zero.1 h
theorem ij{a b z:Pt}(hz:EJ a b z)(hl:AW a b<=0):MI a b z=true:=by
 obtain⟨t,h0,h1,hx,hy⟩:=hz;rw [SN]at hl;have ea:Al a b z=0:=by unfold Al;rw [hx,hy];grind
 have l1:AW a z<=0:=by
  rw [SN]
  rcases hl with hl|⟨hl,hl2⟩
  ·have:=Wr h0 h1 (show 0<=b.x-a.x by grind)
   rcases MN this.1 with h|h
   ·left;grind
   ·right
    have ht:t=0:=by rcases Lq h.symm with h|h<;>grind
    subst ht;constructor<;>grind
  ·right
   have:=Wr h0 h1 (show 0<=b.y-a.y by grind);constructor<;>grind
 have l2:AW z b<=0:=by
  rw [SN]
  rcases hl with hl|⟨hl,hl2⟩
  ·have:=Wr (show 0<=1-t by grind) (show 1-t<=1 by grind) (show 0<=b.x-a.x by grind)
   rcases MN this.1 with h|h
   ·left;grind
   ·right
    have ht:t=1:=by rcases Lq h.symm with h|h<;>grind
    subst ht;constructor<;>grind
  ·right
   have:=Wr h0 h1 (show 0<=b.y-a.y by grind);constructor<;>grind
 unfold MI JP;rw [(l5 _).2 ea];simp [l1,l2]
theorem Aia{a b z:Pt}(hz:EJ a b z):G4 a b z=true:=by
 unfold G4
 split
 ·rename_i h
  refine ij hz.swap ?_;rw [Agc]at h;rw [SN]
  grind
 ·exact ij hz (by omega)
structure Fl(a b c d:Pt):Prop where
 pc:EJ a b c→c=a∨c=b
 pd:EJ a b d→d=a∨d=b
 pa:EJ c d a→a=c∨a=d
 pb:EJ c d b→b=c∨b=d
 px:a≠c→a≠d→b≠c→b≠d→Al a b c*Al a b d<0→Al c d a*Al c d b<0→False
theorem Fl.symm{a b c d:Pt}(h:Fl a b c d):Fl c d a b:=
 ⟨h.pa,h.pb,h.pc,h.pd,fun h1 h2 h3 h4 h5 h6=>h.px (Ne.symm h1) (Ne.symm h3) (Ne.symm h2) (Ne.symm h4) h6 h5⟩
theorem mO(a b c:Pt):Al b a c =-Al a b c:=by unfold Al;grind
theorem Fl.left{a b c d:Pt}(h:Fl a b c d):Fl b a c d:=
 ⟨fun k=>(h.pc k.swap).symm,fun k=>(h.pd k.swap).symm,h.pb,h.pa,fun h1 h2 h3 h4 h5 h6=>h.px h3 h4 h1 h2 (by rw [mO,mO a b d]at h5;grind) (by grind)⟩
theorem Fl.right{a b c d:Pt}(h:Fl a b c d):Fl a b d c:=h.symm.left.symm
theorem l9{p q:Rat}(h:p*q<0):AD p*AD q<0:=by
 rcases JR p 0 with hp|hp|hp
 ·have:0<q:=by
   rcases JR q 0 with hq|hq|hq
   ·have:=Rat.mul_pos (show 0 < -p by grind) (show 0 < -q by grind);grind
   ·subst hq;grind
   ·exact hq
  have e1:AD p = -1:=(by unfold AD;grind);have e2:AD q=1:=(by unfold AD;grind);rw [e1,e2];decide
 ·subst hp;grind
 ·have:q<0:=by
   rcases JR q 0 with hq|hq|hq
   ·exact hq
   ·subst hq;grind
   ·have:=Rat.mul_pos hp hq;grind
  have e1:AD p=1:=(by unfold AD;grind);have e2:AD q = -1:=(by unfold AD;grind);rw [e1,e2];decide
theorem Uw{x y z:Pt}(h:Kt x y z=false)(hz:EJ x y z):z=x∨z=y:=by
 unfold Kt at h;rw [Aia hz,Bool.true_and]at h;rw [Bool.and_eq_false_iff]at h
 rcases h with h|h
 ·left;exact Cx.1 (by simpa using h)
 ·right;exact Cx.1 (by simpa using h)
theorem Ahc{a b c d:Pt}(h:ML a b c d=false):Fl a b c d:=by
 unfold ML at h;rw [Bool.or_eq_false_iff]at h;obtain⟨h1,h2⟩:=h;rw [List.any_eq_false]at h1;have m1:=h1 (c,d,a) (by simp [Is]);have m2:=h1 (c,d,b) (by simp [Is]);have m3:=h1 (a,b,c) (by simp [Is]);have m4:=h1 (a,b,d) (by simp [Is]);simp only [Bool.not_eq_true]at m1 m2 m3 m4;refine⟨Uw m3,Uw m4,Uw m1,Uw m2,?_⟩;intro k1 k2 k3 k4 k5 k6
 have hs:WX a b c d=false:=by
  unfold WX
  have f:∀{p q:Pt},p≠q→Ap p q=false:=fun hn=>by rw [Bool.eq_false_iff];exact fun e=>hn (Cx.1 e)
  rw [f k1,f k2,f k3,f k4];rfl
 have hp:Qa a b c d=true:=by unfold Qa JX;rw [decide_eq_true (l9 k5),decide_eq_true (l9 k6)];rfl
 rw [hs,hp]at h2
 cases h2
theorem AbG{p a b:Pt}(h:Fl p a p b)(ha:a≠p)(hb:b≠p)(h0:CX p a b=0):a=b:=by
 rw [pQ]at h0;obtain⟨e,h0⟩:=h0
 have key:∀{ux uy vx vy:Rat},Up ux uy→Up vx vy→ux*vy-uy*vx=0→∃t:Rat,(0<=t/\t<=1/\ux=t*vx/\uy=t*vy)∨(0<=t/\t<=1/\vx=t*ux/\vy=t*uy):=by
  have half:∀{ux uy vx vy:Rat},0<vy→0<=uy→uy<=vy→ux*vy-uy*vx=0→0<=uy/vy/\uy/vy<=1/\ux=uy/vy*vx/\uy=uy/vy*vy:=by
   intro ux uy vx vy hv hu hl h;have hv0:vy≠0:=(by grind);have e:uy/vy*vy=uy:=(by rw [Rat.div_def,Rat.mul_assoc,Rat.mul_comm vy⁻¹,Rat.mul_inv_cancel _ hv0];grind);refine⟨Ta hv (by rw [Rat.mul_comm,e];exact hu),?_,?_,e.symm⟩
   ·have:=Ta (b:=1-uy/vy) hv (by grind)
    grind
   ·have h1:vy*(ux-uy/vy*vx)=0:=by generalize uy/vy=q at *;have:vy*(ux-q*vx)=vy*ux-(q*vy)*vx:=(by grind);rw [this,e];grind
    rcases Lq h1 with h2|h2
    ·exact absurd h2 hv0
    ·grind
  intro ux uy vx vy hu hv h
  rcases hu with hu|⟨hu,VR⟩
  ·rcases hv with hv|⟨hv,hv'⟩
   ·by_cases hl:uy<=vy
    ·exact⟨_,.inl (half hv (by grind) hl h)⟩
    ·exact⟨_,.inr (half hu (by grind) (by grind) (by grind))⟩
   ·exfalso
    have:=Rat.mul_pos hu hv';subst hv;grind
  ·rcases hv with hv|⟨hv,hv'⟩
   ·exfalso
    have:=Rat.mul_pos hv VR;subst hu;grind
   ·subst hu;subst hv;by_cases hl:ux<=vx
    ·have:=half (ux:=0) (vx:=0) hv' (by grind) hl (by grind);exact⟨_,.inl ⟨this.1,this.2.1,this.2.2.2,by grind⟩⟩
    ·have:=half (ux:=0) (vx:=0) VR (by grind) (show vx<=ux by grind) (by grind);exact⟨_,.inr ⟨this.1,this.2.1,this.2.2.2,by grind⟩⟩
 have main:∃t:Rat,(0<=t/\t<=1/\a.x-p.x=t*(b.x-p.x)/\a.y-p.y=t*(b.y-p.y))∨(0<=t/\t<=1/\b.x-p.x=t*(a.x-p.x)/\b.y-p.y=t*(a.y-p.y)):=by
  rcases SQ p a with ea|ea
  ·exact key ((Lg p a).1 ea) ((Lg p b).1 (by omega)) h0
  ·rw [Ys]at h0;obtain⟨t,ht⟩:=key (ME ha ea) (ME hb (by omega)) h0;exact⟨t,ht.imp (fun ⟨h1,h2,h3,h4⟩=>⟨h1,h2,by grind,by grind⟩) (fun ⟨h1,h2,h3,h4⟩=>⟨h1,h2,by grind,by grind⟩)⟩
 obtain⟨t,⟨h1,h2,h3,h4⟩|⟨h1,h2,h3,h4⟩⟩:=main
 ·rcases h.pb ⟨t,h1,h2,by grind,by grind⟩with e|e
  ·exact absurd e ha
  ·exact e
 ·rcases h.pd ⟨t,h1,h2,by grind,by grind⟩with e|e
  ·exact absurd e hb
  ·exact e.symm
def xo(l:List Hf):Prop:=∀h∈l,Hl h.a/\Hl h.b
theorem iq(l:Bs)(hl:l.length<1000000)(f:Nat)(w:World) :
  Calls Tryz.prog 113 #[S l,.int .u8 (f:Nat)] w (BC (l.any (DN f)) w):=by
 go_enter Tryz.func113,Tryz.ntmps113
 go_upto_region 2 with fail
 go_loopw [8] (fun kv wr=>∃(k:Nat),kv=.int .i64 (k:Nat)/\k<=l.length/\(l.take k).any (DN f)=false/\Aa w wr) (fun kv _=>l.length-(intOf kv).toNat)
 case atStart=>exact⟨0,rfl,by omega,rfl,Aa.refl _⟩
 case round=>
  obtain⟨k,rfl,hk,Hy,Ac⟩:=hrel;have Qz:=AmU Hy;clear Hy;by_cases hkn:k<l.length
  ·have hk0:(0:Int)<=(k:Int):=(by omega);have Ci:(k:Int)<(l.length:Int):=(by omega);have v1:IntKind.wrap .i64 ((k:Int)+1)=(k:Int)+1:=Ane _ (by omega);obtain⟨b,hb⟩:=AmT (l[k]);have hq:∀h:k<(⟨l.toArray⟩:ByteArray).size,((⟨l.toArray⟩:ByteArray)[k]'h)=b:=fun h=>(by rw [hb];rfl);have HT:Hid ((l.take (k+1)).any (DN f)=DN f b):=AmU (by rw [Ana hkn,List.any_append,Qz.out,←hb];simp);have HA:Hid (DN f b=true→l.any (DN f)=true):=AmU fun h=>List.any_eq_true.2 ⟨b,hb▸AmY hkn,h⟩;clear hb;by_cases h1:b.toNat<f
   ·have ho:l.any (DN f)=true:=HA.out (by unfold DN;rw [decide_eq_true h1];rfl);have HO:=AmU ho;clear ho;go_wp2;go_ret;exact⟨MP (by rw [HO.out]),Ac⟩
   ·by_cases h2:126<b.toNat
    ·have ho:l.any (DN f)=true:=HA.out (by unfold DN;rw [decide_eq_true h2,Bool.or_true]);have HO:=AmU ho;clear ho;go_wp2;go_ret;exact⟨MP (by rw [HO.out]),Ac⟩
    ·have ho:(l.take (k+1)).any (DN f)=false:=(by rw [HT.out];unfold DN;rw [decide_eq_false h1,decide_eq_false h2];rfl);have HO:=AmU ho;clear ho;go_wp2;go_roundw
     case rel=>exact⟨k+1,by go_num,hkn,HO.out,Ac⟩
     case measure=>simp [intOf];omega
  ·have B6:k=l.length:=(by omega);subst B6;have ho:l.any (DN f)=false:=(by have:=Qz.out;rwa [List.take_length]at this);have HO:=AmU ho;clear ho;go_wp2;go_ret;exact⟨MP (by rw [HO.out]),Ac⟩
theorem AjO(w:World)(l:Bs):∃W c,(convert 9 42 (S l)).run Tryz.prog w=.ok (.slice (some ⟨w.heap.size,0,none⟩) l.length c) W/\Aa w W/\∀j (h:j<l.length),W.cell? ⟨w.heap.size,j,none⟩=some (.int .u8 (l[j].toNat:Nat)):=by
 refine⟨Go.Lib.bytesWorld w 5 ⟨l.toArray⟩,_,Go.Lib.run_convert_string_bytes w 9 42 5 ⟨l.toArray⟩ Tryz.underlying9 Tryz.underlying42 Tryz.underlying5,?_,?_⟩
 ·have h1:Aa w (w.drew.alloc (.cells (Go.Lib.bytesCells w 5 ⟨l.toArray⟩) 5)):=(Aa.refl w).drew.alloc _;refine⟨h1.os,h1.tape,h1.output,?_,fun j hj=>Go.Lib.bytesWorld_at_old w 5 ⟨l.toArray⟩ j hj⟩;rw [Go.Lib.bytesWorld_size];omega
 ·intro j h;have:=Go.Lib.bytesWorld_cell w 5 ⟨l.toArray⟩ j (show j<l.toArray.size by simpa using h);rw [this];simp [List.getD_eq_getElem?_getD,h]
end Go.Proofs.YtbejphgbbpplbaaGreatDoor
namespace Kl
def JL(i:Nat)(b:UInt8):Bool:=IX b||(decide (i≠0)&&LS b)
theorem AgN{l:Bs}{k:Nat}(hk:k<l.length)(h:JL k l[k]=false):nameB l=false:=by
 cases l with
 | nil=>rfl
 | cons b l=>
  unfold nameB;unfold JL at h
  cases k with
  | zero=>
   simp only [List.getElem_cons_zero,ne_eq,not_true,decide_false,Bool.false_and,Bool.or_false]at h;show (decide (l.length<32)&&(IX b&&l.all (fun c=>IX c||LS c)))=false;rw [h];simp
  | succ k=>
   simp only [List.getElem_cons_succ]at h;have hk':k<l.length:=by simpa using hk
   have h2:l.all (fun c=>IX c||LS c)=false:=by rw [List.all_eq_false];exact⟨l[k],List.getElem_mem hk',by simpa using h⟩
   show (decide (l.length<32)&&(IX b&&l.all (fun c=>IX c||LS c)))=false;rw [h2];simp
theorem AgO{l:Bs}(h0:l≠[])(h1:l.length<=32)(h:∀k (hk:k<l.length),JL k l[k]=true):nameB l=true:=by
 cases l with
 | nil=>exact absurd rfl h0
 | cons b l=>
  unfold nameB;rw [Bool.and_eq_true,Bool.and_eq_true];refine⟨decide_eq_true (by simp only [List.length_cons]at h1;omega),?_,?_⟩
  ·have:=h 0 (by simp)
   simpa [JL]using this
  ·rw [List.all_eq_true];intro c hc;obtain⟨j,hj,rfl⟩:=List.getElem_of_mem hc;have:=h (j+1) (by simpa using hj)
   simpa [JL]using this
end Kl
namespace Go.Proofs.YtbejphgbbpplbaaGreatDoor
open Go.RowKit Kl
theorem eA(l:Bs)(hl:l.length<1000000)(w:World) :
  Calls Tryz.prog 43 #[S l] w (BC (nameB l) w):=by
 obtain⟨W,c,hcv,hx,hcell⟩:=AjO w l;by_cases h0:l = []
 ·subst h0;clear hcv hcell;go_enter Tryz.func43,Tryz.ntmps43;go_wp2;go_ret;exact⟨MP rfl,Aa.refl _⟩
 ·have e1:(l == [])=false:=beq_false_of_ne h0
  have e2:l.isEmpty=false:=by cases l with|nil=>exact absurd rfl h0|cons a b=>rfl
  have H0:=AmU h0;by_cases h1:32<l.length
  ·have ho:nameB l=false:=by
    cases l with
    | nil=>rfl
    | cons b l=>show (decide (l.length < 32) && _)=false;rw [decide_eq_false (by simp only [List.length_cons]at h1;omega)];rfl
   have HO:=AmU ho;have h1':(32:Int)<(l.length:Int):=(by omega);clear ho hcv hcell;go_enter Tryz.func43,Tryz.ntmps43;go_wp2;go_ret;exact⟨MP (by rw [HO.out]),Aa.refl _⟩
  ·have h1':¬((32:Int)<(l.length:Int)):=(by omega);have Alr:(l.length:Int)<=32:=(by omega);have HC:=AmU hcell;have HX:=AmU hx;obtain⟨r,hr0⟩:=AmT (nameB l);rw [←hr0];have HR:=AmU hr0;clear hcell hx hr0;obtain⟨bw,Es⟩:=AmT w.heap.size;rw [←Es]at hcv;have r7:=AmU Es;clear Es;go_enter Tryz.func43,Tryz.ntmps43
   go_upto_region 4 with fail
   go_loopw [17] (fun kv wr=>∃(k:Nat),kv=.int .i64 (k:Nat)/\k<=l.length/\(∀i (h:i<l.length),i<k→JL i l[i]=true)/\wr=W) (fun kv _=>l.length-(intOf kv).toNat)
   case atStart=>exact⟨0,rfl,by omega,by intro i _ h;omega,rfl⟩
   case round=>
    obtain⟨k,rfl,hk,Hy,rfl⟩:=hrel;have Qz:=AmU Hy;clear Hy;by_cases hkn:k<l.length
    ·have hk0:(0:Int)<=(k:Int):=(by omega);have Ci:(k:Int)<(l.length:Int):=(by omega);have v1:IntKind.wrap .i64 ((k:Int)+1)=(k:Int)+1:=Ane _ (by omega);have hg:=HC.out k hkn;rw [←r7.out]at hg;have hg0:wr.cell? ⟨bw,0+k,none⟩=some (.int .u8 (l[k].toNat:Nat)):=(by rw [Nat.zero_add];exact hg);obtain⟨b,hb⟩:=AmT (l[k]);rw [←hb]at hg hg0;have HB:=AmU hb;clear hb
     go_upto_region 6 with fail
     go_cut [5] (fun v wx=>v=.bool (IX b)/\wx=wr)
     case first=>
      by_cases a1:97<=b.toNat<;>by_cases a2:b.toNat<=122<;>by_cases a3:65<=b.toNat<;>by_cases a4:b.toNat<=90
      all_goals
       have hv:IX b=((decide (97<=b.toNat)&&decide (b.toNat<=122))||(decide (65<=b.toNat)&&decide (b.toNat<=90))):=rfl;simp only [a1,a2,a3,a4,decide_true,decide_false,Bool.and_true,Bool.and_false,Bool.or_true,Bool.or_false]at hv;have HV:=AmU hv;clear hv;go_wp2
       all_goals go_meet
       all_goals exact⟨by rw [HV.out];try (first|rfl|(congr 1;rw [Bool.eq_iff_iff];simp;omega)),rfl⟩
     case rest=>
      obtain⟨rfl,rfl⟩:=hcut;obtain⟨lt,hlt⟩:=AmT (IX b);rw [←hlt];have uw:=AmU hlt;clear hlt
      go_upto_region 7 with fail
      go_cut [6] (fun v wx=>v=.bool (LS b)/\wx=wc)
      case first=>
       have c95:((b.toNat:Int) == 95)=decide (b.toNat=95):=by rw [Bool.eq_iff_iff,beq_iff_eq,decide_eq_true_iff];omega
       by_cases a1:48<=b.toNat<;>by_cases a2:b.toNat<=57<;>by_cases a3:b.toNat=95
       all_goals
        have hv:LS b=((decide (48<=b.toNat)&&decide (b.toNat<=57))||decide (b.toNat=95)):=rfl;simp only [a1,a2,a3,decide_true,decide_false,Bool.and_true,Bool.and_false,Bool.or_true,Bool.or_false]at hv;have HV:=AmU hv;clear hv;go_wp2
        all_goals go_meet
        all_goals exact⟨by rw [HV.out];try (first|rfl|(congr 1;rw [Bool.eq_iff_iff];simp;omega)),rfl⟩
      case rest=>
       obtain⟨rfl,rfl⟩:=hcut;obtain⟨dt,KC⟩:=AmT (LS b);rw [←KC];have sw:=AmU KC;clear KC;have FV:JL k b=(lt||(decide (k≠0)&&dt)):=(by rw [uw.out,sw.out];rfl);have Oz:=AmU FV;clear FV
       have good:JL k b=true→∀i (h:i<l.length),i<k+1→JL i l[i]=true:=by
        intro hg i hi hik;by_cases e:i=k
        ·subst e;rw [←HB.out];exact hg
        ·exact Qz.out i hi (by omega)
       have bad:JL k b=false→r=false:=fun h=>(by rw [HR.out];exact AgN hkn (by rw [←HB.out];exact h));have HG:=AmU good;have kA:=AmU bad;clear good bad
       cases lt
       ·by_cases Vz:k=0
        ·subst Vz;have hr:r=false:=kA.out (by rw [Oz.out];rfl);have Na:=AmU hr;clear hr;go_wp2;go_ret;exact⟨MP (by rw [Na.out]),HX.out⟩
        ·have t0:((k:Int) == 0)=false:=beq_false_of_ne (by omega)
         cases dt
         ·have hr:r=false:=kA.out (by rw [Oz.out];simp);have Na:=AmU hr;clear hr Vz;go_wp2;go_ret;exact⟨MP (by rw [Na.out]),HX.out⟩
         ·have hg2:=AmU (HG.out (by rw [Oz.out];simp [Vz]));clear Vz;go_wp2;go_roundw
          case rel=>exact⟨k+1,by go_num,hkn,hg2.out,by trivial⟩
          case measure=>simp [intOf];omega
       ·have hg2:=AmU (HG.out (by rw [Oz.out];simp));go_wp2;go_roundw
        case rel=>exact⟨k+1,by go_num,hkn,hg2.out,by trivial⟩
        case measure=>simp [intOf];omega
    ·have B6:k=l.length:=(by omega);subst B6;have hr:r=true:=(by rw [HR.out];exact AgO H0.out (by omega) (fun i hi=>Qz.out i hi hi));have Na:=AmU hr;clear hr;go_wp2;go_ret;exact⟨MP (by rw [Na.out]),HX.out⟩
def J3(e:En):Value:=.agg #[S e.u,S e.s,.int .i64 e.p,S e.t]
def Bz(l:List En):List Value:=l.flatMap (fun e=>[S e.u,S e.s,.int .i64 e.p,S e.t])
theorem Acc(l:List En):(Bz l).length=l.length*4:=by
 induction l with
 | nil=>rfl
 | cons e l ih=>unfold Bz at *;simp only [List.flatMap_cons,List.length_append,ih,List.length_cons,List.length_nil];omega
theorem qG:∀(l:List En) (j:Nat) (h:j<l.length),(Bz l)[j*4]?=some (S l[j].u)/\(Bz l)[j*4+1]?=some (S l[j].s)/\(Bz l)[j*4+2]?=some (.int .i64 l[j].p)/\(Bz l)[j*4+3]?=some (S l[j].t)
 | e::l,0,_=>⟨rfl,rfl,rfl,rfl⟩
 | e::l,j+1,h=>by
  have ih:=qG l j (by simpa using h);have e0:Bz (e::l)=S e.u::S e.s :: .int .i64 e.p::S e.t::Bz l:=rfl;rw [e0];have e1:(j+1)*4=j*4+1+1+1+1:=(by omega);rw [e1]
  simpa using ih
theorem Tp{w:World}{A:Option Addr}{l:List En}(hr:Ae w A (Bz l)){j:Nat}(h:j<l.length):∃b o,A=some ⟨b,o,none⟩/\w.cell? ⟨b,o+j*4,none⟩=some (S l[j].u)/\w.cell? ⟨b,o+j*4+1,none⟩=some (S l[j].s)/\w.cell? ⟨b,o+j*4+2,none⟩=some (.int .i64 l[j].p)/\w.cell? ⟨b,o+j*4+3,none⟩=some (S l[j].t):=by
 have hl:=Acc l;obtain⟨b,o,e,hcs⟩:=hr.ad (by omega);obtain⟨f0,f1,f2,f3⟩:=qG l j h;have g0:=hcs (j*4) (by omega);have g1:=hcs (j*4+1) (by omega);have g2:=hcs (j*4+2) (by omega);have g3:=hcs (j*4+3) (by omega);rw [Anc (by omega),Anb]at f0 f1 f2 f3;rw [f0]at g0;rw [f1,←Nat.add_assoc]at g1;rw [f2,←Nat.add_assoc]at g2;rw [f3,←Nat.add_assoc]at g3;exact⟨b,o,e,g0,g1,g2,g3⟩
def Le(e:La):Value:=.agg #[S e.u,S e.mn,S e.mx]
def Cr(l:List La):List Value:=l.flatMap (fun e=>[S e.u,S e.mn,S e.mx])
theorem AfP(l:List La):(Cr l).length=l.length*3:=by
 induction l with
 | nil=>rfl
 | cons e l ih=>unfold Cr at *;simp only [List.flatMap_cons,List.length_append,ih,List.length_cons,List.length_nil];omega
theorem cd:∀(l:List La) (j:Nat) (h:j<l.length),(Cr l)[j*3]?=some (S l[j].u)/\(Cr l)[j*3+1]?=some (S l[j].mn)/\(Cr l)[j*3+2]?=some (S l[j].mx)
 | e::l,0,_=>⟨rfl,rfl,rfl⟩
 | e::l,j+1,h=>by
  have ih:=cd l j (by simpa using h);have e0:Cr (e::l)=S e.u::S e.mn::S e.mx::Cr l:=rfl;rw [e0];have e1:(j+1)*3=j*3+1+1+1:=(by omega);rw [e1]
  simpa using ih
theorem iF{w:World}{A:Option Addr}{l:List La}(hr:Ae w A (Cr l)){j:Nat}(h:j<l.length):∃b o,A=some ⟨b,o,none⟩/\w.cell? ⟨b,o+j*3,none⟩=some (S l[j].u)/\w.cell? ⟨b,o+j*3+1,none⟩=some (S l[j].mn)/\w.cell? ⟨b,o+j*3+2,none⟩=some (S l[j].mx):=by
 have hl:=AfP l;obtain⟨b,o,e,hcs⟩:=hr.ad (by omega);obtain⟨f0,f1,f2⟩:=cd l j h;have g0:=hcs (j*3) (by omega);have g1:=hcs (j*3+1) (by omega);have g2:=hcs (j*3+2) (by omega);rw [Anc (by omega),Anb]at f0 f1 f2;rw [f0]at g0;rw [f1,←Nat.add_assoc]at g1;rw [f2,←Nat.add_assoc]at g2;exact⟨b,o,e,g0,g1,g2⟩
theorem zS{g:FuncId}{cb:Array Value}(eg:∀args w,(callFunc g args).run Tryz.prog w=.ok (.enter g args) w)(p:En→Bool)(l:List En)(A:Option Addr)(c:Nat)(w:World)(hr:Ae w A (Bz l))(hc:l.length<=c)(hcm:c<=9223372036854775807)
  (hp:∀e∈l,∀W,Aa w W→Calls Tryz.prog g (#[J3 e]++cb) W (BC (p e) W)) :
  Calls Tryz.prog 71 #[.slice A l.length c,.func (.func g) #[] cb] w (AA (CP p l) w):=by
 obtain⟨r,hr0⟩:=AmT (CP p l);rw [←hr0];have HR:=AmU hr0;have HP:=AmU hp;clear hr0 hp;go_enter Tryz.func71,Tryz.ntmps71;go_wp2
 go_loopw [8] (fun i wr=>∃j:Nat,i=.int .i64 (j:Nat)/\j<=l.length/\(∀q∈l.take j,p q=false)/\Aa w wr) (fun i _=>l.length-(intOf i).toNat)
 case atStart=>exact⟨0,rfl,by omega,by simp,Aa.refl _⟩
 case round=>
  obtain⟨j,rfl,hj,Aj,Ac⟩:=hrel;have HO:=AmU Aj;clear Aj;by_cases hlt:j<l.length
  ·obtain⟨b,o,rfl,hg1,hg2,hg3,hg4⟩:=Tp (hr.ext Ac) hlt;obtain⟨q,hq⟩:=AmT (l[j]);have bf:=HP.out l[j] (AmY hlt) wr Ac;rw [←hq]at hg1 hg2 hg3 hg4 bf;unfold J3 at bf;have hj0:(0:Int)<=(j:Int):=(by omega);have AV:(j:Int)<(l.length:Int):=(by omega);have HQ:=AmU hq;clear hq
   cases e0:p q
   ·have HE:=AmU e0;rw [e0]at bf;clear e0;(go_wp2_with fail);(with_reducible refine bf.mono ?_);rintro e w2 ⟨rfl,hx2⟩;go_wp2;go_roundw
    case rel=>
     refine⟨j+1,by go_num,hlt,?_,Ac.trans hx2⟩;intro x hx;rw [Ana hlt,←HQ.out]at hx
     rcases List.mem_append.1 hx with h|h
     ·exact HO.out x h
     ·simp only [Ank]at h;rw [h];exact HE.out
    case measure=>simp [intOf];omega
   ·have Eb:r=(j:Int):=(by rw [HR.out];exact dY hlt HO.out (by rw [←HQ.out];exact e0));rw [e0]at bf;clear e0;subst Eb;(go_wp2_with fail);(with_reducible refine bf.mono ?_);rintro e w2 ⟨rfl,hx2⟩;go_wp2;go_ret;exact⟨rfl,Ac.trans hx2⟩
  ·have hle:(l.length:Int)<=(j:Int):=(by omega);have Eb:r = -1:=(by rw [HR.out];exact VZ (by have:=HO.out;rw [Ang (by omega)]at this;exact this));subst Eb;go_wp2;go_ret;exact⟨rfl,Ac⟩
theorem zb{g:FuncId}{cb:Array Value}(eg:∀args w,(callFunc g args).run Tryz.prog w=.ok (.enter g args) w)(p:En→Bool)(l:List En)(A:Option Addr)(c:Nat)(w:World)(hr:Ae w A (Bz l))(hc:l.length<=c)(hcm:c<=9223372036854775807)
  (hp:∀e∈l,∀W,Aa w W→Calls Tryz.prog g (#[J3 e]++cb) W (BC (p e) W)) :
  Calls Tryz.prog 66 #[.slice A l.length c,.func (.func g) #[] cb] w (BC (l.any p) w):=by
 have ix:=zS eg p l A c w hr hc hcm hp;have ha:=zV p l;obtain⟨r,hr0⟩:=AmT (l.any p);rw [←hr0]at ha ⊢;generalize CP p l=z at *;clear hr hr0 hp eg;go_enter Tryz.func66,Tryz.ntmps66;(go_wp2_with fail);(with_reducible refine ix.mono ?_);rintro e w1 ⟨rfl,hx⟩;go_wp2;go_ret;exact⟨by rw [←ha];rfl,hx⟩
theorem Ac2(x:En)(u:Bs)(b:Nat)(w:World)(hb:w.cell? ⟨b,0,none⟩=some (S u)) :
  Calls Tryz.prog 139 #[J3 x,.pointer (some ⟨b,0,none⟩)] w (BC (x.u == u) w):=by
 have hx:=(Aa.refl w).alloc (.cells #[S x.u,S x.s,.int .i64 x.p,S x.t] 40);have j1:=hx.cellS hb;unfold J3;clear hb;go_enter Tryz.func139,Tryz.ntmps139;go_wp2;go_ret;exact⟨rfl,hx⟩
theorem Acl:∀args w,(callFunc 139 args).run Tryz.prog w=.ok (.enter 139 args) w:=enters_of Tryz.func139 (by kernel_rfl) rfl
theorem Ac3(l:List En)(u:Bs)(A:Option Addr)(c:Nat)(w:World)(hr:Ae w A (Bz l))(hc:l.length<=c)(hcm:c<=9223372036854775807) :
  Calls Tryz.prog 69 #[.slice A l.length c,S u] w (AA (Nu l u) w):=by
 have hb:=AmW w (.cells #[S u] 9);have hE:=(Aa.refl w).alloc (.cells #[S u] 9)
 have ix:=zS (cb:=#[.pointer (some ⟨w.heap.size,0,none⟩)]) Acl (fun e=>e.u == u) l A c (w.alloc (.cells #[S u] 9)) (hr.ext hE) hc hcm
  (fun e _ W hx=>Ac2 e u _ W (Ab (o:=0) ((hx.block _ (AmV hb)).trans hb) rfl))
 unfold Nu;clear hr hb;go_enter Tryz.func69,Tryz.ntmps69;(go_wp2_with fail);(with_reducible refine ix.mono ?_);rintro e w1 ⟨rfl,hx⟩;go_wp2;go_ret;exact⟨rfl,hE.trans hx⟩
theorem Ace(l:List En)(i:Nat):Bz (l.take i)=(Bz l).take (i*4):=by
 induction l generalizing i with
 | nil=>simp [Bz]
 | cons e l ih=>
  cases i with
  | zero=>simp [Bz]
  | succ i=>have e0:∀l,Bz (e::l)=S e.u::S e.s :: .int .i64 e.p::S e.t::Bz l:=fun _=>rfl;rw [List.take_succ_cons,e0,e0,ih];have e1:(i+1)*4=i*4+1+1+1+1:=(by omega);rw [e1];simp
theorem Acn(y x:En)(b:Nat)(w:World)(hb:w.heap[b]?=some (.cells #[S x.u,S x.s,.int .i64 x.p,S x.t] 40)) :
  Calls Tryz.prog 114 #[J3 y,.pointer (some ⟨b,0,none⟩)] w (BC (y.s == x.s) w):=by
 have hx:=(Aa.refl w).alloc (.cells #[S y.u,S y.s,.int .i64 y.p,S y.t] 40);have j1:=hx.cellS (Ab (o:=1) hb rfl);unfold J3;clear hb;go_enter Tryz.func114,Tryz.ntmps114;go_wp2;go_ret;exact⟨rfl,hx⟩
theorem Ack:∀args w,(callFunc 114 args).run Tryz.prog w=.ok (.enter 114 args) w:=enters_of Tryz.func114 (by kernel_rfl) rfl
def PL(e:En):Prop:=e.u.length<1000000/\e.s.length<1000000/\e.t.length<1000000
theorem Aco(l:List En)(x:En)(A:Option Addr)(c:Nat)(w:World)(hr:Ae w A (Bz l))(hc:l.length<=c)(hcm:c<=9223372036854775807)(hl:PL x) :
  Calls Tryz.prog 48 #[.slice A l.length c,J3 x] w (AA (DD l x) w):=by
 obtain⟨hu,hs,ht⟩:=hl;have hB:=AmW w (.cells #[S x.u,S x.s,.int .i64 x.p,S x.t] 40);have hE:=(Aa.refl w).alloc (.cells #[S x.u,S x.s,.int .i64 x.p,S x.t] 40);have nm:=eA x.u hu;have o1:∀W,Calls Tryz.prog 113 #[S x.s,.int .u8 33] W (BC (x.s.any (DN 33)) W):=fun W=>iq x.s hs 33 W;have o2:∀W,Calls Tryz.prog 113 #[S x.t,.int .u8 32] W (BC (x.t.any (DN 32)) W):=fun W=>iq x.t ht 32 W;have Gg:=AmU (hr.ext hE);obtain⟨r,hr0⟩:=AmT (DD l x);rw [←hr0];have HR:=AmU hr0;unfold J3;clear hr hr0;go_enter Tryz.func48,Tryz.ntmps48
 go_upto_region 1 with fail
 generalize w.alloc (.cells #[S x.u,S x.s,.int .i64 x.p,S x.t] 40)=V at *;obtain⟨b,hb⟩:=AmT w.heap.size;rw [←hb]at hB ⊢;clear hb;have k1:=Ab (o:=0) hB rfl
 cases h1:nameB x.u
 ·rw [h1]at nm;have HH:=AmU (show r=8 by rw [HR.out];unfold DD;rw [if_pos h1]);clear h1 o1 o2;(go_wp2_with fail);(with_reducible refine(nm V).mono ?_);rintro e w1 ⟨rfl,hx1⟩;go_wp2;go_ret;exact⟨Be HH.out,hE.trans hx1⟩
 rw [h1]at nm;have H1:=AmU (show ¬(nameB x.u=false)by rw [h1];simp);clear h1;(go_wp2_with fail);(with_reducible refine(nm V).mono ?_);rintro e w1 ⟨rfl,hx1⟩;have hB1:=(hx1.block _ (AmV hB)).trans hB;have X1:=hE.trans hx1;have k2:=Ab (o:=0) hB1 rfl;have fd:=Ac3 l x.u A c w1 (Gg.out.ext hx1) hc hcm;have TS:=AmU hx1;clear nm k1 hB hx1;by_cases h2:0<=Nu l x.u
 ·have HH:=AmU (show r=9 by rw [HR.out];unfold DD;rw [if_neg H1.out,if_pos h2]);generalize Nu l x.u=z at *;clear o1 o2;(go_wp2_with fail);(with_reducible refine fd.mono ?_);rintro e w2 ⟨rfl,hx2⟩;go_wp2;go_ret;exact⟨Be HH.out,X1.trans hx2⟩
 have H2:=AmU (Int.not_le.1 h2);have h2':=Int.not_le.1 h2;clear h2;have Q3:=AmU (Eq.refl (Nu l x.u));obtain⟨z,hz⟩:=AmT (Nu l x.u);rw [←hz]at fd h2';clear hz;(go_wp2_with fail);(with_reducible refine fd.mono ?_);rintro e w2 ⟨rfl,hx2⟩;have hB2:=(hx2.block _ (AmV hB1)).trans hB1;have X2:=X1.trans hx2;have O3:=AmU (TS.out.trans hx2);have k3:=Ab (o:=1) hB2 rfl;have k4:=Ab (o:=2) hB2 rfl;have k5:=Ab (o:=3) hB2 rfl;clear fd k2 hB1 hx2 Q3;by_cases h3:x.s.length=1
 rotate_left
 ·have HH:=AmU (show r=7 by rw [HR.out];unfold DD;rw [if_neg H1.out,if_neg (Int.not_le.2 H2.out),if_pos h3]);have t1:((x.s.length:Int) != 1)=true:=(by rw [bne_iff_ne];omega);clear o1 o2;go_wp2;go_ret;exact⟨Be HH.out,X2⟩
 have H3:=AmU (show ¬(x.s.length≠1)from fun h=>h h3);have t1:((x.s.length:Int) != 1)=false:=(by rw [bne_eq_false_iff_eq];omega);have Tb:=o1 w2;clear h3 o1
 cases h4:x.s.any (DN 33)
 rotate_left
 ·have HH:=AmU (show r=7 by rw [HR.out];unfold DD;rw [if_neg H1.out,if_neg (Int.not_le.2 H2.out),if_neg H3.out,if_pos h4]);rw [h4]at Tb;clear o2 h4;(go_wp2_with fail);(with_reducible refine Tb.mono ?_);rintro e w3 ⟨rfl,hx3⟩;go_wp2;go_ret;exact⟨Be HH.out,X2.trans hx3⟩
 have H4:=AmU (show ¬(x.s.any (DN 33)=true)by rw [h4];simp);rw [h4]at Tb;clear h4;(go_wp2_with fail);(with_reducible refine Tb.mono ?_);rintro e w3 ⟨rfl,hx3⟩;have BL:=(hx3.block _ (AmV hB2)).trans hB2;have X3:=X2.trans hx3
 have an:=zb (cb:=#[.pointer (some ⟨b,0,none⟩)]) Ack (fun y=>y.s == x.s) l A c w3 (Gg.out.ext (O3.out.trans hx3)) hc hcm
  (fun y _ W hx=>Acn y x b W ((hx.block _ (AmV BL)).trans BL))
 have hlt3:=AmV BL;have TI:=AmU BL;clear k3 k4 k5 hB2 Tb t1 hx3 BL hlt3
 cases h5:l.any (fun y=>y.s == x.s)
 rotate_left
 ·have HH:=AmU (show r=9 by rw [HR.out];unfold DD;rw [if_neg H1.out,if_neg (Int.not_le.2 H2.out),if_neg H3.out,if_neg H4.out,if_pos h5]);rw [h5]at an;clear o2 h5;(go_wp2_with fail);(with_reducible refine an.mono ?_);rintro e w4 ⟨rfl,Ai⟩;go_wp2;go_ret;exact⟨Be HH.out,X3.trans Ai⟩
 have H5:=AmU (show ¬(l.any (fun y=>y.s == x.s)=true)by rw [h5];simp);rw [h5]at an;clear h5;(go_wp2_with fail);(with_reducible refine an.mono ?_);rintro e w4 ⟨rfl,Ai⟩;have Gk:=(Ai.block _ (AmV TI.out)).trans TI.out;have X4:=X3.trans Ai;have k4:=Ab (o:=2) Gk rfl;have k5:=Ab (o:=3) Gk rfl;have Oc:=o2 w4;clear an Gk Ai o2;by_cases h6:x.p<1
 ·have HH:=AmU (show r=12 by rw [HR.out];unfold DD;rw [if_neg H1.out,if_neg (Int.not_le.2 H2.out),if_neg H3.out,if_neg H4.out,if_neg H5.out,if_pos h6]);clear Oc;go_wp2;go_ret;exact⟨Be HH.out,X4⟩
 by_cases h7:5<x.p
 ·have HH:=AmU (show r=12 by rw [HR.out];unfold DD;rw [if_neg H1.out,if_neg (Int.not_le.2 H2.out),if_neg H3.out,if_neg H4.out,if_neg H5.out,if_neg h6,if_pos h7]);clear Oc;go_wp2;go_ret;exact⟨Be HH.out,X4⟩
 by_cases h8:80<x.t.length
 ·have HH:=AmU (show r=16 by rw [HR.out];unfold DD;rw [if_neg H1.out,if_neg (Int.not_le.2 H2.out),if_neg H3.out,if_neg H4.out,if_neg H5.out,if_neg h6,if_neg h7,if_pos h8]);have t2:(80:Int)<(x.t.length:Int):=(by omega);clear Oc;go_wp2;go_ret;exact⟨Be HH.out,X4⟩
 have t2:¬(80:Int)<(x.t.length:Int):=by omega
 cases h9:x.t.any (DN 32)
 rotate_left
 ·have HH:=AmU (show r=15 by rw [HR.out];unfold DD;rw [if_neg H1.out,if_neg (Int.not_le.2 H2.out),if_neg H3.out,if_neg H4.out,if_neg H5.out,if_neg h6,if_neg h7,if_neg h8,if_pos h9]);rw [h9]at Oc;clear h9;(go_wp2_with fail);(with_reducible refine Oc.mono ?_);rintro e w5 ⟨rfl,Ad⟩;go_wp2;go_ret;exact⟨Be HH.out,X4.trans Ad⟩
 have HH:=AmU (show r=0 by rw [HR.out];unfold DD;rw [if_neg H1.out,if_neg (Int.not_le.2 H2.out),if_neg H3.out,if_neg H4.out,if_neg H5.out,if_neg h6,if_neg h7,if_neg h8,if_neg (by rw [h9];simp)]);rw [h9]at Oc;clear h9;(go_wp2_with fail);(with_reducible refine Oc.mono ?_);rintro e w5 ⟨rfl,Ad⟩;go_wp2;go_ret;exact⟨Be HH.out,X4.trans Ad⟩
theorem YB(l:List En)(A:Option Addr)(c:Nat)(w:World)(hr:Ae w A (Bz l))(hc:l.length<=c)(hcm:c<=9223372036854775807)(hl:∀e∈l,PL e) :
  Calls Tryz.prog 12 #[.slice A l.length c] w (AA (EN l) w):=by
 have HL:=AmU hl;have Gg:=AmU hr;obtain⟨r,hr0⟩:=AmT (EN l);rw [←hr0];have HR:=AmU hr0;clear hl hr hr0;by_cases Dh:20<l.length
 ·have HH:=AmU (show r=4 by rw [HR.out];unfold EN;rw [if_pos Dh]);have t2:(20:Int)<(l.length:Int):=(by omega);go_enter Tryz.func12,Tryz.ntmps12;go_wp2;go_ret;exact⟨Be HH.out,Aa.refl _⟩
 ·have HC:=AmU (show r=Kq [] l by rw [HR.out];unfold EN;rw [if_neg Dh]);have t2:¬(20:Int)<(l.length:Int):=(by omega);obtain⟨n,hn⟩:=AmT l.length;rw [←hn]at hc Dh t2 ⊢;have HN:=AmU hn;clear hn HR;go_enter Tryz.func12,Tryz.ntmps12
  go_upto_region 4 with fail
  go_loopw [11] (fun kv wr=>∃(k:Nat),kv=.int .i64 (k:Nat)/\k<=n/\r=Kq (l.take k) (l.drop k)/\Aa w wr) (fun kv _=>n-(intOf kv).toNat)
  case atStart=>exact⟨0,rfl,by omega,by rw [List.take_zero,List.drop_zero];exact HC.out,Aa.refl _⟩
  case round=>
   obtain⟨k,rfl,hk,hck,Ac⟩:=hrel;have Q0:=AmU hck;clear hck;by_cases hkn:k<n
   ·have CN:k<l.length:=(by rw [←HN.out];exact hkn);obtain⟨b,o,rfl,hg1,hg2,hg3,hg4⟩:=Tp (Gg.out.ext Ac) CN;have hst:=AaU CN rfl;rw [←Q0.out]at hst;have hlen:=HL.out l[k] (AmY CN);obtain⟨x,hx⟩:=AmT (l[k]);rw [←hx]at hg1 hg2 hg3 hg4 hst hlen;have HST:=AmU hst;have Ef:(l.take k).length=k:=(by rw [List.length_take];omega);have hk0:(0:Int)<=(k:Int):=(by omega);have Ci:(k:Int)<(n:Int):=(by omega);have hk2:(k:Int)<=(c:Int):=(by omega);have v1:IntKind.wrap .i64 ((k:Int)+1)=(k:Int)+1:=Ane _ (by omega);have hxb:=AmW wr (.cells #[S x.u,S x.s,.int .i64 x.p,S x.t] 40);have hx1:=(Aa.refl wr).alloc (.cells #[S x.u,S x.s,.int .i64 x.p,S x.t] 40);have hE:=Ac.trans hx1;have ck:=fun q:Af (wr.alloc (.cells #[S x.u,S x.s,.int .i64 x.p,S x.t] 40))=>Aco (l.take k) x (some ⟨b,o,none⟩) c q.w (by rw [Ace];exact((Gg.out.ext hE).ext q.h).take _) (by omega) hcm hlen;rw [Ef]at ck;unfold J3 at ck;clear hx hst Ef hlen Ac
    go_upto_region 6 with fail
    generalize wr.alloc (.cells #[S x.u,S x.s,.int .i64 x.p,S x.t] 40)=V at *;obtain⟨bx,Ay⟩:=AmT wr.heap.size;rw [←Ay]at hxb ⊢;clear Ay hg1 hg2 hg3 hg4;have f1:∀q:Af V,q.w.cell? ⟨bx,0,none⟩=some (S x.u):=Af.cell (Ab hxb rfl);have f2:∀q:Af V,q.w.cell? ⟨bx,1,none⟩=some (S x.s):=Af.cell (Ab hxb rfl);have f3:∀q:Af V,q.w.cell? ⟨bx,2,none⟩=some (.int .i64 x.p):=Af.cell (Ab hxb rfl);have f4:∀q:Af V,q.w.cell? ⟨bx,3,none⟩=some (S x.t):=Af.cell (Ab hxb rfl);obtain⟨z,hz⟩:=AmT (DD (l.take k) x);rw [←hz]at ck;have HZ:=AmU hz;clear hz hxb;refine F3 (by kernel_rfl) (by kernel_rfl) ?_
    repeat (go_big_quiet_step (with_reducible refine El (ck _)))
    refine wpQuiet_nil ?_;rintro _ ⟨q,rfl⟩;have HQ:=AmU (hE.trans q.h);clear f1 f2 f3 f4 ck;by_cases hz0:z=0
    ·have HH:=AmU (show r=Kq (l.take (k+1)) (l.drop (k+1))by rw [HST.out,if_pos (by rw [←HZ.out];exact hz0)]);subst hz0;go_wp2;go_roundw
     case rel=>exact⟨k+1,by go_num,hkn,HH.out,HQ.out⟩
     case measure=>simp [intOf];omega
    ·have HH:=AmU (show r=z by rw [HST.out,if_neg (by rw [←HZ.out];exact hz0),HZ.out]);have t1:(z != 0)=true:=(by rw [bne_iff_ne];exact hz0);clear hz0;go_wp2;go_ret;exact⟨Be HH.out,HQ.out⟩
   ·have B6:k=n:=(by omega);subst B6;have HH:=AmU (show r=0 by rw [Q0.out,HN.out,List.drop_length];rfl);go_wp2;go_ret;exact⟨Be HH.out,Ac⟩
end Go.Proofs.YtbejphgbbpplbaaGreatDoor
