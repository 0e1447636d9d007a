/- X26: N1 N2 Q6 Q7 LG1 LG2 LG3 LG4 LG5 LG6. -/
import Derived.Test.YtjalkoacphhgdaaGreatDoorX25
set_option maxRecDepth 100000
set_option maxHeartbeats 16000000
namespace Go.Proofs.YtjalkoacphhgdaaGreatDoor
open Go.RowKit Kl
theorem Ku(a b:Rat):a<b∨a=b∨b<a:=by grind
theorem NB{a b:Rat}(h:a<=b):a<b∨a=b:=by grind
def Up(x y:Rat):Prop:=0<y∨(y=0/\0<x)
theorem Alx{a b:Rat}(ha:0<a)(h:0<a*b):0<b:=by
 rcases Ku b 0 with hb|hb|hb
 ·have:=Rat.mul_pos ha (show 0 < -b by grind)
  grind
 ·subst hb;grind
 ·exact hb
theorem TT{a b:Rat}(ha:0<a)(h:0<=a*b):0<=b:=by
 rcases Ku b 0 with hb|hb|hb
 ·have:=Rat.mul_pos ha (show 0 < -b by grind)
  grind
 ·grind
 ·grind
theorem ZY{ux uy vx vy wx wy:Rat}(hu:Up ux uy)(hv:Up vx vy)(hw:Up wx wy)(h1:0<ux*vy-uy*vx)(h2:0<vx*wy-vy*wx):0<ux*wy-uy*wx:=by
 have Qs:0<=uy:=(by unfold Up at hu;grind);have TC:0<=wy:=by unfold Up at hw;grind
 rcases hv with hv|⟨hv,hv'⟩
 ·have e:vy*(ux*wy-uy*wx)=wy*(ux*vy-uy*vx)+uy*(vx*wy-vy*wx):=(by grind);refine Alx hv ?_;rw [e];have a1:=Rat.mul_nonneg TC (Rat.le_of_lt h1);have a2:=Rat.mul_nonneg Qs (Rat.le_of_lt h2)
  rcases NB TC with hw1|hw1
  ·have:=Rat.mul_pos hw1 h1;grind
  ·rcases NB Qs with hu1|hu1
   ·have:=Rat.mul_pos hu1 h2;grind
   ·exfalso
    have hwx:0<wx:=(by unfold Up at hw;grind);have:=Rat.mul_pos hv hwx;subst hw1;subst hu1;clear a1 a2 e
    grind
 ·exfalso
  have:=Rat.mul_nonneg Qs (Rat.le_of_lt hv');subst hv
  grind
theorem tJ{ux uy vx vy wx wy:Rat}(hu:Up ux uy)(hv:Up vx vy)(hw:Up wx wy)(h1:ux*vy-uy*vx<=0)(h2:vx*wy-vy*wx<=0):ux*wy-uy*wx<=0:=by
 have Qs:0<=uy:=(by unfold Up at hu;grind);have TC:0<=wy:=by unfold Up at hw;grind
 rcases hv with hv|⟨hv,hv'⟩
 ·have e:vy*(-(ux*wy-uy*wx))=wy*(-(ux*vy-uy*vx))+uy*(-(vx*wy-vy*wx)):=by grind
  have:0<=-(ux*wy-uy*wx):=by
   refine TT hv ?_;rw [e];have a1:=Rat.mul_nonneg TC (show 0<=-(ux*vy-uy*vx)by grind);have a2:=Rat.mul_nonneg Qs (show 0<=-(vx*wy-vy*wx)by grind)
   grind
  grind
 ·subst hv
  have Ail:wy=0:=by
   rcases NB TC with hw1|hw1
   ·have:=Rat.mul_pos hv' hw1;grind
   ·exact hw1.symm
  have hwx:0<wx:=(by unfold Up at hw;grind);have:=Rat.mul_nonneg Qs (Rat.le_of_lt hwx);subst Ail
  grind
/-! ### Directions around a place -/
theorem RP(p q:Rat):AU p q<0↔p<q:=by unfold AU;grind
theorem Vk(p q:Rat):AU p q=0↔p=q:=by unfold AU;grind
theorem RQ(p q:Rat):0<AU p q↔q<p:=by unfold AU;grind
theorem xn(q:Rat):AH q=0↔q=0:=by unfold AH;grind
theorem Yp(q:Rat):0<AH q↔0<q:=by unfold AH;grind
theorem LL(p q:Pt):BK p q=0↔Up (q.x-p.x) (q.y-p.y):=by
 unfold BK Jv Up;simp only [RQ,Vk];constructor
 ·intro h;by_cases h1:p.y<q.y
  ·left;grind
  ·rw [if_neg h1]at h;by_cases h2:q.y=p.y
   ·rw [if_pos h2]at h;by_cases h3:p.x<q.x
    ·right;grind
    ·rw [if_neg h3]at h;cases h
   ·rw [if_neg h2]at h;cases h
 ·rintro(h|⟨h1,h2⟩)
  ·rw [if_pos (by grind)]
  ·rw [if_neg (by grind),if_pos (by grind),if_pos (by grind)]
theorem TO(p q:Pt):BK p q=0∨BK p q=1:=by
 unfold BK Jv
 (repeat' split)<;>simp
theorem Ny{p q:Pt}(hne:q≠p)(h:BK p q=1):Up (p.x-q.x) (p.y-q.y):=by
 have h0:¬Up (q.x-p.x) (q.y-p.y):=(by rw [←LL];omega);unfold Up at *;by_cases h1:q.y=p.y
 ·right
  refine⟨by grind,?_⟩;have:q.x≠p.x:=fun e=>hne (by cases p;cases q;simp_all)
  grind
 ·left;grind
def Dh(p a b:Pt):Int:=if BK p a-BK p b≠0 then BK p a-BK p b else -AH (Al p a b)
theorem tU(p a b:Pt):Dh p a b<0↔BK p a<BK p b∨(BK p a=BK p b/\0<Al p a b):=by
 unfold Dh;have hs:=Yp (Al p a b)
 split
 ·constructor
  ·intro h;left;omega
  ·rintro(h|⟨h,_⟩)<;>omega
 ·constructor
  ·intro h;exact .inr ⟨by omega,hs.1 (by omega)⟩
  ·rintro(h|⟨_,h⟩)
   ·omega
   ·have:=hs.2 h;omega
theorem tV(p a b:Pt):Dh p a b=0↔BK p a=BK p b/\Al p a b=0:=by
 unfold Dh;have hs:=xn (Al p a b)
 split
 ·constructor
  ·intro h;omega
  ·rintro⟨h,_⟩;omega
 ·constructor
  ·intro h;exact⟨by omega,hs.1 (by omega)⟩
  ·rintro⟨_,h⟩;have:=hs.2 h;omega
theorem Acv(p a:Pt):Al p a a=0:=by unfold Al;grind
theorem ZC(p a b:Pt):Al p b a =-Al p a b:=by unfold Al;grind
theorem ZD(p a b:Pt):Al p a b=(p.x-a.x)*(p.y-b.y)-(p.y-a.y)*(p.x-b.x):=by unfold Al;grind
theorem Aeq{p a b c:Pt}(ha:a≠p)(hb:b≠p)(hc:c≠p)(h1:Dh p a b<0)(h2:Dh p b c<0):Dh p a c<0:=by
 rw [tU]at *
 rcases h1 with h1|⟨e1,h1⟩
 ·left
  rcases h2 with h2|⟨e2,h2⟩<;>omega
 ·rcases h2 with h2|⟨e2,h2⟩
  ·left;omega
  ·right
   refine⟨by omega,?_⟩
   rcases TO p a with ea|ea
   ·unfold Al at *;exact ZY ((LL p a).1 ea) ((LL p b).1 (by omega)) ((LL p c).1 (by omega)) h1 h2
   ·rw [ZD]at *;exact ZY (Ny ha ea) (Ny hb (by omega)) (Ny hc (by omega)) h1 h2
theorem Aeo{p a b c:Pt}(ha:a≠p)(hb:b≠p)(hc:c≠p)(h1:¬Dh p a b<0)(h2:¬Dh p b c<0):¬Dh p a c<0:=by
 rw [tU]at *;rintro(h|⟨e,h⟩)
 ·have:¬BK p a<BK p b:=fun h=>h1 (.inl h);have:¬BK p b<BK p c:=fun h=>h2 (.inl h);omega
 ·have e1:¬BK p a<BK p b:=fun h=>h1 (.inl h);have e2:¬BK p b<BK p c:=fun h=>h2 (.inl h);have f1:BK p a=BK p b:=(by omega);have f2:BK p b=BK p c:=by omega
  have g1:Al p a b<=0:=by
   have:¬0<Al p a b:=fun h=>h1 (.inr ⟨f1,h⟩)
   grind
  have g2:Al p b c<=0:=by
   have:¬0<Al p b c:=fun h=>h2 (.inr ⟨f2,h⟩)
   grind
  have:Al p a c<=0:=by
   rcases TO p a with ea|ea
   ·unfold Al at *;exact tJ ((LL p a).1 ea) ((LL p b).1 (by omega)) ((LL p c).1 (by omega)) g1 g2
   ·rw [ZD]at *;exact tJ (Ny ha ea) (Ny hb (by omega)) (Ny hc (by omega)) g1 g2
  grind
/-! ### Segments without a common place but an end of both -/
def EX(a b z:Pt):Prop:=∃t:Rat,0<=t/\t<=1/\z.x=a.x+t*(b.x-a.x)/\z.y=a.y+t*(b.y-a.y)
theorem EX.swap{a b z:Pt}(h:EX a b z):EX b a z:=by
 obtain⟨t,h0,h1,hx,hy⟩:=h;exact⟨1-t,by grind,by grind,by grind,by grind⟩
theorem TN(a b:Pt):Be a b<=0↔a.x<b.x∨(a.x=b.x/\a.y<=b.y):=by
 unfold Be;have h1:=Vk a.x b.x;have h2:=RP a.x b.x;have h3:=RP a.y b.y;have h4:=RQ a.x b.x;have h5:=RQ a.y b.y
 split
 ·constructor
  ·intro h
   left
   exact h2.1 (by omega)
  ·rintro(h|⟨h,_⟩)
   ·have:=h2.2 h;omega
   ·exact absurd (h1.2 h) (by assumption)
 ·have e:a.x=b.x:=h1.1 (by omega);constructor
  ·intro h
   right
   refine⟨e,?_⟩;have:¬b.y<a.y:=fun h6=>by have:=h5.2 h6;omega
   grind
  ·rintro(h|⟨_,h⟩)
   ·grind
   ·have:¬0<AU a.y b.y:=fun h6=>(by have:=h5.1 h6;grind);omega
theorem Aji(a b:Pt):0<Be a b↔b.x<a.x∨(a.x=b.x/\b.y<a.y):=by
 have:=TN a b;constructor
 ·intro h;have h1:¬(a.x<b.x∨(a.x=b.x/\a.y<=b.y)):=fun h2=>by have:=this.2 h2;omega
  grind
 ·intro h;have h1:¬Be a b<=0:=fun h2=>(by have:=this.1 h2;grind);omega
theorem XD{t d:Rat}(h0:0<=t)(h1:t<=1)(hd:0<=d):0<=t*d/\t*d<=d:=by
 have a:=Rat.mul_nonneg h0 hd;have b:=Rat.mul_nonneg (show 0<=1-t by grind) hd;exact⟨a,by grind⟩
theorem LU{a b:Rat}(h:a*b=0):a=0∨b=0:=Rat.mul_eq_zero.1 h
theorem qw{a b z:Pt}(hz:EX a b z)(hl:Be a b<=0):N4 a b z=true:=by
 obtain⟨t,h0,h1,hx,hy⟩:=hz;rw [TN]at hl;have ea:Al a b z=0:=by unfold Al;rw [hx,hy];grind
 have l1:Be a z<=0:=by
  rw [TN]
  rcases hl with hl|⟨hl,hl2⟩
  ·have:=XD h0 h1 (show 0<=b.x-a.x by grind)
   rcases NB this.1 with h|h
   ·left;grind
   ·right
    have ht:t=0:=by rcases LU h.symm with h|h<;>grind
    subst ht;constructor<;>grind
  ·right
   have:=XD h0 h1 (show 0<=b.y-a.y by grind);constructor<;>grind
 have l2:Be z b<=0:=by
  rw [TN]
  rcases hl with hl|⟨hl,hl2⟩
  ·have:=XD (show 0<=1-t by grind) (show 1-t<=1 by grind) (show 0<=b.x-a.x by grind)
   rcases NB this.1 with h|h
   ·left;grind
   ·right
    have ht:t=1:=by rcases LU h.symm with h|h<;>grind
    subst ht;constructor<;>grind
  ·right
   have:=XD h0 h1 (show 0<=b.y-a.y by grind);constructor<;>grind
 unfold N4 Ks;rw [(xn _).2 ea];simp [l1,l2]
theorem Alu{a b z:Pt}(hz:EX a b z):GM a b z=true:=by
 unfold GM
 split
 ·rename_i h
  refine qw hz.swap ?_;rw [Aji]at h;rw [TN]
  grind
 ·exact qw hz (by omega)
structure FC(a b c d:Pt):Prop where
 pc:EX a b c→c=a∨c=b
 pd:EX a b d→d=a∨d=b
 pa:EX c d a→a=c∨a=d
 pb:EX c d b→b=c∨b=d
 px:a≠c→a≠d→b≠c→b≠d→Al a b c*Al a b d<0→Al c d a*Al c d b<0→False
theorem FC.symm{a b c d:Pt}(h:FC a b c d):FC c d a b:=
 ⟨h.pa,h.pb,h.pc,h.pd,fun h1 h2 h3 h4 h5 h6=>h.px (Ne.symm h1) (Ne.symm h3) (Ne.symm h2) (Ne.symm h4) h6 h5⟩
theorem rA(a b c:Pt):Al b a c =-Al a b c:=by unfold Al;grind
theorem FC.left{a b c d:Pt}(h:FC a b c d):FC b a c d:=
 ⟨fun k=>(h.pc k.swap).symm,fun k=>(h.pd k.swap).symm,h.pb,h.pa,fun h1 h2 h3 h4 h5 h6=>h.px h3 h4 h1 h2 (by rw [rA,rA a b d]at h5;grind) (by grind)⟩
theorem FC.right{a b c d:Pt}(h:FC a b c d):FC a b d c:=h.symm.left.symm
theorem xr{p q:Rat}(h:p*q<0):AH p*AH q<0:=by
 rcases Ku p 0 with hp|hp|hp
 ·have:0<q:=by
   rcases Ku q 0 with hq|hq|hq
   ·have:=Rat.mul_pos (show 0 < -p by grind) (show 0 < -q by grind);grind
   ·subst hq;grind
   ·exact hq
  have e1:AH p = -1:=(by unfold AH;grind);have e2:AH q=1:=(by unfold AH;grind);rw [e1,e2];decide
 ·subst hp;grind
 ·have:q<0:=by
   rcases Ku q 0 with hq|hq|hq
   ·exact hq
   ·subst hq;grind
   ·have:=Rat.mul_pos hp hq;grind
  have e1:AH p=1:=(by unfold AH;grind);have e2:AH q = -1:=(by unfold AH;grind);rw [e1,e2];decide
theorem Vm{x y z:Pt}(h:KX x y z=false)(hz:EX x y z):z=x∨z=y:=by
 unfold KX at h;rw [Alu hz,Bool.true_and]at h;rw [Bool.and_eq_false_iff]at h
 rcases h with h|h
 ·left;exact C0.1 (by simpa using h)
 ·right;exact C0.1 (by simpa using h)
theorem Akq{a b c d:Pt}(h:N7 a b c d=false):FC a b c d:=by
 unfold N7 at h;rw [Bool.or_eq_false_iff]at h;obtain⟨h1,h2⟩:=h;rw [List.any_eq_false]at h1;have m1:=h1 (c,d,a) (by simp [IL]);have m2:=h1 (c,d,b) (by simp [IL]);have m3:=h1 (a,b,c) (by simp [IL]);have m4:=h1 (a,b,d) (by simp [IL]);simp only [Bool.not_eq_true]at m1 m2 m3 m4;refine⟨Vm m3,Vm m4,Vm m1,Vm m2,?_⟩;intro k1 k2 k3 k4 k5 k6
 have hs:Yq a b c d=false:=by
  unfold Yq
  have f:∀{p q:Pt},p≠q→Ap p q=false:=fun hn=>by rw [Bool.eq_false_iff];exact fun e=>hn (C0.1 e)
  rw [f k1,f k2,f k3,f k4];rfl
 have hp:QH a b c d=true:=by unfold QH K2;rw [decide_eq_true (xr k5),decide_eq_true (xr k6)];rfl
 rw [hs,hp]at h2
 cases h2
theorem Aem{p a b:Pt}(h:FC p a p b)(ha:a≠p)(hb:b≠p)(h0:Dh p a b=0):a=b:=by
 rw [tV]at h0;obtain⟨e,h0⟩:=h0
 have key:∀{ux uy vx vy:Rat},Up ux uy→Up vx vy→ux*vy-uy*vx=0→∃t:Rat,(0<=t/\t<=1/\ux=t*vx/\uy=t*vy)∨(0<=t/\t<=1/\vx=t*ux/\vy=t*uy):=by
  have half:∀{ux uy vx vy:Rat},0<vy→0<=uy→uy<=vy→ux*vy-uy*vx=0→0<=uy/vy/\uy/vy<=1/\ux=uy/vy*vx/\uy=uy/vy*vy:=by
   intro ux uy vx vy hv hu hl h;have hv0:vy≠0:=(by grind);have e:uy/vy*vy=uy:=(by rw [Rat.div_def,Rat.mul_assoc,Rat.mul_comm vy⁻¹,Rat.mul_inv_cancel _ hv0];grind);refine⟨TT hv (by rw [Rat.mul_comm,e];exact hu),?_,?_,e.symm⟩
   ·have:=TT (b:=1-uy/vy) hv (by grind)
    grind
   ·have h1:vy*(ux-uy/vy*vx)=0:=by generalize uy/vy=q at *;have:vy*(ux-q*vx)=vy*ux-(q*vy)*vx:=(by grind);rw [this,e];grind
    rcases LU h1 with h2|h2
    ·exact absurd h2 hv0
    ·grind
  intro ux uy vx vy hu hv h
  rcases hu with hu|⟨hu,Nq⟩
  ·rcases hv with hv|⟨hv,hv'⟩
   ·by_cases hl:uy<=vy
    ·exact⟨_,.inl (half hv (by grind) hl h)⟩
    ·exact⟨_,.inr (half hu (by grind) (by grind) (by grind))⟩
   ·exfalso
    have:=Rat.mul_pos hu hv';subst hv;grind
  ·rcases hv with hv|⟨hv,hv'⟩
   ·exfalso
    have:=Rat.mul_pos hv Nq;subst hu;grind
   ·subst hu;subst hv;by_cases hl:ux<=vx
    ·have:=half (ux:=0) (vx:=0) hv' (by grind) hl (by grind);exact⟨_,.inl ⟨this.1,this.2.1,this.2.2.2,by grind⟩⟩
    ·have:=half (ux:=0) (vx:=0) Nq (by grind) (show vx<=ux by grind) (by grind);exact⟨_,.inr ⟨this.1,this.2.1,this.2.2.2,by grind⟩⟩
 have main:∃t:Rat,(0<=t/\t<=1/\a.x-p.x=t*(b.x-p.x)/\a.y-p.y=t*(b.y-p.y))∨(0<=t/\t<=1/\b.x-p.x=t*(a.x-p.x)/\b.y-p.y=t*(a.y-p.y)):=by
  rcases TO p a with ea|ea
  ·exact key ((LL p a).1 ea) ((LL p b).1 (by omega)) h0
  ·rw [ZD]at h0;obtain⟨t,ht⟩:=key (Ny ha ea) (Ny hb (by omega)) h0;exact⟨t,ht.imp (fun ⟨h1,h2,h3,h4⟩=>⟨h1,h2,by grind,by grind⟩) (fun ⟨h1,h2,h3,h4⟩=>⟨h1,h2,by grind,by grind⟩)⟩
 obtain⟨t,⟨h1,h2,h3,h4⟩|⟨h1,h2,h3,h4⟩⟩:=main
 ·rcases h.pb ⟨t,h1,h2,by grind,by grind⟩with e|e
  ·exact absurd e ha
  ·exact e
 ·rcases h.pd ⟨t,h1,h2,by grind,by grind⟩with e|e
  ·exact absurd e hb
  ·exact e.symm
def Aby(l:List Hf):Prop:=∀h∈l,EY h.a/\EY h.b
theorem rh(l:Bs)(hl:l.length<1000000)(f:Nat)(w:World) :
  Calls Tryz.prog 113 #[S l,.int .u8 (f:Nat)] w (Bv (l.any (CQ f)) w):=by
 go_enter Tryz.func113,Tryz.ntmps113
 go_upto_region 2 with fail
 go_loopw [8] (fun kv wr=>∃(k:Nat),kv=.int .i64 (k:Nat)/\k<=l.length/\(l.take k).any (CQ f)=false/\Aa w wr) (fun kv _=>l.length-(intOf kv).toNat)
 case atStart=>exact⟨0,rfl,by omega,rfl,Aa.refl _⟩
 case round=>
  obtain⟨k,rfl,hk,Iz,Ac⟩:=hrel;have Rl:=AqH Iz;clear Iz;by_cases hkn:k<l.length
  ·have hk0:(0:Int)<=(k:Int):=(by omega);have BH:(k:Int)<(l.length:Int):=(by omega);have v1:IntKind.wrap .i64 ((k:Int)+1)=(k:Int)+1:=AqQ _ (by omega);obtain⟨b,hb⟩:=AqG (l[k]);have hq:∀h:k<(⟨l.toArray⟩:ByteArray).size,((⟨l.toArray⟩:ByteArray)[k]'h)=b:=fun h=>(by rw [hb];rfl);have HT:Hid ((l.take (k+1)).any (CQ f)=CQ f b):=AqH (by rw [AqN hkn,List.any_append,Rl.out,←hb];simp);have HA:Hid (CQ f b=true→l.any (CQ f)=true):=AqH fun h=>List.any_eq_true.2 ⟨b,hb▸AqL hkn,h⟩;clear hb;by_cases h1:b.toNat<f
   ·have ho:l.any (CQ f)=true:=HA.out (by unfold CQ;rw [decide_eq_true h1];rfl);have HO:=AqH ho;clear ho;go_wp2;go_ret;exact⟨ND (by rw [HO.out]),Ac⟩
   ·by_cases h2:126<b.toNat
    ·have ho:l.any (CQ f)=true:=HA.out (by unfold CQ;rw [decide_eq_true h2,Bool.or_true]);have HO:=AqH ho;clear ho;go_wp2;go_ret;exact⟨ND (by rw [HO.out]),Ac⟩
    ·have ho:(l.take (k+1)).any (CQ f)=false:=(by rw [HT.out];unfold CQ;rw [decide_eq_false h1,decide_eq_false h2];rfl);have HO:=AqH ho;clear ho;go_wp2;go_roundw
     case rel=>exact⟨k+1,by go_num,hkn,HO.out,Ac⟩
     case measure=>simp [intOf];omega
  ·have Bt:k=l.length:=(by omega);subst Bt;have ho:l.any (CQ f)=false:=(by have:=Rl.out;rwa [List.take_length]at this);have HO:=AqH ho;clear ho;go_wp2;go_ret;exact⟨ND (by rw [HO.out]),Ac⟩
theorem mV(w:World)(l:Bs):∃W c,(convert 9 52 (S l)).run Tryz.prog w=.ok (.slice (some ⟨w.heap.size,0,none⟩) l.length c) W/\Aa w W/\∀j (h:j<l.length),W.cell? ⟨w.heap.size,j,none⟩=some (.int .u8 (l[j].toNat:Nat)):=by
 refine⟨Go.Lib.bytesWorld w 5 ⟨l.toArray⟩,_,Go.Lib.run_convert_string_bytes w 9 52 5 ⟨l.toArray⟩ Tryz.underlying9 Tryz.underlying52 Tryz.underlying5,?_,?_⟩
 ·have h1:Aa w (w.drew.alloc (.cells (Go.Lib.bytesCells w 5 ⟨l.toArray⟩) 5)):=(Aa.refl w).drew.alloc _;refine⟨h1.os,h1.tape,h1.output,?_,fun j hj=>Go.Lib.bytesWorld_at_old w 5 ⟨l.toArray⟩ j hj⟩;rw [Go.Lib.bytesWorld_size];omega
 ·intro j h;have:=Go.Lib.bytesWorld_cell w 5 ⟨l.toArray⟩ j (show j<l.toArray.size by simpa using h);rw [this];simp [List.getD_eq_getElem?_getD,h]
end Go.Proofs.YtjalkoacphhgdaaGreatDoor
namespace Kl
def Kq(i:Nat)(b:UInt8):Bool:=H7 b||(decide (i≠0)&&KY b)
theorem AjX{l:Bs}{k:Nat}(hk:k<l.length)(h:Kq k l[k]=false):nameB l=false:=by
 cases l with
 | nil=>rfl
 | cons b l=>
  unfold nameB;unfold Kq at h
  cases k with
  | zero=>
   simp only [List.getElem_cons_zero,ne_eq,not_true,decide_false,Bool.false_and,Bool.or_false]at h;show (decide (l.length<32)&&(H7 b&&l.all (fun c=>H7 c||KY c)))=false;rw [h];simp
  | succ k=>
   simp only [List.getElem_cons_succ]at h;have hk':k<l.length:=by simpa using hk
   have h2:l.all (fun c=>H7 c||KY c)=false:=by rw [List.all_eq_false];exact⟨l[k],List.getElem_mem hk',by simpa using h⟩
   show (decide (l.length<32)&&(H7 b&&l.all (fun c=>H7 c||KY c)))=false;rw [h2];simp
theorem AjY{l:Bs}(h0:l≠[])(h1:l.length<=32)(h:∀k (hk:k<l.length),Kq k l[k]=true):nameB l=true:=by
 cases l with
 | nil=>exact absurd rfl h0
 | cons b l=>
  unfold nameB;rw [Bool.and_eq_true,Bool.and_eq_true];refine⟨decide_eq_true (by simp only [List.length_cons]at h1;omega),?_,?_⟩
  ·have:=h 0 (by simp)
   simpa [Kq]using this
  ·rw [List.all_eq_true];intro c hc;obtain⟨j,hj,rfl⟩:=List.getElem_of_mem hc;have:=h (j+1) (by simpa using hj)
   simpa [Kq]using this
end Kl
namespace Go.Proofs.YtjalkoacphhgdaaGreatDoor
open Go.RowKit Kl
theorem jC(l:Bs)(hl:l.length<1000000)(w:World) :
  Calls Tryz.prog 39 #[S l] w (Bv (nameB l) w):=by
 obtain⟨W,c,hcv,hx,hcell⟩:=mV w l;by_cases h0:l = []
 ·subst h0;clear hcv hcell;go_enter Tryz.func39,Tryz.ntmps39;go_wp2;go_ret;exact⟨ND rfl,Aa.refl _⟩
 ·have e1:(l == [])=false:=beq_false_of_ne h0
  have e2:l.isEmpty=false:=by cases l with|nil=>exact absurd rfl h0|cons a b=>rfl
  have H0:=AqH h0;by_cases h1:32<l.length
  ·have ho:nameB l=false:=by
    cases l with
    | nil=>rfl
    | cons b l=>show (decide (l.length < 32) && _)=false;rw [decide_eq_false (by simp only [List.length_cons]at h1;omega)];rfl
   have HO:=AqH ho;have h1':(32:Int)<(l.length:Int):=(by omega);clear ho hcv hcell;go_enter Tryz.func39,Tryz.ntmps39;go_wp2;go_ret;exact⟨ND (by rw [HO.out]),Aa.refl _⟩
  ·have h1':¬((32:Int)<(l.length:Int)):=(by omega);have AoY:(l.length:Int)<=32:=(by omega);have HC:=AqH hcell;have HX:=AqH hx;obtain⟨r,hr0⟩:=AqG (nameB l);rw [←hr0];have HR:=AqH hr0;clear hcell hx hr0;obtain⟨bw,Dj⟩:=AqG w.heap.size;rw [←Dj]at hcv;have HBW:=AqH Dj;clear Dj;go_enter Tryz.func39,Tryz.ntmps39
   go_upto_region 4 with fail
   go_loopw [17] (fun kv wr=>∃(k:Nat),kv=.int .i64 (k:Nat)/\k<=l.length/\(∀i (h:i<l.length),i<k→Kq i l[i]=true)/\wr=W) (fun kv _=>l.length-(intOf kv).toNat)
   case atStart=>exact⟨0,rfl,by omega,by intro i _ h;omega,rfl⟩
   case round=>
    obtain⟨k,rfl,hk,Iz,rfl⟩:=hrel;have Rl:=AqH Iz;clear Iz;by_cases hkn:k<l.length
    ·have hk0:(0:Int)<=(k:Int):=(by omega);have BH:(k:Int)<(l.length:Int):=(by omega);have v1:IntKind.wrap .i64 ((k:Int)+1)=(k:Int)+1:=AqQ _ (by omega);have hg:=HC.out k hkn;rw [←HBW.out]at hg;have hg0:wr.cell? ⟨bw,0+k,none⟩=some (.int .u8 (l[k].toNat:Nat)):=(by rw [Nat.zero_add];exact hg);obtain⟨b,hb⟩:=AqG (l[k]);rw [←hb]at hg hg0;have HB:=AqH hb;clear hb
     go_upto_region 6 with fail
     go_cut [5] (fun v wx=>v=.bool (H7 b)/\wx=wr)
     case first=>
      by_cases a1:97<=b.toNat<;>by_cases a2:b.toNat<=122<;>by_cases a3:65<=b.toNat<;>by_cases a4:b.toNat<=90
      all_goals
       have hv:H7 b=((decide (97<=b.toNat)&&decide (b.toNat<=122))||(decide (65<=b.toNat)&&decide (b.toNat<=90))):=rfl;simp only [a1,a2,a3,a4,decide_true,decide_false,Bool.and_true,Bool.and_false,Bool.or_true,Bool.or_false]at hv;have HV:=AqH hv;clear hv;go_wp2
       all_goals go_meet
       all_goals exact⟨by rw [HV.out];try (first|rfl|(congr 1;rw [Bool.eq_iff_iff];simp;omega)),rfl⟩
     case rest=>
      obtain⟨rfl,rfl⟩:=hcut;obtain⟨lt,hlt⟩:=AqG (H7 b);rw [←hlt];have HLT:=AqH hlt;clear hlt
      go_upto_region 7 with fail
      go_cut [6] (fun v wx=>v=.bool (KY b)/\wx=wc)
      case first=>
       have c95:((b.toNat:Int) == 95)=decide (b.toNat=95):=by rw [Bool.eq_iff_iff,beq_iff_eq,decide_eq_true_iff];omega
       by_cases a1:48<=b.toNat<;>by_cases a2:b.toNat<=57<;>by_cases a3:b.toNat=95
       all_goals
        have hv:KY b=((decide (48<=b.toNat)&&decide (b.toNat<=57))||decide (b.toNat=95)):=rfl;simp only [a1,a2,a3,decide_true,decide_false,Bool.and_true,Bool.and_false,Bool.or_true,Bool.or_false]at hv;have HV:=AqH hv;clear hv;go_wp2
        all_goals go_meet
        all_goals exact⟨by rw [HV.out];try (first|rfl|(congr 1;rw [Bool.eq_iff_iff];simp;omega)),rfl⟩
      case rest=>
       obtain⟨rfl,rfl⟩:=hcut;obtain⟨dt,Lo⟩:=AqG (KY b);rw [←Lo];have HDT:=AqH Lo;clear Lo;have Gl:Kq k b=(lt||(decide (k≠0)&&dt)):=(by rw [HLT.out,HDT.out];rfl);have Ih:=AqH Gl;clear Gl
       have good:Kq k b=true→∀i (h:i<l.length),i<k+1→Kq i l[i]=true:=by
        intro hg i hi hik;by_cases e:i=k
        ·subst e;rw [←HB.out];exact hg
        ·exact Rl.out i hi (by omega)
       have bad:Kq k b=false→r=false:=fun h=>(by rw [HR.out];exact AjX hkn (by rw [←HB.out];exact h));have HG:=AqH good;have nO:=AqH bad;clear good bad
       cases lt
       ·by_cases WG:k=0
        ·subst WG;have hr:r=false:=nO.out (by rw [Ih.out];rfl);have NL:=AqH hr;clear hr;go_wp2;go_ret;exact⟨ND (by rw [NL.out]),HX.out⟩
        ·have t0:((k:Int) == 0)=false:=beq_false_of_ne (by omega)
         cases dt
         ·have hr:r=false:=nO.out (by rw [Ih.out];simp);have NL:=AqH hr;clear hr WG;go_wp2;go_ret;exact⟨ND (by rw [NL.out]),HX.out⟩
         ·have hg2:=AqH (HG.out (by rw [Ih.out];simp [WG]));clear WG;go_wp2;go_roundw
          case rel=>exact⟨k+1,by go_num,hkn,hg2.out,by trivial⟩
          case measure=>simp [intOf];omega
       ·have hg2:=AqH (HG.out (by rw [Ih.out];simp));go_wp2;go_roundw
        case rel=>exact⟨k+1,by go_num,hkn,hg2.out,by trivial⟩
        case measure=>simp [intOf];omega
    ·have Bt:k=l.length:=(by omega);subst Bt;have hr:r=true:=(by rw [HR.out];exact AjY H0.out (by omega) (fun i hi=>Rl.out i hi hi));have NL:=AqH hr;clear hr;go_wp2;go_ret;exact⟨ND (by rw [NL.out]),HX.out⟩
def Dq(e:En):Value:=.agg #[S e.u,S e.s,.int .i64 e.p,S e.t]
def AQ(l:List En):List Value:=l.flatMap (fun e=>[S e.u,S e.s,.int .i64 e.p,S e.t])
theorem aN(l:List En):(AQ l).length=l.length*4:=by
 induction l with
 | nil=>rfl
 | cons e l ih=>unfold AQ at *;simp only [List.flatMap_cons,List.length_append,ih,List.length_cons,List.length_nil];omega
theorem uP:∀(l:List En) (j:Nat) (h:j<l.length),(AQ l)[j*4]?=some (S l[j].u)/\(AQ l)[j*4+1]?=some (S l[j].s)/\(AQ l)[j*4+2]?=some (.int .i64 l[j].p)/\(AQ l)[j*4+3]?=some (S l[j].t)
 | e::l,0,_=>⟨rfl,rfl,rfl,rfl⟩
 | e::l,j+1,h=>by
  have ih:=uP l j (by simpa using h);have e0:AQ (e::l)=S e.u::S e.s :: .int .i64 e.p::S e.t::AQ l:=rfl;rw [e0];have e1:(j+1)*4=j*4+1+1+1+1:=(by omega);rw [e1]
  simpa using ih
theorem LV{w:World}{A:Option Addr}{l:List En}(hr:Ad w A (AQ l)){j:Nat}(h:j<l.length):∃b o,A=some ⟨b,o,none⟩/\w.cell? ⟨b,o+j*4,none⟩=some (S l[j].u)/\w.cell? ⟨b,o+j*4+1,none⟩=some (S l[j].s)/\w.cell? ⟨b,o+j*4+2,none⟩=some (.int .i64 l[j].p)/\w.cell? ⟨b,o+j*4+3,none⟩=some (S l[j].t):=by
 have hl:=aN l;obtain⟨b,o,e,hcs⟩:=hr.ad (by omega);obtain⟨f0,f1,f2,f3⟩:=uP l j h;have g0:=hcs (j*4) (by omega);have g1:=hcs (j*4+1) (by omega);have g2:=hcs (j*4+2) (by omega);have g3:=hcs (j*4+3) (by omega);rw [AqP (by omega),AqO]at f0 f1 f2 f3;rw [f0]at g0;rw [f1,←Nat.add_assoc]at g1;rw [f2,←Nat.add_assoc]at g2;rw [f3,←Nat.add_assoc]at g3;exact⟨b,o,e,g0,g1,g2,g3⟩
def FN(e:La):Value:=.agg #[S e.u,S e.mn,S e.mx]
def Bo(l:List La):List Value:=l.flatMap (fun e=>[S e.u,S e.mn,S e.mx])
theorem AiT(l:List La):(Bo l).length=l.length*3:=by
 induction l with
 | nil=>rfl
 | cons e l ih=>unfold Bo at *;simp only [List.flatMap_cons,List.length_append,ih,List.length_cons,List.length_nil];omega
theorem mj:∀(l:List La) (j:Nat) (h:j<l.length),(Bo l)[j*3]?=some (S l[j].u)/\(Bo l)[j*3+1]?=some (S l[j].mn)/\(Bo l)[j*3+2]?=some (S l[j].mx)
 | e::l,0,_=>⟨rfl,rfl,rfl⟩
 | e::l,j+1,h=>by
  have ih:=mj l j (by simpa using h);have e0:Bo (e::l)=S e.u::S e.mn::S e.mx::Bo l:=rfl;rw [e0];have e1:(j+1)*3=j*3+1+1+1:=(by omega);rw [e1]
  simpa using ih
theorem lO{w:World}{A:Option Addr}{l:List La}(hr:Ad w A (Bo l)){j:Nat}(h:j<l.length):∃b o,A=some ⟨b,o,none⟩/\w.cell? ⟨b,o+j*3,none⟩=some (S l[j].u)/\w.cell? ⟨b,o+j*3+1,none⟩=some (S l[j].mn)/\w.cell? ⟨b,o+j*3+2,none⟩=some (S l[j].mx):=by
 have hl:=AiT l;obtain⟨b,o,e,hcs⟩:=hr.ad (by omega);obtain⟨f0,f1,f2⟩:=mj l j h;have g0:=hcs (j*3) (by omega);have g1:=hcs (j*3+1) (by omega);have g2:=hcs (j*3+2) (by omega);rw [AqP (by omega),AqO]at f0 f1 f2;rw [f0]at g0;rw [f1,←Nat.add_assoc]at g1;rw [f2,←Nat.add_assoc]at g2;exact⟨b,o,e,g0,g1,g2⟩
theorem kq{g:FuncId}{cb:Array Value}(eg:∀args w,(callFunc g args).run Tryz.prog w=.ok (.enter g args) w)(p:En→Bool)(l:List En)(A:Option Addr)(c:Nat)(w:World)(hr:Ad w A (AQ l))(hc:l.length<=c)(hcm:c<=9223372036854775807)
  (hp:∀e∈l,∀W,Aa w W→Calls Tryz.prog g (#[Dq e]++cb) W (Bv (p e) W)) :
  Calls Tryz.prog 50 #[.slice A l.length c,.func (.func g) #[] cb] w (Ax (C5 p l) w):=by
 obtain⟨r,hr0⟩:=AqG (C5 p l);rw [←hr0];have HR:=AqH hr0;have HP:=AqH hp;clear hr0 hp;go_enter Tryz.func50,Tryz.ntmps50;go_wp2
 go_loopw [8] (fun i wr=>∃j:Nat,i=.int .i64 (j:Nat)/\j<=l.length/\(∀q∈l.take j,p q=false)/\Aa w wr) (fun i _=>l.length-(intOf i).toNat)
 case atStart=>exact⟨0,rfl,by omega,by simp,Aa.refl _⟩
 case round=>
  obtain⟨j,rfl,hj,Aj,Ac⟩:=hrel;have HO:=AqH Aj;clear Aj;by_cases hlt:j<l.length
  ·obtain⟨b,o,rfl,hg1,hg2,hg3,hg4⟩:=LV (hr.ext Ac) hlt;obtain⟨q,hq⟩:=AqG (l[j]);have bf:=HP.out l[j] (AqL hlt) wr Ac;rw [←hq]at hg1 hg2 hg3 hg4 bf;unfold Dq at bf;have hj0:(0:Int)<=(j:Int):=(by omega);have AV:(j:Int)<(l.length:Int):=(by omega);have HQ:=AqH hq;clear hq
   cases e0:p q
   ·have HE:=AqH e0;rw [e0]at bf;clear e0;(go_wp2_with fail);(with_reducible refine bf.mono ?_);rintro e w2 ⟨rfl,hx2⟩;go_wp2;go_roundw
    case rel=>
     refine⟨j+1,by go_num,hlt,?_,Ac.trans hx2⟩;intro x hx;rw [AqN hlt,←HQ.out]at hx
     rcases List.mem_append.1 hx with h|h
     ·exact HO.out x h
     ·simp only [AqW]at h;rw [h];exact HE.out
    case measure=>simp [intOf];omega
   ·have Er:r=(j:Int):=(by rw [HR.out];exact jA hlt HO.out (by rw [←HQ.out];exact e0));rw [e0]at bf;clear e0;subst Er;(go_wp2_with fail);(with_reducible refine bf.mono ?_);rintro e w2 ⟨rfl,hx2⟩;go_wp2;go_ret;exact⟨rfl,Ac.trans hx2⟩
  ·have hle:(l.length:Int)<=(j:Int):=(by omega);have Er:r = -1:=(by rw [HR.out];exact TJ (by have:=HO.out;rw [AqS (by omega)]at this;exact this));subst Er;go_wp2;go_ret;exact⟨rfl,Ac⟩
theorem qO{g:FuncId}{cb:Array Value}(eg:∀args w,(callFunc g args).run Tryz.prog w=.ok (.enter g args) w)(p:En→Bool)(l:List En)(A:Option Addr)(c:Nat)(w:World)(hr:Ad w A (AQ l))(hc:l.length<=c)(hcm:c<=9223372036854775807)
  (hp:∀e∈l,∀W,Aa w W→Calls Tryz.prog g (#[Dq e]++cb) W (Bv (p e) W)) :
  Calls Tryz.prog 47 #[.slice A l.length c,.func (.func g) #[] cb] w (Bv (l.any p) w):=by
 have ix:=kq eg p l A c w hr hc hcm hp;have ha:=iZ p l;obtain⟨r,hr0⟩:=AqG (l.any p);rw [←hr0]at ha ⊢;generalize C5 p l=z at *;clear hr hr0 hp eg;go_enter Tryz.func47,Tryz.ntmps47;(go_wp2_with fail);(with_reducible refine ix.mono ?_);rintro e w1 ⟨rfl,hx⟩;go_wp2;go_ret;exact⟨by rw [←ha];rfl,hx⟩
theorem Afi(x:En)(u:Bs)(b:Nat)(w:World)(hb:w.cell? ⟨b,0,none⟩=some (S u)) :
  Calls Tryz.prog 115 #[Dq x,.pointer (some ⟨b,0,none⟩)] w (Bv (x.u == u) w):=by
 have hx:=(Aa.refl w).alloc (.cells #[S x.u,S x.s,.int .i64 x.p,S x.t] 40);have j1:=hx.cellS hb;unfold Dq;clear hb;go_enter Tryz.func115,Tryz.ntmps115;go_wp2;go_ret;exact⟨rfl,hx⟩
theorem AeL:∀args w,(callFunc 115 args).run Tryz.prog w=.ok (.enter 115 args) w:=enters_of Tryz.func115 (by kernel_rfl) rfl
theorem Afj(l:List En)(u:Bs)(A:Option Addr)(c:Nat)(w:World)(hr:Ad w A (AQ l))(hc:l.length<=c)(hcm:c<=9223372036854775807) :
  Calls Tryz.prog 49 #[.slice A l.length c,S u] w (Ax (MC l u) w):=by
 have hb:=AqJ w (.cells #[S u] 9);have hE:=(Aa.refl w).alloc (.cells #[S u] 9)
 have ix:=kq (cb:=#[.pointer (some ⟨w.heap.size,0,none⟩)]) AeL (fun e=>e.u == u) l A c (w.alloc (.cells #[S u] 9)) (hr.ext hE) hc hcm
  (fun e _ W hx=>Afi e u _ W (Ab (o:=0) ((hx.block _ (AqI hb)).trans hb) rfl))
 unfold MC;clear hr hb;go_enter Tryz.func49,Tryz.ntmps49;(go_wp2_with fail);(with_reducible refine ix.mono ?_);rintro e w1 ⟨rfl,hx⟩;go_wp2;go_ret;exact⟨rfl,hE.trans hx⟩
theorem AeD(l:List En)(i:Nat):AQ (l.take i)=(AQ l).take (i*4):=by
 induction l generalizing i with
 | nil=>simp [AQ]
 | cons e l ih=>
  cases i with
  | zero=>simp [AQ]
  | succ i=>have e0:∀l,AQ (e::l)=S e.u::S e.s :: .int .i64 e.p::S e.t::AQ l:=fun _=>rfl;rw [List.take_succ_cons,e0,e0,ih];have e1:(i+1)*4=i*4+1+1+1+1:=(by omega);rw [e1];simp
theorem AeT(y x:En)(b:Nat)(w:World)(hb:w.heap[b]?=some (.cells #[S x.u,S x.s,.int .i64 x.p,S x.t] 40)) :
  Calls Tryz.prog 114 #[Dq y,.pointer (some ⟨b,0,none⟩)] w (Bv (y.s == x.s) w):=by
 have hx:=(Aa.refl w).alloc (.cells #[S y.u,S y.s,.int .i64 y.p,S y.t] 40);have j1:=hx.cellS (Ab (o:=1) hb rfl);unfold Dq;clear hb;go_enter Tryz.func114,Tryz.ntmps114;go_wp2;go_ret;exact⟨rfl,hx⟩
theorem AeK:∀args w,(callFunc 114 args).run Tryz.prog w=.ok (.enter 114 args) w:=enters_of Tryz.func114 (by kernel_rfl) rfl
def LK(e:En):Prop:=e.u.length<1000000/\e.s.length<1000000/\e.t.length<1000000
theorem AeU(l:List En)(x:En)(A:Option Addr)(c:Nat)(w:World)(hr:Ad w A (AQ l))(hc:l.length<=c)(hcm:c<=9223372036854775807)(hl:LK x) :
  Calls Tryz.prog 45 #[.slice A l.length c,Dq x] w (Ax (CG l x) w):=by
 obtain⟨hu,hs,ht⟩:=hl;have hB:=AqJ w (.cells #[S x.u,S x.s,.int .i64 x.p,S x.t] 40);have hE:=(Aa.refl w).alloc (.cells #[S x.u,S x.s,.int .i64 x.p,S x.t] 40);have nm:=jC x.u hu;have o1:∀W,Calls Tryz.prog 113 #[S x.s,.int .u8 33] W (Bv (x.s.any (CQ 33)) W):=fun W=>rh x.s hs 33 W;have o2:∀W,Calls Tryz.prog 113 #[S x.t,.int .u8 32] W (Bv (x.t.any (CQ 32)) W):=fun W=>rh x.t ht 32 W;have Ev:=AqH (hr.ext hE);obtain⟨r,hr0⟩:=AqG (CG l x);rw [←hr0];have HR:=AqH hr0;unfold Dq;clear hr hr0;go_enter Tryz.func45,Tryz.ntmps45
 go_upto_region 1 with fail
 generalize w.alloc (.cells #[S x.u,S x.s,.int .i64 x.p,S x.t] 40)=V at *;obtain⟨b,hb⟩:=AqG w.heap.size;rw [←hb]at hB ⊢;clear hb;have k1:=Ab (o:=0) hB rfl
 cases h1:nameB x.u
 ·rw [h1]at nm;have HH:=AqH (show r=8 by rw [HR.out];unfold CG;rw [if_pos h1]);clear h1 o1 o2;(go_wp2_with fail);(with_reducible refine(nm V).mono ?_);rintro e w1 ⟨rfl,hx1⟩;go_wp2;go_ret;exact⟨Bf HH.out,hE.trans hx1⟩
 rw [h1]at nm;have H1:=AqH (show ¬(nameB x.u=false)by rw [h1];simp);clear h1;(go_wp2_with fail);(with_reducible refine(nm V).mono ?_);rintro e w1 ⟨rfl,hx1⟩;have hB1:=(hx1.block _ (AqI hB)).trans hB;have X1:=hE.trans hx1;have k2:=Ab (o:=0) hB1 rfl;have fd:=Afj l x.u A c w1 (Ev.out.ext hx1) hc hcm;have UI:=AqH hx1;clear nm k1 hB hx1;by_cases h2:0<=MC l x.u
 ·have HH:=AqH (show r=9 by rw [HR.out];unfold CG;rw [if_neg H1.out,if_pos h2]);generalize MC l x.u=z at *;clear o1 o2;(go_wp2_with fail);(with_reducible refine fd.mono ?_);rintro e w2 ⟨rfl,hx2⟩;go_wp2;go_ret;exact⟨Bf HH.out,X1.trans hx2⟩
 have H2:=AqH (Int.not_le.1 h2);have h2':=Int.not_le.1 h2;clear h2;have Rp:=AqH (Eq.refl (MC l x.u));obtain⟨z,hz⟩:=AqG (MC l x.u);rw [←hz]at fd h2';clear hz;(go_wp2_with fail);(with_reducible refine fd.mono ?_);rintro e w2 ⟨rfl,hx2⟩;have hB2:=(hx2.block _ (AqI hB1)).trans hB1;have X2:=X1.trans hx2;have JG:=AqH (UI.out.trans hx2);have k3:=Ab (o:=1) hB2 rfl;have k4:=Ab (o:=2) hB2 rfl;have k5:=Ab (o:=3) hB2 rfl;clear fd k2 hB1 hx2 Rp;by_cases h3:x.s.length=1
 rotate_left
 ·have HH:=AqH (show r=7 by rw [HR.out];unfold CG;rw [if_neg H1.out,if_neg (Int.not_le.2 H2.out),if_pos h3]);have t1:((x.s.length:Int) != 1)=true:=(by rw [bne_iff_ne];omega);clear o1 o2;go_wp2;go_ret;exact⟨Bf HH.out,X2⟩
 have H3:=AqH (show ¬(x.s.length≠1)from fun h=>h h3);have t1:((x.s.length:Int) != 1)=false:=(by rw [bne_eq_false_iff_eq];omega);have TU:=o1 w2;clear h3 o1
 cases h4:x.s.any (CQ 33)
 rotate_left
 ·have HH:=AqH (show r=7 by rw [HR.out];unfold CG;rw [if_neg H1.out,if_neg (Int.not_le.2 H2.out),if_neg H3.out,if_pos h4]);rw [h4]at TU;clear o2 h4;(go_wp2_with fail);(with_reducible refine TU.mono ?_);rintro e w3 ⟨rfl,hx3⟩;go_wp2;go_ret;exact⟨Bf HH.out,X2.trans hx3⟩
 have H4:=AqH (show ¬(x.s.any (CQ 33)=true)by rw [h4];simp);rw [h4]at TU;clear h4;(go_wp2_with fail);(with_reducible refine TU.mono ?_);rintro e w3 ⟨rfl,hx3⟩;have B5:=(hx3.block _ (AqI hB2)).trans hB2;have X3:=X2.trans hx3
 have an:=qO (cb:=#[.pointer (some ⟨b,0,none⟩)]) AeK (fun y=>y.s == x.s) l A c w3 (Ev.out.ext (JG.out.trans hx3)) hc hcm
  (fun y _ W hx=>AeT y x b W ((hx.block _ (AqI B5)).trans B5))
 have hlt3:=AqI B5;have U6:=AqH B5;clear k3 k4 k5 hB2 TU t1 hx3 B5 hlt3
 cases h5:l.any (fun y=>y.s == x.s)
 rotate_left
 ·have HH:=AqH (show r=9 by rw [HR.out];unfold CG;rw [if_neg H1.out,if_neg (Int.not_le.2 H2.out),if_neg H3.out,if_neg H4.out,if_pos h5]);rw [h5]at an;clear o2 h5;(go_wp2_with fail);(with_reducible refine an.mono ?_);rintro e w4 ⟨rfl,Ai⟩;go_wp2;go_ret;exact⟨Bf HH.out,X3.trans Ai⟩
 have H5:=AqH (show ¬(l.any (fun y=>y.s == x.s)=true)by rw [h5];simp);rw [h5]at an;clear h5;(go_wp2_with fail);(with_reducible refine an.mono ?_);rintro e w4 ⟨rfl,Ai⟩;have Fb:=(Ai.block _ (AqI U6.out)).trans U6.out;have X4:=X3.trans Ai;have k4:=Ab (o:=2) Fb rfl;have k5:=Ab (o:=3) Fb rfl;have OM:=o2 w4;clear an Fb Ai o2;by_cases h6:x.p<1
 ·have HH:=AqH (show r=12 by rw [HR.out];unfold CG;rw [if_neg H1.out,if_neg (Int.not_le.2 H2.out),if_neg H3.out,if_neg H4.out,if_neg H5.out,if_pos h6]);clear OM;go_wp2;go_ret;exact⟨Bf HH.out,X4⟩
 by_cases h7:5<x.p
 ·have HH:=AqH (show r=12 by rw [HR.out];unfold CG;rw [if_neg H1.out,if_neg (Int.not_le.2 H2.out),if_neg H3.out,if_neg H4.out,if_neg H5.out,if_neg h6,if_pos h7]);clear OM;go_wp2;go_ret;exact⟨Bf HH.out,X4⟩
 by_cases h8:80<x.t.length
 ·have HH:=AqH (show r=16 by rw [HR.out];unfold CG;rw [if_neg H1.out,if_neg (Int.not_le.2 H2.out),if_neg H3.out,if_neg H4.out,if_neg H5.out,if_neg h6,if_neg h7,if_pos h8]);have t2:(80:Int)<(x.t.length:Int):=(by omega);clear OM;go_wp2;go_ret;exact⟨Bf HH.out,X4⟩
 have t2:¬(80:Int)<(x.t.length:Int):=by omega
 cases h9:x.t.any (CQ 32)
 rotate_left
 ·have HH:=AqH (show r=15 by rw [HR.out];unfold CG;rw [if_neg H1.out,if_neg (Int.not_le.2 H2.out),if_neg H3.out,if_neg H4.out,if_neg H5.out,if_neg h6,if_neg h7,if_neg h8,if_pos h9]);rw [h9]at OM;clear h9;(go_wp2_with fail);(with_reducible refine OM.mono ?_);rintro e w5 ⟨rfl,Ae⟩;go_wp2;go_ret;exact⟨Bf HH.out,X4.trans Ae⟩
 have HH:=AqH (show r=0 by rw [HR.out];unfold CG;rw [if_neg H1.out,if_neg (Int.not_le.2 H2.out),if_neg H3.out,if_neg H4.out,if_neg H5.out,if_neg h6,if_neg h7,if_neg h8,if_neg (by rw [h9];simp)]);rw [h9]at OM;clear h9;(go_wp2_with fail);(with_reducible refine OM.mono ?_);rintro e w5 ⟨rfl,Ae⟩;go_wp2;go_ret;exact⟨Bf HH.out,X4.trans Ae⟩
theorem sH(l:List En)(A:Option Addr)(c:Nat)(w:World)(hr:Ad w A (AQ l))(hc:l.length<=c)(hcm:c<=9223372036854775807)(hl:∀e∈l,LK e) :
  Calls Tryz.prog 12 #[.slice A l.length c] w (Ax (DV l) w):=by
 have HL:=AqH hl;have Ev:=AqH hr;obtain⟨r,hr0⟩:=AqG (DV l);rw [←hr0];have HR:=AqH hr0;clear hl hr hr0;by_cases FI:20<l.length
 ·have HH:=AqH (show r=4 by rw [HR.out];unfold DV;rw [if_pos FI]);have t2:(20:Int)<(l.length:Int):=(by omega);go_enter Tryz.func12,Tryz.ntmps12;go_wp2;go_ret;exact⟨Bf HH.out,Aa.refl _⟩
 ·have HC:=AqH (show r=IY [] l by rw [HR.out];unfold DV;rw [if_neg FI]);have t2:¬(20:Int)<(l.length:Int):=(by omega);obtain⟨n,hn⟩:=AqG l.length;rw [←hn]at hc FI t2 ⊢;have HN:=AqH hn;clear hn HR;go_enter Tryz.func12,Tryz.ntmps12
  go_upto_region 4 with fail
  go_loopw [11] (fun kv wr=>∃(k:Nat),kv=.int .i64 (k:Nat)/\k<=n/\r=IY (l.take k) (l.drop k)/\Aa w wr) (fun kv _=>n-(intOf kv).toNat)
  case atStart=>exact⟨0,rfl,by omega,by rw [List.take_zero,List.drop_zero];exact HC.out,Aa.refl _⟩
  case round=>
   obtain⟨k,rfl,hk,hck,Ac⟩:=hrel;have GY:=AqH hck;clear hck;by_cases hkn:k<n
   ·have Cz:k<l.length:=(by rw [←HN.out];exact hkn);obtain⟨b,o,rfl,hg1,hg2,hg3,hg4⟩:=LV (Ev.out.ext Ac) Cz;have hst:=Ad2 Cz rfl;rw [←GY.out]at hst;have hlen:=HL.out l[k] (AqL Cz);obtain⟨x,hx⟩:=AqG (l[k]);rw [←hx]at hg1 hg2 hg3 hg4 hst hlen;have HST:=AqH hst;have Fq:(l.take k).length=k:=(by rw [List.length_take];omega);have hk0:(0:Int)<=(k:Int):=(by omega);have BH:(k:Int)<(n:Int):=(by omega);have hk2:(k:Int)<=(c:Int):=(by omega);have v1:IntKind.wrap .i64 ((k:Int)+1)=(k:Int)+1:=AqQ _ (by omega);have hxb:=AqJ wr (.cells #[S x.u,S x.s,.int .i64 x.p,S x.t] 40);have hx1:=(Aa.refl wr).alloc (.cells #[S x.u,S x.s,.int .i64 x.p,S x.t] 40);have hE:=Ac.trans hx1;have ck:=fun q:Af (wr.alloc (.cells #[S x.u,S x.s,.int .i64 x.p,S x.t] 40))=>AeU (l.take k) x (some ⟨b,o,none⟩) c q.w (by rw [AeD];exact((Ev.out.ext hE).ext q.h).take _) (by omega) hcm hlen;rw [Fq]at ck;unfold Dq at ck;clear hx hst Fq hlen Ac
    go_upto_region 6 with fail
    generalize wr.alloc (.cells #[S x.u,S x.s,.int .i64 x.p,S x.t] 40)=V at *;obtain⟨bx,AA⟩:=AqG wr.heap.size;rw [←AA]at hxb ⊢;clear AA hg1 hg2 hg3 hg4;have f1:∀q:Af V,q.w.cell? ⟨bx,0,none⟩=some (S x.u):=Af.cell (Ab hxb rfl);have f2:∀q:Af V,q.w.cell? ⟨bx,1,none⟩=some (S x.s):=Af.cell (Ab hxb rfl);have f3:∀q:Af V,q.w.cell? ⟨bx,2,none⟩=some (.int .i64 x.p):=Af.cell (Ab hxb rfl);have f4:∀q:Af V,q.w.cell? ⟨bx,3,none⟩=some (S x.t):=Af.cell (Ab hxb rfl);obtain⟨z,hz⟩:=AqG (CG (l.take k) x);rw [←hz]at ck;have HZ:=AqH hz;clear hz hxb;refine F5 (by kernel_rfl) (by kernel_rfl) ?_
    repeat (go_big_quiet_step (with_reducible refine Ei (ck _)))
    refine wpQuiet_nil ?_;rintro _ ⟨q,rfl⟩;have HQ:=AqH (hE.trans q.h);clear f1 f2 f3 f4 ck;by_cases hz0:z=0
    ·have HH:=AqH (show r=IY (l.take (k+1)) (l.drop (k+1))by rw [HST.out,if_pos (by rw [←HZ.out];exact hz0)]);subst hz0;go_wp2;go_roundw
     case rel=>exact⟨k+1,by go_num,hkn,HH.out,HQ.out⟩
     case measure=>simp [intOf];omega
    ·have HH:=AqH (show r=z by rw [HST.out,if_neg (by rw [←HZ.out];exact hz0),HZ.out]);have t1:(z != 0)=true:=(by rw [bne_iff_ne];exact hz0);clear hz0;go_wp2;go_ret;exact⟨Bf HH.out,HQ.out⟩
   ·have Bt:k=n:=(by omega);subst Bt;have HH:=AqH (show r=0 by rw [GY.out,HN.out,List.drop_length];rfl);go_wp2;go_ret;exact⟨Bf HH.out,Ac⟩
end Go.Proofs.YtjalkoacphhgdaaGreatDoor
