/- J22: N1 N2 Q6 Q7 Q7X KA1 KJ1. -/
import Derived.Test.YtnddllipjippnaaGreatDoorJ21
set_option maxRecDepth 100000
set_option maxHeartbeats 4000000
namespace Go.Proofs.YtnddllipjippnaaGreatDoor
open Go.RowKit Kl
theorem K3(a b:Rat):a<b∨a=b∨b<a:=by grind
theorem NI{a b:Rat}(h:a<=b):a<b∨a=b:=by grind
def Up(x y:Rat):Prop:=0<y∨(y=0/\0<x)
theorem Ajn{a b:Rat}(ha:0<a)(h:0<a*b):0<b:=by
 rcases K3 b 0 with hb|hb|hb
 ·have:=Rat.mul_pos ha (show 0 < -b by grind)
  grind
 ·subst hb;grind
 ·exact hb
theorem Uv{a b:Rat}(ha:0<a)(h:0<=a*b):0<=b:=by
 rcases K3 b 0 with hb|hb|hb
 ·have:=Rat.mul_pos ha (show 0 < -b by grind)
  grind
 ·grind
 ·grind
theorem ZL{ux uy vx vy wx wy:Rat}(hu:Up ux uy)(hv:Up vx vy)(hw:Up wx wy)(h1:0<ux*vy-uy*vx)(h2:0<vx*wy-vy*wx):0<ux*wy-uy*wx:=by
 have Q4:0<=uy:=(by unfold Up at hu;grind);have Ue:0<=wy:=by unfold Up at hw;grind
 rcases hv with hv|⟨hv,hv'⟩
 ·have e:vy*(ux*wy-uy*wx)=wy*(ux*vy-uy*vx)+uy*(vx*wy-vy*wx):=(by grind);refine Ajn hv ?_;rw [e];have a1:=Rat.mul_nonneg Ue (Rat.le_of_lt h1);have a2:=Rat.mul_nonneg Q4 (Rat.le_of_lt h2)
  rcases NI Ue with hw1|hw1
  ·have:=Rat.mul_pos hw1 h1;grind
  ·rcases NI Q4 with hu1|hu1
   ·have:=Rat.mul_pos hu1 h2;grind
   ·exfalso
    have hwx:0<wx:=(by unfold Up at hw;grind);have:=Rat.mul_pos hv hwx;subst hw1;subst hu1;clear a1 a2 e
    grind
 ·exfalso
  have:=Rat.mul_nonneg Q4 (Rat.le_of_lt hv');subst hv
  grind
theorem rU{ux uy vx vy wx wy:Rat}(hu:Up ux uy)(hv:Up vx vy)(hw:Up wx wy)(h1:ux*vy-uy*vx<=0)(h2:vx*wy-vy*wx<=0):ux*wy-uy*wx<=0:=by
 have Q4:0<=uy:=(by unfold Up at hu;grind);have Ue:0<=wy:=by unfold Up at hw;grind
 rcases hv with hv|⟨hv,hv'⟩
 ·have e:vy*(-(ux*wy-uy*wx))=wy*(-(ux*vy-uy*vx))+uy*(-(vx*wy-vy*wx)):=by grind
  have:0<=-(ux*wy-uy*wx):=by
   refine Uv hv ?_;rw [e];have a1:=Rat.mul_nonneg Ue (show 0<=-(ux*vy-uy*vx)by grind);have a2:=Rat.mul_nonneg Q4 (show 0<=-(vx*wy-vy*wx)by grind)
   grind
  grind
 ·subst hv
  have Ag3:wy=0:=by
   rcases NI Ue with hw1|hw1
   ·have:=Rat.mul_pos hv' hw1;grind
   ·exact hw1.symm
  have hwx:0<wx:=(by unfold Up at hw;grind);have:=Rat.mul_nonneg Q4 (Rat.le_of_lt hwx);subst Ag3
  grind
/-! ### Directions around a place -/
theorem Sk(p q:Rat):Bo p q<0↔p<q:=by unfold Bo;grind
theorem VH(p q:Rat):Bo p q=0↔p=q:=by unfold Bo;grind
theorem Sl(p q:Rat):0<Bo p q↔q<p:=by unfold Bo;grind
theorem sw(q:Rat):AZ q=0↔q=0:=by unfold AZ;grind
theorem Yu(q:Rat):0<AZ q↔0<q:=by unfold AZ;grind
theorem LU(p q:Pt):Cb p q=0↔Up (q.x-p.x) (q.y-p.y):=by
 unfold Cb J6 Up;simp only [Sl,VH];constructor
 ·intro h;by_cases h1:p.y<q.y
  ·left;grind
  ·rw [if_neg h1]at h;by_cases h2:q.y=p.y
   ·rw [if_pos h2]at h;by_cases h3:p.x<q.x
    ·right;grind
    ·rw [if_neg h3]at h;cases h
   ·rw [if_neg h2]at h;cases h
 ·rintro(h|⟨h1,h2⟩)
  ·rw [if_pos (by grind)]
  ·rw [if_neg (by grind),if_pos (by grind),if_pos (by grind)]
theorem Uq(p q:Pt):Cb p q=0∨Cb p q=1:=by
 unfold Cb J6
 (repeat' split)<;>simp
theorem N7{p q:Pt}(hne:q≠p)(h:Cb p q=1):Up (p.x-q.x) (p.y-q.y):=by
 have h0:¬Up (q.x-p.x) (q.y-p.y):=(by rw [←LU];omega);unfold Up at *;by_cases h1:q.y=p.y
 ·right
  refine⟨by grind,?_⟩;have:q.x≠p.x:=fun e=>hne (by cases p;cases q;simp_all)
  grind
 ·left;grind
def D3(p a b:Pt):Int:=if Cb p a-Cb p b≠0 then Cb p a-Cb p b else -AZ (Ar p a b)
theorem sN(p a b:Pt):D3 p a b<0↔Cb p a<Cb p b∨(Cb p a=Cb p b/\0<Ar p a b):=by
 unfold D3;have hs:=Yu (Ar p a b)
 split
 ·constructor
  ·intro h;left;omega
  ·rintro(h|⟨h,_⟩)<;>omega
 ·constructor
  ·intro h;exact .inr ⟨by omega,hs.1 (by omega)⟩
  ·rintro(h|⟨_,h⟩)
   ·omega
   ·have:=hs.2 h;omega
theorem sO(p a b:Pt):D3 p a b=0↔Cb p a=Cb p b/\Ar p a b=0:=by
 unfold D3;have hs:=sw (Ar p a b)
 split
 ·constructor
  ·intro h;omega
  ·rintro⟨h,_⟩;omega
 ·constructor
  ·intro h;exact⟨by omega,hs.1 (by omega)⟩
  ·rintro⟨_,h⟩;have:=hs.2 h;omega
theorem AbI(p a:Pt):Ar p a a=0:=by unfold Ar;grind
theorem Z1(p a b:Pt):Ar p b a =-Ar p a b:=by unfold Ar;grind
theorem Z3(p a b:Pt):Ar p a b=(p.x-a.x)*(p.y-b.y)-(p.y-a.y)*(p.x-b.x):=by unfold Ar;grind
theorem Adl{p a b c:Pt}(ha:a≠p)(hb:b≠p)(hc:c≠p)(h1:D3 p a b<0)(h2:D3 p b c<0):D3 p a c<0:=by
 rw [sN]at *
 rcases h1 with h1|⟨e1,h1⟩
 ·left
  rcases h2 with h2|⟨e2,h2⟩<;>omega
 ·rcases h2 with h2|⟨e2,h2⟩
  ·left;omega
  ·right
   refine⟨by omega,?_⟩
   rcases Uq p a with ea|ea
   ·unfold Ar at *;exact ZL ((LU p a).1 ea) ((LU p b).1 (by omega)) ((LU p c).1 (by omega)) h1 h2
   ·rw [Z3]at *;exact ZL (N7 ha ea) (N7 hb (by omega)) (N7 hc (by omega)) h1 h2
theorem Adj{p a b c:Pt}(ha:a≠p)(hb:b≠p)(hc:c≠p)(h1:¬D3 p a b<0)(h2:¬D3 p b c<0):¬D3 p a c<0:=by
 rw [sN]at *;rintro(h|⟨e,h⟩)
 ·have:¬Cb p a<Cb p b:=fun h=>h1 (.inl h);have:¬Cb p b<Cb p c:=fun h=>h2 (.inl h);omega
 ·have e1:¬Cb p a<Cb p b:=fun h=>h1 (.inl h);have e2:¬Cb p b<Cb p c:=fun h=>h2 (.inl h);have f1:Cb p a=Cb p b:=(by omega);have f2:Cb p b=Cb p c:=by omega
  have g1:Ar p a b<=0:=by
   have:¬0<Ar p a b:=fun h=>h1 (.inr ⟨f1,h⟩)
   grind
  have g2:Ar p b c<=0:=by
   have:¬0<Ar p b c:=fun h=>h2 (.inr ⟨f2,h⟩)
   grind
  have:Ar p a c<=0:=by
   rcases Uq p a with ea|ea
   ·unfold Ar at *;exact rU ((LU p a).1 ea) ((LU p b).1 (by omega)) ((LU p c).1 (by omega)) g1 g2
   ·rw [Z3]at *;exact rU (N7 ha ea) (N7 hb (by omega)) (N7 hc (by omega)) g1 g2
  grind
/-! ### Segments without a common place but an end of both -/
def Fu(a b z:Pt):Prop:=∃t:Rat,0<=t/\t<=1/\z.x=a.x+t*(b.x-a.x)/\z.y=a.y+t*(b.y-a.y)
theorem Fu.swap{a b z:Pt}(h:Fu a b z):Fu b a z:=by
 obtain⟨t,h0,h1,hx,hy⟩:=h;exact⟨1-t,by grind,by grind,by grind,by grind⟩
theorem Un(a b:Pt):Bq a b<=0↔a.x<b.x∨(a.x=b.x/\a.y<=b.y):=by
 unfold Bq;have h1:=VH a.x b.x;have h2:=Sk a.x b.x;have h3:=Sk a.y b.y;have h4:=Sl a.x b.x;have h5:=Sl a.y b.y
 split
 ·constructor
  ·intro h
   left
   exact h2.1 (by omega)
  ·rintro(h|⟨h,_⟩)
   ·have:=h2.2 h;omega
   ·exact absurd (h1.2 h) (by assumption)
 ·have e:a.x=b.x:=h1.1 (by omega);constructor
  ·intro h
   right
   refine⟨e,?_⟩;have:¬b.y<a.y:=fun h6=>by have:=h5.2 h6;omega
   grind
  ·rintro(h|⟨_,h⟩)
   ·grind
   ·have:¬0<Bo a.y b.y:=fun h6=>(by have:=h5.1 h6;grind);omega
theorem Ah5(a b:Pt):0<Bq a b↔b.x<a.x∨(a.x=b.x/\b.y<a.y):=by
 have:=Un a b;constructor
 ·intro h;have h1:¬(a.x<b.x∨(a.x=b.x/\a.y<=b.y)):=fun h2=>by have:=this.2 h2;omega
  grind
 ·intro h;have h1:¬Bq a b<=0:=fun h2=>(by have:=this.1 h2;grind);omega
theorem XI{t d:Rat}(h0:0<=t)(h1:t<=1)(hd:0<=d):0<=t*d/\t*d<=d:=by
 have a:=Rat.mul_nonneg h0 hd;have b:=Rat.mul_nonneg (show 0<=1-t by grind) hd;exact⟨a,by grind⟩
theorem Me{a b:Rat}(h:a*b=0):a=0∨b=0:=Rat.mul_eq_zero.1 h
theorem nl{a b z:Pt}(hz:Fu a b z)(hl:Bq a b<=0):ND a b z=true:=by
 obtain⟨t,h0,h1,hx,hy⟩:=hz;rw [Un]at hl;have ea:Ar a b z=0:=by unfold Ar;rw [hx,hy];grind
 have l1:Bq a z<=0:=by
  rw [Un]
  rcases hl with hl|⟨hl,hl2⟩
  ·have:=XI h0 h1 (show 0<=b.x-a.x by grind)
   rcases NI this.1 with h|h
   ·left;grind
   ·right
    have ht:t=0:=by rcases Me h.symm with h|h<;>grind
    subst ht;constructor<;>grind
  ·right
   have:=XI h0 h1 (show 0<=b.y-a.y by grind);constructor<;>grind
 have l2:Bq z b<=0:=by
  rw [Un]
  rcases hl with hl|⟨hl,hl2⟩
  ·have:=XI (show 0<=1-t by grind) (show 1-t<=1 by grind) (show 0<=b.x-a.x by grind)
   rcases NI this.1 with h|h
   ·left;grind
   ·right
    have ht:t=1:=by rcases Me h.symm with h|h<;>grind
    subst ht;constructor<;>grind
  ·right
   have:=XI h0 h1 (show 0<=b.y-a.y by grind);constructor<;>grind
 unfold ND Kz;rw [(sw _).2 ea];simp [l1,l2]
theorem Ajk{a b z:Pt}(hz:Fu a b z):FM a b z=true:=by
 unfold FM
 split
 ·rename_i h
  refine nl hz.swap ?_;rw [Ah5]at h;rw [Un]
  grind
 ·exact nl hz (by omega)
structure FT(a b c d:Pt):Prop where
 pc:Fu a b c→c=a∨c=b
 pd:Fu a b d→d=a∨d=b
 pa:Fu c d a→a=c∨a=d
 pb:Fu c d b→b=c∨b=d
 px:a≠c→a≠d→b≠c→b≠d→Ar a b c*Ar a b d<0→Ar c d a*Ar c d b<0→False
theorem FT.symm{a b c d:Pt}(h:FT a b c d):FT c d a b:=
 ⟨h.pa,h.pb,h.pc,h.pd,fun h1 h2 h3 h4 h5 h6=>h.px (Ne.symm h1) (Ne.symm h3) (Ne.symm h2) (Ne.symm h4) h6 h5⟩
theorem pQ(a b c:Pt):Ar b a c =-Ar a b c:=by unfold Ar;grind
theorem FT.left{a b c d:Pt}(h:FT a b c d):FT b a c d:=
 ⟨fun k=>(h.pc k.swap).symm,fun k=>(h.pd k.swap).symm,h.pb,h.pa,fun h1 h2 h3 h4 h5 h6=>h.px h3 h4 h1 h2 (by rw [pQ,pQ a b d]at h5;grind) (by grind)⟩
theorem FT.right{a b c d:Pt}(h:FT a b c d):FT a b d c:=h.symm.left.symm
theorem tj{p q:Rat}(h:p*q<0):AZ p*AZ q<0:=by
 rcases K3 p 0 with hp|hp|hp
 ·have:0<q:=by
   rcases K3 q 0 with hq|hq|hq
   ·have:=Rat.mul_pos (show 0 < -p by grind) (show 0 < -q by grind);grind
   ·subst hq;grind
   ·exact hq
  have e1:AZ p = -1:=(by unfold AZ;grind);have e2:AZ q=1:=(by unfold AZ;grind);rw [e1,e2];decide
 ·subst hp;grind
 ·have:q<0:=by
   rcases K3 q 0 with hq|hq|hq
   ·exact hq
   ·subst hq;grind
   ·have:=Rat.mul_pos hp hq;grind
  have e1:AZ p=1:=(by unfold AZ;grind);have e2:AZ q = -1:=(by unfold AZ;grind);rw [e1,e2];decide
theorem VJ{x y z:Pt}(h:Lc x y z=false)(hz:Fu x y z):z=x∨z=y:=by
 unfold Lc at h;rw [Ajk hz,Bool.true_and]at h;rw [Bool.and_eq_false_iff]at h
 rcases h with h|h
 ·left;exact CP.1 (by simpa using h)
 ·right;exact CP.1 (by simpa using h)
theorem Aiq{a b c d:Pt}(h:NG a b c d=false):FT a b c d:=by
 unfold NG at h;rw [Bool.or_eq_false_iff]at h;obtain⟨h1,h2⟩:=h;rw [List.any_eq_false]at h1;have m1:=h1 (c,d,a) (by simp [IR]);have m2:=h1 (c,d,b) (by simp [IR]);have m3:=h1 (a,b,c) (by simp [IR]);have m4:=h1 (a,b,d) (by simp [IR]);simp only [Bool.not_eq_true]at m1 m2 m3 m4;refine⟨VJ m3,VJ m4,VJ m1,VJ m2,?_⟩;intro k1 k2 k3 k4 k5 k6
 have hs:Yv a b c d=false:=by
  unfold Yv
  have f:∀{p q:Pt},p≠q→Ax p q=false:=fun hn=>by rw [Bool.eq_false_iff];exact fun e=>hn (CP.1 e)
  rw [f k1,f k2,f k3,f k4];rfl
 have hp:QV a b c d=true:=by unfold QV KI;rw [decide_eq_true (tj k5),decide_eq_true (tj k6)];rfl
 rw [hs,hp]at h2
 cases h2
theorem Adh{p a b:Pt}(h:FT p a p b)(ha:a≠p)(hb:b≠p)(h0:D3 p a b=0):a=b:=by
 rw [sO]at h0;obtain⟨e,h0⟩:=h0
 have key:∀{ux uy vx vy:Rat},Up ux uy→Up vx vy→ux*vy-uy*vx=0→∃t:Rat,(0<=t/\t<=1/\ux=t*vx/\uy=t*vy)∨(0<=t/\t<=1/\vx=t*ux/\vy=t*uy):=by
  have half:∀{ux uy vx vy:Rat},0<vy→0<=uy→uy<=vy→ux*vy-uy*vx=0→0<=uy/vy/\uy/vy<=1/\ux=uy/vy*vx/\uy=uy/vy*vy:=by
   intro ux uy vx vy hv hu hl h;have hv0:vy≠0:=(by grind);have e:uy/vy*vy=uy:=(by rw [Rat.div_def,Rat.mul_assoc,Rat.mul_comm vy⁻¹,Rat.mul_inv_cancel _ hv0];grind);refine⟨Uv hv (by rw [Rat.mul_comm,e];exact hu),?_,?_,e.symm⟩
   ·have:=Uv (b:=1-uy/vy) hv (by grind)
    grind
   ·have h1:vy*(ux-uy/vy*vx)=0:=by generalize uy/vy=q at *;have:vy*(ux-q*vx)=vy*ux-(q*vy)*vx:=(by grind);rw [this,e];grind
    rcases Me h1 with h2|h2
    ·exact absurd h2 hv0
    ·grind
  intro ux uy vx vy hu hv h
  rcases hu with hu|⟨hu,Kp⟩
  ·rcases hv with hv|⟨hv,hv'⟩
   ·by_cases hl:uy<=vy
    ·exact⟨_,.inl (half hv (by grind) hl h)⟩
    ·exact⟨_,.inr (half hu (by grind) (by grind) (by grind))⟩
   ·exfalso
    have:=Rat.mul_pos hu hv';subst hv;grind
  ·rcases hv with hv|⟨hv,hv'⟩
   ·exfalso
    have:=Rat.mul_pos hv Kp;subst hu;grind
   ·subst hu;subst hv;by_cases hl:ux<=vx
    ·have:=half (ux:=0) (vx:=0) hv' (by grind) hl (by grind);exact⟨_,.inl ⟨this.1,this.2.1,this.2.2.2,by grind⟩⟩
    ·have:=half (ux:=0) (vx:=0) Kp (by grind) (show vx<=ux by grind) (by grind);exact⟨_,.inr ⟨this.1,this.2.1,this.2.2.2,by grind⟩⟩
 have main:∃t:Rat,(0<=t/\t<=1/\a.x-p.x=t*(b.x-p.x)/\a.y-p.y=t*(b.y-p.y))∨(0<=t/\t<=1/\b.x-p.x=t*(a.x-p.x)/\b.y-p.y=t*(a.y-p.y)):=by
  rcases Uq p a with ea|ea
  ·exact key ((LU p a).1 ea) ((LU p b).1 (by omega)) h0
  ·rw [Z3]at h0;obtain⟨t,ht⟩:=key (N7 ha ea) (N7 hb (by omega)) h0;exact⟨t,ht.imp (fun ⟨h1,h2,h3,h4⟩=>⟨h1,h2,by grind,by grind⟩) (fun ⟨h1,h2,h3,h4⟩=>⟨h1,h2,by grind,by grind⟩)⟩
 obtain⟨t,⟨h1,h2,h3,h4⟩|⟨h1,h2,h3,h4⟩⟩:=main
 ·rcases h.pb ⟨t,h1,h2,by grind,by grind⟩with e|e
  ·exact absurd e ha
  ·exact e
 ·rcases h.pd ⟨t,h1,h2,by grind,by grind⟩with e|e
  ·exact absurd e hb
  ·exact e.symm
end Go.Proofs.YtnddllipjippnaaGreatDoor
namespace Go.Proofs.YtnddllipjippnaaGreatDoor
section
open Go.RowKit Kl
theorem jm{g:FuncId}{cb:Array Value}(eg:∀args w,(callFunc g args).run Tryz.prog w=.ok (.enter g args) w)(p:EdZ→Bool)(l:List EdZ)(A:Option Addr)(c:Nat)(w:World)(hr:Af w A (A9 l))(hc:l.length<=c)(hcm:c<=9223372036854775807)
  (hp:∀e∈l,∀W,Ab w W→Calls Tryz.prog g (#[I2 e]++cb) W (BF (p e) W)) :
  Calls Tryz.prog 76 #[.slice A l.length c,.func (.func g) #[] cb] w (AI (Dg p l) w):=by
 obtain⟨r,hr0⟩:=Ao3 (Dg p l);rw [←hr0];have HR:=Ao4 hr0;have HP:=Ao4 hp;clear hr0 hp;go_enter Tryz.func76,Tryz.ntmps76;go_wp2
 go_loopw [8] (fun i wr=>∃j:Nat,i=.int .i64 (j:Nat)/\j<=l.length/\(∀q∈l.take j,p q=false)/\Ab w wr) (fun i _=>l.length-(intOf i).toNat)
 case atStart=>exact⟨0,rfl,by omega,by simp,Ab.refl _⟩
 case round=>
  obtain⟨j,rfl,hj,Ai,Ac⟩:=hrel;have HO:=Ao4 Ai;clear Ai;by_cases hlt:j<l.length
  ·obtain⟨b,o,rfl,hg1,hg2,hg3,hg4⟩:=Mf (hr.ext Ac) hlt;obtain⟨q,hq⟩:=Ao3 (l[j]);have bf:=HP.out l[j] (Ao8 hlt) wr Ac;rw [←hq]at hg1 hg2 hg3 hg4 bf;unfold I2 at bf;have hj0:(0:Int)<=(j:Int):=(by omega);have Bc:(j:Int)<(l.length:Int):=(by omega);have HQ:=Ao4 hq;clear hq
   cases e0:p q
   ·have HE:=Ao4 e0;rw [e0]at bf;clear e0;(go_wp2_with fail);(with_reducible refine bf.mono ?_);rintro e w2 ⟨rfl,hx2⟩;go_wp2;go_roundw
    case rel=>
     refine⟨j+1,by go_num,hlt,?_,Ac.trans hx2⟩;intro x hx;rw [AoA hlt,←HQ.out]at hx
     rcases List.mem_append.1 hx with h|h
     ·exact HO.out x h
     ·simp only [AoJ]at h;rw [h];exact HE.out
    case measure=>simp [intOf];omega
   ·have EJ:r=(j:Int):=(by rw [HR.out];exact iS hlt HO.out (by rw [←HQ.out];exact e0));rw [e0]at bf;clear e0;subst EJ;(go_wp2_with fail);(with_reducible refine bf.mono ?_);rintro e w2 ⟨rfl,hx2⟩;go_wp2;go_ret;exact⟨rfl,Ac.trans hx2⟩
  ·have hle:(l.length:Int)<=(j:Int):=(by omega);have EJ:r = -1:=(by rw [HR.out];exact iT (by have:=HO.out;rw [AoF (by omega)]at this;exact this));subst EJ;go_wp2;go_ret;exact⟨rfl,Ac⟩
theorem Ab1{g:FuncId}{cb:Array Value}(eg:∀args w,(callFunc g args).run Tryz.prog w=.ok (.enter g args) w)(p:EdZ→Bool)(l:List EdZ)(A:Option Addr)(c:Nat)(w:World)(hr:Af w A (A9 l))(hc:l.length<=c)(hcm:c<=9223372036854775807)
  (hp:∀e∈l,∀W,Ab w W→Calls Tryz.prog g (#[I2 e]++cb) W (BF (p e) W)) :
  Calls Tryz.prog 100 #[.slice A l.length c,.func (.func g) #[] cb] w (BF (l.any p) w):=by
 have ix:=jm eg p l A c w hr hc hcm hp;have ha:=iR p l;obtain⟨r,hr0⟩:=Ao3 (l.any p);rw [←hr0]at ha ⊢;generalize Dg p l=z at *;clear hr hr0 hp eg;go_enter Tryz.func100,Tryz.ntmps100;(go_wp2_with fail);(with_reducible refine ix.mono ?_);rintro e w1 ⟨rfl,hx⟩;go_wp2;go_ret;exact⟨by rw [←ha];rfl,hx⟩
end
section
open Go.RowKit Kl
def U7(t:Bs×Bs):Value:=.agg #[S t.1,S t.2]
theorem J9{w:World}{A:Option Addr}{l:List (Bs×Bs)}(hr:Af w A (flat l)){j:Nat}(h:j<l.length):∃b o,A=some ⟨b,o,none⟩/\w.cell? ⟨b,o+j*2,none⟩=some (S l[j].1)/\w.cell? ⟨b,o+j*2+1,none⟩=some (S l[j].2):=by
 obtain⟨b,o,e,hcs⟩:=hr.ad (by rw [flat_length];omega);obtain⟨f1,f2⟩:=flat_get l j h;have hg1:=hcs (j*2) (by rw [flat_length];omega);have hg2:=hcs (j*2+1) (by rw [flat_length];omega);rw [AoC (by rw [flat_length];omega),AoB]at f1 f2;rw [f1]at hg1;rw [f2,←Nat.add_assoc]at hg2;exact⟨b,o,e,hg1,hg2⟩
theorem AgT{g:FuncId}{cb:Array Value}(eg:∀args w,(callFunc g args).run Tryz.prog w=.ok (.enter g args) w)(p:(Bs×Bs)→Bool)(l:List (Bs×Bs))(A:Option Addr)(c:Nat)(w:World)(hr:Af w A (flat l))(hc:l.length<=c)(hcm:c<=9223372036854775807)
  (hp:∀e∈l,∀W,Ab w W→Calls Tryz.prog g (#[U7 e]++cb) W (BF (p e) W)) :
  Calls Tryz.prog 63 #[.slice A l.length c,.func (.func g) #[] cb] w (AI (Dg p l) w):=by
 obtain⟨r,hr0⟩:=Ao3 (Dg p l);rw [←hr0];have HR:=Ao4 hr0;have HP:=Ao4 hp;clear hr0 hp;go_enter Tryz.func63,Tryz.ntmps63;go_wp2
 go_loopw [8] (fun i wr=>∃j:Nat,i=.int .i64 (j:Nat)/\j<=l.length/\(∀q∈l.take j,p q=false)/\Ab w wr) (fun i _=>l.length-(intOf i).toNat)
 case atStart=>exact⟨0,rfl,by omega,by simp,Ab.refl _⟩
 case round=>
  obtain⟨j,rfl,hj,Ai,Ac⟩:=hrel;have HO:=Ao4 Ai;clear Ai;by_cases hlt:j<l.length
  ·obtain⟨b,o,rfl,hg1,hg2⟩:=J9 (hr.ext Ac) hlt;obtain⟨q,hq⟩:=Ao3 (l[j]);have bf:=HP.out l[j] (Ao8 hlt) wr Ac;rw [←hq]at hg1 hg2 bf;unfold U7 at bf;have hj0:(0:Int)<=(j:Int):=(by omega);have Bc:(j:Int)<(l.length:Int):=(by omega);have HQ:=Ao4 hq;clear hq
   cases e0:p q
   ·have HE:=Ao4 e0;rw [e0]at bf;clear e0;(go_wp2_with fail);(with_reducible refine bf.mono ?_);rintro e w2 ⟨rfl,hx2⟩;go_wp2;go_roundw
    case rel=>
     refine⟨j+1,by go_num,hlt,?_,Ac.trans hx2⟩;intro x hx;rw [AoA hlt,←HQ.out]at hx
     rcases List.mem_append.1 hx with h|h
     ·exact HO.out x h
     ·simp only [AoJ]at h;rw [h];exact HE.out
    case measure=>simp [intOf];omega
   ·have EJ:r=(j:Int):=(by rw [HR.out];exact iS hlt HO.out (by rw [←HQ.out];exact e0));rw [e0]at bf;clear e0;subst EJ;(go_wp2_with fail);(with_reducible refine bf.mono ?_);rintro e w2 ⟨rfl,hx2⟩;go_wp2;go_ret;exact⟨rfl,Ac.trans hx2⟩
  ·have hle:(l.length:Int)<=(j:Int):=(by omega);have EJ:r = -1:=(by rw [HR.out];exact iT (by have:=HO.out;rw [AoF (by omega)]at this;exact this));subst EJ;go_wp2;go_ret;exact⟨rfl,Ac⟩
theorem RV{g:FuncId}{cb:Array Value}(eg:∀args w,(callFunc g args).run Tryz.prog w=.ok (.enter g args) w)(p:(Bs×Bs)→Bool)(l:List (Bs×Bs))(A:Option Addr)(c:Nat)(w:World)(hr:Af w A (flat l))(hc:l.length<=c)(hcm:c<=9223372036854775807)
  (hp:∀e∈l,∀W,Ab w W→Calls Tryz.prog g (#[U7 e]++cb) W (BF (p e) W)) :
  Calls Tryz.prog 35 #[.slice A l.length c,.func (.func g) #[] cb] w (BF (l.any p) w):=by
 have ix:=AgT eg p l A c w hr hc hcm hp;have ha:=iR p l;obtain⟨r,hr0⟩:=Ao3 (l.any p);rw [←hr0]at ha ⊢;generalize Dg p l=z at *;clear hr hr0 hp eg;go_enter Tryz.func35,Tryz.ntmps35;(go_wp2_with fail);(with_reducible refine ix.mono ?_);rintro e w1 ⟨rfl,hx⟩;go_wp2;go_ret;exact⟨by rw [←ha];rfl,hx⟩
theorem Sy:∀args w,(callFunc 36 args).run Tryz.prog w=.ok (.enter 36 args) w:=enters_of Tryz.func36 (by kernel_rfl) rfl
def Bi(t:Bs×Bs):Bool:=!(t.1 == []&&t.2 == [])
theorem Si(t:Bs×Bs)(w:World):Calls Tryz.prog 36 #[U7 t] w (BF (Bi t) w):=by
 have hE:=(Ab.refl w).alloc (.cells #[S t.1,S t.2] 24);have hq:=Ao6 w (.cells #[S t.1,S t.2] 24);obtain⟨x,y⟩:=t;unfold U7 Bi
 dsimp only at hE hq ⊢
 go_enter Tryz.func36,Tryz.ntmps36
 go_upto_region 1 with fail
 have q0:=Aa (o:=0) hq rfl;have q1:=Aa (o:=1) hq rfl
 cases x with
 | nil=>
  cases y with
  | nil=>
   go_wp2;go_ret;exact⟨rfl,hE⟩
  | cons b y=>
   go_wp2;go_ret;exact⟨rfl,hE⟩
 | cons a x=>go_wp2;go_ret;exact⟨rfl,hE⟩
end
end Go.Proofs.YtnddllipjippnaaGreatDoor
