/- Z29: N1 N2 QA D5 D7. -/
import Derived.Test.YtdaefncphfeaeaaGreatDoorZ27
import Derived.Test.YtdaefncphfeaeaaGreatDoorZ28
set_option maxRecDepth 100000
set_option maxHeartbeats 4000000
namespace Go.Proofs.YtdaefncphfeaeaaGreatDoor
open Go.RowKit Kl
theorem Lp(a b:Rat):a<b∨a=b∨b<a:=by grind
theorem Om{a b:Rat}(h:a<=b):a<b∨a=b:=by grind
def Up(x y:Rat):Prop:=0<y∨(y=0/\0<x)
theorem Aml{a b:Rat}(ha:0<a)(h:0<a*b):0<b:=by
 rcases Lp b 0 with hb|hb|hb
 ·have:=Rat.mul_pos ha (show 0 < -b by grind)
  grind
 ·subst hb;grind
 ·exact hb
theorem Ve{a b:Rat}(ha:0<a)(h:0<=a*b):0<=b:=by
 rcases Lp b 0 with hb|hb|hb
 ·have:=Rat.mul_pos ha (show 0 < -b by grind)
  grind
 ·grind
 ·grind
theorem dW{ux uy vx vy wx wy:Rat}(hu:Up ux uy)(hv:Up vx vy)(hw:Up wx wy)(h1:0<ux*vy-uy*vx)(h2:0<vx*wy-vy*wx):0<ux*wy-uy*wx:=by
 have Rf:0<=uy:=(by unfold Up at hu;grind);have UI:0<=wy:=by unfold Up at hw;grind
 rcases hv with hv|⟨hv,hv'⟩
 ·have e:vy*(ux*wy-uy*wx)=wy*(ux*vy-uy*vx)+uy*(vx*wy-vy*wx):=(by grind);refine Aml hv ?_;rw [e];have a1:=Rat.mul_nonneg UI (Rat.le_of_lt h1);have a2:=Rat.mul_nonneg Rf (Rat.le_of_lt h2)
  rcases Om UI with hw1|hw1
  ·have:=Rat.mul_pos hw1 h1;grind
  ·rcases Om Rf with hu1|hu1
   ·have:=Rat.mul_pos hu1 h2;grind
   ·exfalso
    have hwx:0<wx:=(by unfold Up at hw;grind);have:=Rat.mul_pos hv hwx;subst hw1;subst hu1;clear a1 a2 e
    grind
 ·exfalso
  have:=Rat.mul_nonneg Rf (Rat.le_of_lt hv');subst hv
  grind
theorem uV{ux uy vx vy wx wy:Rat}(hu:Up ux uy)(hv:Up vx vy)(hw:Up wx wy)(h1:ux*vy-uy*vx<=0)(h2:vx*wy-vy*wx<=0):ux*wy-uy*wx<=0:=by
 have Rf:0<=uy:=(by unfold Up at hu;grind);have UI:0<=wy:=by unfold Up at hw;grind
 rcases hv with hv|⟨hv,hv'⟩
 ·have e:vy*(-(ux*wy-uy*wx))=wy*(-(ux*vy-uy*vx))+uy*(-(vx*wy-vy*wx)):=by grind
  have:0<=-(ux*wy-uy*wx):=by
   refine Ve hv ?_;rw [e];have a1:=Rat.mul_nonneg UI (show 0<=-(ux*vy-uy*vx)by grind);have a2:=Rat.mul_nonneg Rf (show 0<=-(vx*wy-vy*wx)by grind)
   grind
  grind
 ·subst hv
  have AjG:wy=0:=by
   rcases Om UI with hw1|hw1
   ·have:=Rat.mul_pos hv' hw1;grind
   ·exact hw1.symm
  have hwx:0<wx:=(by unfold Up at hw;grind);have:=Rat.mul_nonneg Rf (Rat.le_of_lt hwx);subst AjG
  grind
/-! ### Directions around a place -/
theorem SU(p q:Rat):AD p q<0↔p<q:=by unfold AD;grind
theorem WU(p q:Rat):AD p q=0↔p=q:=by unfold AD;grind
theorem SV(p q:Rat):0<AD p q↔q<p:=by unfold AD;grind
theorem AaW(q:Rat):AN q=0↔q=0:=by unfold AN;grind
theorem ZU(q:Rat):0<AN q↔0<q:=by unfold AN;grind
theorem Mt(p q:Pt):Cg p q=0↔Up (q.x-p.x) (q.y-p.y):=by
 unfold Cg Kj Up;simp only [SV,WU];constructor
 ·intro h;by_cases h1:p.y<q.y
  ·left;grind
  ·rw [if_neg h1]at h;by_cases h2:q.y=p.y
   ·rw [if_pos h2]at h;by_cases h3:p.x<q.x
    ·right;grind
    ·rw [if_neg h3]at h;cases h
   ·rw [if_neg h2]at h;cases h
 ·rintro(h|⟨h1,h2⟩)
  ·rw [if_pos (by grind)]
  ·rw [if_neg (by grind),if_pos (by grind),if_pos (by grind)]
theorem US(p q:Pt):Cg p q=0∨Cg p q=1:=by
 unfold Cg Kj
 (repeat' split)<;>simp
theorem NV{p q:Pt}(hne:q≠p)(h:Cg p q=1):Up (p.x-q.x) (p.y-q.y):=by
 have h0:¬Up (q.x-p.x) (q.y-p.y):=(by rw [←Mt];omega);unfold Up at *;by_cases h1:q.y=p.y
 ·right
  refine⟨by grind,?_⟩;have:q.x≠p.x:=fun e=>hne (by cases p;cases q;simp_all)
  grind
 ·left;grind
def Eh(p a b:Pt):Int:=if Cg p a-Cg p b≠0 then Cg p a-Cg p b else -AN (Aw p a b)
theorem vE(p a b:Pt):Eh p a b<0↔Cg p a<Cg p b∨(Cg p a=Cg p b/\0<Aw p a b):=by
 unfold Eh;have hs:=ZU (Aw p a b)
 split
 ·constructor
  ·intro h;left;omega
  ·rintro(h|⟨h,_⟩)<;>omega
 ·constructor
  ·intro h;exact .inr ⟨by omega,hs.1 (by omega)⟩
  ·rintro(h|⟨_,h⟩)
   ·omega
   ·have:=hs.2 h;omega
theorem vF(p a b:Pt):Eh p a b=0↔Cg p a=Cg p b/\Aw p a b=0:=by
 unfold Eh;have hs:=AaW (Aw p a b)
 split
 ·constructor
  ·intro h;omega
  ·rintro⟨h,_⟩;omega
 ·constructor
  ·intro h;exact⟨by omega,hs.1 (by omega)⟩
  ·rintro⟨_,h⟩;have:=hs.2 h;omega
theorem Aev(p a:Pt):Aw p a a=0:=by unfold Aw;grind
theorem dF(p a b:Pt):Aw p b a =-Aw p a b:=by unfold Aw;grind
theorem dG(p a b:Pt):Aw p a b=(p.x-a.x)*(p.y-b.y)-(p.y-a.y)*(p.x-b.x):=by unfold Aw;grind
theorem AfL{p a b c:Pt}(ha:a≠p)(hb:b≠p)(hc:c≠p)(h1:Eh p a b<0)(h2:Eh p b c<0):Eh p a c<0:=by
 rw [vE]at *
 rcases h1 with h1|⟨e1,h1⟩
 ·left
  rcases h2 with h2|⟨e2,h2⟩<;>omega
 ·rcases h2 with h2|⟨e2,h2⟩
  ·left;omega
  ·right
   refine⟨by omega,?_⟩
   rcases US p a with ea|ea
   ·unfold Aw at *;exact dW ((Mt p a).1 ea) ((Mt p b).1 (by omega)) ((Mt p c).1 (by omega)) h1 h2
   ·rw [dG]at *;exact dW (NV ha ea) (NV hb (by omega)) (NV hc (by omega)) h1 h2
theorem AfJ{p a b c:Pt}(ha:a≠p)(hb:b≠p)(hc:c≠p)(h1:¬Eh p a b<0)(h2:¬Eh p b c<0):¬Eh p a c<0:=by
 rw [vE]at *;rintro(h|⟨e,h⟩)
 ·have:¬Cg p a<Cg p b:=fun h=>h1 (.inl h);have:¬Cg p b<Cg p c:=fun h=>h2 (.inl h);omega
 ·have e1:¬Cg p a<Cg p b:=fun h=>h1 (.inl h);have e2:¬Cg p b<Cg p c:=fun h=>h2 (.inl h);have f1:Cg p a=Cg p b:=(by omega);have f2:Cg p b=Cg p c:=by omega
  have g1:Aw p a b<=0:=by
   have:¬0<Aw p a b:=fun h=>h1 (.inr ⟨f1,h⟩)
   grind
  have g2:Aw p b c<=0:=by
   have:¬0<Aw p b c:=fun h=>h2 (.inr ⟨f2,h⟩)
   grind
  have:Aw p a c<=0:=by
   rcases US p a with ea|ea
   ·unfold Aw at *;exact uV ((Mt p a).1 ea) ((Mt p b).1 (by omega)) ((Mt p c).1 (by omega)) g1 g2
   ·rw [dG]at *;exact uV (NV ha ea) (NV hb (by omega)) (NV hc (by omega)) g1 g2
  grind
/-! ### Segments without a common place but an end of both -/
def Gh(a b z:Pt):Prop:=∃t:Rat,0<=t/\t<=1/\z.x=a.x+t*(b.x-a.x)/\z.y=a.y+t*(b.y-a.y)
theorem Gh.swap{a b z:Pt}(h:Gh a b z):Gh b a z:=by
 obtain⟨t,h0,h1,hx,hy⟩:=h;exact⟨1-t,by grind,by grind,by grind,by grind⟩
theorem UR(a b:Pt):Bp a b<=0↔a.x<b.x∨(a.x=b.x/\a.y<=b.y):=by
 unfold Bp;have h1:=WU a.x b.x;have h2:=SU a.x b.x;have h3:=SU a.y b.y;have h4:=SV a.x b.x;have h5:=SV a.y b.y
 split
 ·constructor
  ·intro h
   left
   exact h2.1 (by omega)
  ·rintro(h|⟨h,_⟩)
   ·have:=h2.2 h;omega
   ·exact absurd (h1.2 h) (by assumption)
 ·have e:a.x=b.x:=h1.1 (by omega);constructor
  ·intro h
   right
   refine⟨e,?_⟩;have:¬b.y<a.y:=fun h6=>by have:=h5.2 h6;omega
   grind
  ·rintro(h|⟨_,h⟩)
   ·grind
   ·have:¬0<AD a.y b.y:=fun h6=>(by have:=h5.1 h6;grind);omega
theorem Ak8(a b:Pt):0<Bp a b↔b.x<a.x∨(a.x=b.x/\b.y<a.y):=by
 have:=UR a b;constructor
 ·intro h;have h1:¬(a.x<b.x∨(a.x=b.x/\a.y<=b.y)):=fun h2=>by have:=this.2 h2;omega
  grind
 ·intro h;have h1:¬Bp a b<=0:=fun h2=>(by have:=this.1 h2;grind);omega
theorem Zm{t d:Rat}(h0:0<=t)(h1:t<=1)(hd:0<=d):0<=t*d/\t*d<=d:=by
 have a:=Rat.mul_nonneg h0 hd;have b:=Rat.mul_nonneg (show 0<=1-t by grind) hd;exact⟨a,by grind⟩
theorem M5{a b:Rat}(h:a*b=0):a=0∨b=0:=Rat.mul_eq_zero.1 h
theorem yx{a b z:Pt}(hz:Gh a b z)(hl:Bp a b<=0):Ob a b z=true:=by
 obtain⟨t,h0,h1,hx,hy⟩:=hz;rw [UR]at hl;have ea:Aw a b z=0:=by unfold Aw;rw [hx,hy];grind
 have l1:Bp a z<=0:=by
  rw [UR]
  rcases hl with hl|⟨hl,hl2⟩
  ·have:=Zm h0 h1 (show 0<=b.x-a.x by grind)
   rcases Om this.1 with h|h
   ·left;grind
   ·right
    have ht:t=0:=by rcases M5 h.symm with h|h<;>grind
    subst ht;constructor<;>grind
  ·right
   have:=Zm h0 h1 (show 0<=b.y-a.y by grind);constructor<;>grind
 have l2:Bp z b<=0:=by
  rw [UR]
  rcases hl with hl|⟨hl,hl2⟩
  ·have:=Zm (show 0<=1-t by grind) (show 1-t<=1 by grind) (show 0<=b.x-a.x by grind)
   rcases Om this.1 with h|h
   ·left;grind
   ·right
    have ht:t=1:=by rcases M5 h.symm with h|h<;>grind
    subst ht;constructor<;>grind
  ·right
   have:=Zm h0 h1 (show 0<=b.y-a.y by grind);constructor<;>grind
 unfold Ob Lj;rw [(AaW _).2 ea];simp [l1,l2]
theorem Amh{a b z:Pt}(hz:Gh a b z):PD a b z=true:=by
 unfold PD
 split
 ·rename_i h
  refine yx hz.swap ?_;rw [Ak8]at h;rw [UR]
  grind
 ·exact yx hz (by omega)
structure G6(a b c d:Pt):Prop where
 pc:Gh a b c→c=a∨c=b
 pd:Gh a b d→d=a∨d=b
 pa:Gh c d a→a=c∨a=d
 pb:Gh c d b→b=c∨b=d
 px:a≠c→a≠d→b≠c→b≠d→Aw a b c*Aw a b d<0→Aw c d a*Aw c d b<0→False
theorem G6.symm{a b c d:Pt}(h:G6 a b c d):G6 c d a b:=
 ⟨h.pa,h.pb,h.pc,h.pd,fun h1 h2 h3 h4 h5 h6=>h.px (Ne.symm h1) (Ne.symm h3) (Ne.symm h2) (Ne.symm h4) h6 h5⟩
theorem sW(a b c:Pt):Aw b a c =-Aw a b c:=by unfold Aw;grind
theorem G6.left{a b c d:Pt}(h:G6 a b c d):G6 b a c d:=
 ⟨fun k=>(h.pc k.swap).symm,fun k=>(h.pd k.swap).symm,h.pb,h.pa,fun h1 h2 h3 h4 h5 h6=>h.px h3 h4 h1 h2 (by rw [sW,sW a b d]at h5;grind) (by grind)⟩
theorem G6.right{a b c d:Pt}(h:G6 a b c d):G6 a b d c:=h.symm.left.symm
theorem AaY{p q:Rat}(h:p*q<0):AN p*AN q<0:=by
 rcases Lp p 0 with hp|hp|hp
 ·have:0<q:=by
   rcases Lp q 0 with hq|hq|hq
   ·have:=Rat.mul_pos (show 0 < -p by grind) (show 0 < -q by grind);grind
   ·subst hq;grind
   ·exact hq
  have e1:AN p = -1:=(by unfold AN;grind);have e2:AN q=1:=(by unfold AN;grind);rw [e1,e2];decide
 ·subst hp;grind
 ·have:q<0:=by
   rcases Lp q 0 with hq|hq|hq
   ·exact hq
   ·subst hq;grind
   ·have:=Rat.mul_pos hp hq;grind
  have e1:AN p=1:=(by unfold AN;grind);have e2:AN q = -1:=(by unfold AN;grind);rw [e1,e2];decide
theorem WV{x y z:Pt}(h:LL x y z=false)(hz:Gh x y z):z=x∨z=y:=by
 unfold LL at h;rw [Amh hz,Bool.true_and]at h;rw [Bool.and_eq_false_iff]at h
 rcases h with h|h
 ·left;exact Di.1 (by simpa using h)
 ·right;exact Di.1 (by simpa using h)
theorem Alq{a b c d:Pt}(h:Og a b c d=false):G6 a b c d:=by
 unfold Og at h;rw [Bool.or_eq_false_iff]at h;obtain⟨h1,h2⟩:=h;rw [List.any_eq_false]at h1;have m1:=h1 (c,d,a) (by simp [J8]);have m2:=h1 (c,d,b) (by simp [J8]);have m3:=h1 (a,b,c) (by simp [J8]);have m4:=h1 (a,b,d) (by simp [J8]);simp only [Bool.not_eq_true]at m1 m2 m3 m4;refine⟨WV m3,WV m4,WV m1,WV m2,?_⟩;intro k1 k2 k3 k4 k5 k6
 have hs:ZV a b c d=false:=by
  unfold ZV
  have f:∀{p q:Pt},p≠q→Ar p q=false:=fun hn=>by rw [Bool.eq_false_iff];exact fun e=>hn (Di.1 e)
  rw [f k1,f k2,f k3,f k4];rfl
 have hp:R9 a b c d=true:=by unfold R9 Lv;rw [decide_eq_true (AaY k5),decide_eq_true (AaY k6)];rfl
 rw [hs,hp]at h2
 cases h2
theorem AfH{p a b:Pt}(h:G6 p a p b)(ha:a≠p)(hb:b≠p)(h0:Eh p a b=0):a=b:=by
 rw [vF]at h0;obtain⟨e,h0⟩:=h0
 have key:∀{ux uy vx vy:Rat},Up ux uy→Up vx vy→ux*vy-uy*vx=0→∃t:Rat,(0<=t/\t<=1/\ux=t*vx/\uy=t*vy)∨(0<=t/\t<=1/\vx=t*ux/\vy=t*uy):=by
  have half:∀{ux uy vx vy:Rat},0<vy→0<=uy→uy<=vy→ux*vy-uy*vx=0→0<=uy/vy/\uy/vy<=1/\ux=uy/vy*vx/\uy=uy/vy*vy:=by
   intro ux uy vx vy hv hu hl h;have hv0:vy≠0:=(by grind);have e:uy/vy*vy=uy:=(by rw [Rat.div_def,Rat.mul_assoc,Rat.mul_comm vy⁻¹,Rat.mul_inv_cancel _ hv0];grind);refine⟨Ve hv (by rw [Rat.mul_comm,e];exact hu),?_,?_,e.symm⟩
   ·have:=Ve (b:=1-uy/vy) hv (by grind)
    grind
   ·have h1:vy*(ux-uy/vy*vx)=0:=by generalize uy/vy=q at *;have:vy*(ux-q*vx)=vy*ux-(q*vy)*vx:=(by grind);rw [this,e];grind
    rcases M5 h1 with h2|h2
    ·exact absurd h2 hv0
    ·grind
  intro ux uy vx vy hu hv h
  rcases hu with hu|⟨hu,YQ⟩
  ·rcases hv with hv|⟨hv,hv'⟩
   ·by_cases hl:uy<=vy
    ·exact⟨_,.inl (half hv (by grind) hl h)⟩
    ·exact⟨_,.inr (half hu (by grind) (by grind) (by grind))⟩
   ·exfalso
    have:=Rat.mul_pos hu hv';subst hv;grind
  ·rcases hv with hv|⟨hv,hv'⟩
   ·exfalso
    have:=Rat.mul_pos hv YQ;subst hu;grind
   ·subst hu;subst hv;by_cases hl:ux<=vx
    ·have:=half (ux:=0) (vx:=0) hv' (by grind) hl (by grind);exact⟨_,.inl ⟨this.1,this.2.1,this.2.2.2,by grind⟩⟩
    ·have:=half (ux:=0) (vx:=0) YQ (by grind) (show vx<=ux by grind) (by grind);exact⟨_,.inr ⟨this.1,this.2.1,this.2.2.2,by grind⟩⟩
 have main:∃t:Rat,(0<=t/\t<=1/\a.x-p.x=t*(b.x-p.x)/\a.y-p.y=t*(b.y-p.y))∨(0<=t/\t<=1/\b.x-p.x=t*(a.x-p.x)/\b.y-p.y=t*(a.y-p.y)):=by
  rcases US p a with ea|ea
  ·exact key ((Mt p a).1 ea) ((Mt p b).1 (by omega)) h0
  ·rw [dG]at h0;obtain⟨t,ht⟩:=key (NV ha ea) (NV hb (by omega)) h0;exact⟨t,ht.imp (fun ⟨h1,h2,h3,h4⟩=>⟨h1,h2,by grind,by grind⟩) (fun ⟨h1,h2,h3,h4⟩=>⟨h1,h2,by grind,by grind⟩)⟩
 obtain⟨t,⟨h1,h2,h3,h4⟩|⟨h1,h2,h3,h4⟩⟩:=main
 ·rcases h.pb ⟨t,h1,h2,by grind,by grind⟩with e|e
  ·exact absurd e ha
  ·exact e
 ·rcases h.pd ⟨t,h1,h2,by grind,by grind⟩with e|e
  ·exact absurd e hb
  ·exact e.symm
theorem Oc{w:World}{B B':Nat}{e:TypeId}{size:Nat}{v:Value}{n:Nat}{xs:List Value}(h:w.ownsRow B e size v n xs)(hB:B'<=B):w.ownsRow B' e size v n xs:=by
 refine⟨h.1,?_⟩
 rcases h.2 with h'|⟨g,cap,cur,h1,h2,h3⟩
 ·exact .inl h'
 ·exact .inr ⟨g,cap,cur,h1,Asq hB h2,h3⟩
theorem GN{a b:World}(_:Aa a b):∃x,x=b:=⟨b,rfl⟩
theorem Sj{o:Oper}{a:Act}{K:Act→World→Prop}{Q:Exit→Act→World→Prop}(s x:Operand)(t:TypeId)(ho:o.op=.call {callee:=.builtin .append,args:=#[s,x],argTypes:=#[t,t]})
  (e:TypeId) (i:TypeInfo) (z:Value) (size bytes m:Nat) (ht:Tryz.prog.underlying t=some (.slice e)) (hi:Tryz.prog.info? e=some i) (hz:i.zero=some z)
  (hsize:i.size=size) (hby:i.bytes=bytes) (hzs:z.cells.size=size) (hsz:0<size) (gK:bytes<=512) (hm:m<=10)
  (wN:World) (base:Nat) (v:Value) (n:Nat) (xs:List Value) (hs:a.eval s=v) (hown:wN.ownsRow base e size v n xs) (hn:n<200000)
  (g:Nat) (cs:Array Value) (hb:wN.heap[g]?=some (.cells cs e)) (hcs:cs.size=m*size) (h1:∀u∈cs.toList,u.oneCell'=true)
  (hx:a.eval x=.slice (some ⟨g,0,none⟩) m m) (hbase:base<=wN.heap.size)
  (h:∀v' w',w'.ownsRow base e size v' (n+m) (xs++cs.toList)→(∀w0,Aa w0 wN→w0.heap.size<=base→Aa w0 w')→wN.grownBy w' v.ownBlock→K (a.put o.dst v') w') :
  o.wp Tryz.prog a wN K Q:=by
 have iH:(n+m)*bytes<=140737488355328:=Asq (Nat.mul_le_mul (show n+m<=200010 by omega) gK) (by omega);have De:n+m<=maxLen:=(by unfold maxLen;omega);refine wp_append_own _ s x t ho base e i z size bytes ht hi hz hsize hby hzs hsz v n xs hs hown ⟨g,0,none⟩ m m cs.toList hx ?_ ?_ h1 De iH hbase ?_
 ·simp [hcs]
 ·intro j u hu;rw [Addr.add_lit,Nat.zero_add];refine Ab hb ?_;rw [←Array.getElem?_toList];exact hu
 ·intro v' w' h2 h3 _;refine h v' w' h2 (fun w0 he BA=>?_) h3
  exact he.grown h3 fun k hk=>by
   rcases hown.2 with⟨rfl,_⟩|⟨g,cap,cur,rfl,hb',_⟩
   ·cases hk
   ·simp only [Value.ownBlock,Asj]at hk;omega
theorem Tryz.infoHf:(Tryz.prog.info? 137).map (fun i=>(i.zero,i.size,i.bytes))=some (some (.agg #[S [],S [],S [],S [],.int .i64 0]),5,72):=by kernel_rfl
theorem Tryz.infoPc:(Tryz.prog.info? 140).map (fun i=>(i.zero,i.size,i.bytes))=some (some (.agg #[.slice none 0 0,S [],.slice none 0 0]),3,64):=by kernel_rfl
theorem Tryz.infoEd:(Tryz.prog.info? 59).map (fun i=>(i.zero,i.size,i.bytes))=some (some (.agg #[.int .i64 0,.int .i64 0,.int .i64 0,.int .i64 0]),4,32):=by kernel_rfl
section
variable {ops : Array Oper} {rest : List Oper} {o : Oper} {a : Act} {K : Act → World → Prop} {Q : Exit → Act → World → Prop}
theorem AbV(s x:Operand)(ho:o.op=.call {callee:=.builtin .append,args:=#[s,x],argTypes:=#[133,133]})
  (wN:World) (base:Nat) (v:Value) (n:Nat) (l d:List Hf) (hs:a.eval s=v) (hown:wN.ownsRow base 137 5 v n (Bl l)) (hn:n<200000) (hd:d.length<=10)
  (g m:Nat) (hm:d.length=m) (hb:wN.heap[g]?=some (.cells (Bl d).toArray 137)) (hx:a.eval x=.slice (some ⟨g,0,none⟩) m m) (hbase:base<=wN.heap.size)
  (h:∀v' w',w'.ownsRow base 137 5 v' (n+m) (Bl (l++d))→(∀w0,Aa w0 wN→w0.heap.size<=base→Aa w0 w')→wN.grownBy w' v.ownBlock→K (a.put o.dst v') w') :
  o.wp Tryz.prog a wN K Q:=by
 subst hm;obtain⟨i0,hi,hz0,hz1,hz2⟩:=info_parts Tryz.infoHf;refine Sj s x 133 ho 137 i0 _ 5 72 d.length Tryz.underlying133 hi hz0 hz1 hz2 rfl (by omega) (by omega) hd wN base v n _ hs hown hn g _ hb (by simp [dw]) ?_ hx hbase ?_
 ·intro u hu;simp only [Bl,List.mem_flatMap,List.mem_cons,Asr,or_false]at hu;obtain⟨y,_,hu⟩:=hu
  rcases hu with rfl|rfl|rfl|rfl|rfl<;>rfl
 ·intro v' w' h1 h2 h3;refine h v' w' ?_ h2 h3;have:Bl (l++d)=Bl l++(Bl d).toArray.toList:=(by simp [Bl]);rw [this];exact h1
theorem dD(hgd:o.guard=none)(s x:Operand)(ho:o.op=.call {callee:=.builtin .append,args:=#[s,x],argTypes:=#[133,133]})
  (wN:World) (base:Nat) (v:Value) (n:Nat) (l d:List Hf) (hs:a.eval s=v) (hown:wN.ownsRow base 137 5 v n (Bl l)) (hn:n<200000) (hd:d.length<=10)
  (g m:Nat) (hm:d.length=m) (hb:wN.heap[g]?=some (.cells (Bl d).toArray 137)) (hx:a.eval x=.slice (some ⟨g,0,none⟩) m m) (hbase:base<=wN.heap.size)
  (h:∀v' w',w'.ownsRow base 137 5 v' (n+m) (Bl (l++d))→(∀w0,Aa w0 wN→w0.heap.size<=base→Aa w0 w')→wN.grownBy w' v.ownBlock→wpList Tryz.prog ops Q rest (a.put o.dst v') w') :
  wpList Tryz.prog ops Q (o::rest) a wN:=
 wpList_plain hgd fun _ hK=>AbV s x ho wN base v n l d hs hown hn hd g m hm hb hx hbase fun v' w' h1 h2 h3=>hK _ _ (h v' w' h1 h2 h3)
theorem Abo{E:Prop}(hgd:o.guard=none)(s x:Operand)(ho:o.op=.call {callee:=.builtin .append,args:=#[s,x],argTypes:=#[133,133]})
  (wN:World) (base:Nat) (v:Value) (n:Nat) (l d:List Hf) (hs:a.eval s=v) (hown:wN.ownsRow base 137 5 v n (Bl l)) (hn:n<200000) (hd:d.length<=10)
  (g m:Nat) (hm:d.length=m) (hb:wN.heap[g]?=some (.cells (Bl d).toArray 137)) (hx:a.eval x=.slice (some ⟨g,0,none⟩) m m) (hbase:base<=wN.heap.size)
  (h:∀v' w',w'.ownsRow base 137 5 v' (n+m) (Bl (l++d))→(∀w0,Aa w0 wN→w0.heap.size<=base→Aa w0 w')→wN.grownBy w' v.ownBlock→K (a.put o.dst v') w') :
  if Region.wanted o (yielded ops a.tmps)=true then Oper.wp Tryz.prog o a wN K Q else E:=by
 have hw:Region.wanted o (yielded ops a.tmps)=true:=(by simp [Region.wanted,hgd]);rw [if_pos hw];exact AbV s x ho wN base v n l d hs hown hn hd g m hm hb hx hbase h
end
section
open Go.ChangeMaps (setBlock)
def Nc(l:List (Int×Int)):List MapEntry:=l.mapIdx fun i e=>⟨.int .i64 e.1,.int .i64 e.2,i⟩
theorem Agt(l:List (Int×Int))(e:Int×Int):Nc (l ++ [e])=Nc l ++ [⟨.int .i64 e.1,.int .i64 e.2,l.length⟩]:=by simp [Nc,List.mapIdx_append]
def II(k:Int)(l:List (Int×Int)):Option Int:=(l.find? (fun e=>k == e.1)).map (·.2)
theorem wI(k:Int):∀(l:List (Int×Int)) (i j:Nat),∃x,Instr.findNow (.int .i64) (.int .i64 k) (l.mapIdx fun i e=>⟨.int .i64 e.1,.int .i64 e.2,i+j⟩) i=some x/\x.map (·.2)=(II k l).map (fun z=>Value.int .i64 z)
 | [],i,j=>⟨none,by simp [Instr.findNow],by simp [II]⟩
 | e::l,i,j=>by
  rw [List.mapIdx_cons];by_cases h:k=e.1
  ·refine⟨some (i,.int .i64 e.2),?_,?_⟩
   ·simp [Instr.findNow,Instr.sameNow,h]
   ·simp [II,h]
  ·obtain⟨x,h1,h2⟩:=wI k l (i+1) (j+1);have hh:(k == e.1)=false:=(by simpa using h);refine⟨x,?_,?_⟩
   ·simp only [Instr.findNow,Instr.sameNow,if_pos,hh]
    simpa only [Nat.add_assoc,Nat.add_comm 1 j]using h1
   ·rw [h2];simp [II,hh]
theorem wH(k:Int)(l:List (Int×Int))(W:World):∃x,(Instr.findKey 3 (.int .i64 k) (Nc l)).run Tryz.prog W=.ok x W/\x.map (·.2)=(II k l).map (fun z=>Value.int .i64 z):=by
 obtain⟨x,h1,h2⟩:=wI k l 0 0;exact⟨x,MapKept.run_findKey Tryz.underlying3 h1,h2⟩
theorem AnC(k:Int)(l:List (Int×Int)){b clock:Nat}{W:World}(hb:W.heap[b]?=some (.map (Nc l).toArray clock)) :
  (Instr.lookup 188 (.map (some b)) (.int .i64 k) true).run Tryz.prog W=.ok (.tuple #[.int .i64 ((II k l).getD 0),.bool (II k l).isSome]) W:=by
 obtain⟨x,h1,h2⟩:=wH k l W;have hz:(zeroValue 3).run Tryz.prog W=.ok (.int .i64 0) W:=(by simp [go_sem]);have hc:∀b,(Instr.checkKey b 10000 3 (.int .i64 k)).run Tryz.prog W=.ok () W:=fun b=>MapKept.run_checkKey (k:=.int .i64 k) Tryz.underlying3 (by simp [MapKept.IsKey]) b 9999;have hm:=run_underlying (w:=W) Tryz.underlying188
 cases h:II k l with
 | none=>
  rw [h]at h2;have hx:x=none:=(by simpa using h2);subst hx;simp [Instr.lookup,hm,MapKept.run_getObj_map hb,hc,h1,hz,Result.andThen]
 | some z=>rw [h]at h2;obtain⟨⟨i,v⟩,rfl,hv⟩:=Option.map_eq_some_iff.1 h2;simp only at hv;subst hv;simp [Instr.lookup,hm,MapKept.run_getObj_map hb,hc,h1,Result.andThen]
theorem AnI(k z:Int)(l:List (Int×Int))(hno:II k l=none){b:Nat}{W:World}(hb:W.heap[b]?=some (.map (Nc l).toArray l.length)) :
  (Instr.mapUpdate 188 (.map (some b)) (.int .i64 k) (.int .i64 z)).run Tryz.prog W=.ok () (setBlock W b (.map (Nc (l ++ [(k,z)])).toArray (l.length+1))):=by
 obtain⟨x,h1,h2⟩:=wH k l W;have hc:∀b,(Instr.checkKey b 10000 3 (.int .i64 k)).run Tryz.prog W=.ok () W:=fun b=>MapKept.run_checkKey (k:=.int .i64 k) Tryz.underlying3 (by simp [MapKept.IsKey]) b 9999;have hm:=run_underlying (w:=W) Tryz.underlying188;rw [hno]at h2;have hx:x=none:=(by simpa using h2);subst hx;rw [Agt];simp [Instr.mapUpdate,hm,MapKept.run_getObj_map hb,hc,h1,MapKept.run_setObj_map _ hb,Result.andThen,setBlock]
def Oy(W:World)(b:Nat)(l:List (Int×Int)):Prop:=W.heap[b]?=some (.map (Nc l).toArray l.length)
theorem Oy.put{W:World}{b:Nat}{l:List (Int×Int)}(h:Oy W b l)(k z:Int)(hno:II k l=none) :
  ∃W',(Instr.mapUpdate 188 (.map (some b)) (.int .i64 k) (.int .i64 z)).run Tryz.prog W=.ok () W'/\Oy W' b (l ++ [(k,z)])/\W.grownBy W' (some b)/\W'.heap.size=W.heap.size:=by
 refine⟨_,AnI k z l hno h,?_,Nh h,by simp [setBlock]⟩;unfold Oy;rw [On h];simp
/-! ### Bools in a row -/
def I0(l:List Bool):List Value:=l.map Value.bool
theorem tC(l:List Bool):(I0 l).length=l.length:=by simp [I0]
theorem AmJ{w:World}{A:Option Addr}{l:List Bool}(hr:Am w A (I0 l)){j:Nat}(h:j<l.length):∃b o,A=some ⟨b,o,none⟩/\w.cell? ⟨b,o+j,none⟩=some (.bool l[j]):=by
 obtain⟨b,o,e,hc⟩:=hr.ad (by rw [tC];omega);refine⟨b,o,e,?_⟩;rw [hc j (by rw [tC];exact h)];simp [I0]
def Ms(l:List Bool)(x:Bool):Int:=match l.findIdx? (x == ·)with|some j=>(j:Int)|none=>-1
theorem Aka{l:List Bool}{x:Bool}{j:Nat}(h:j<l.length)(hno:∀q∈l.take j,(x == q)=false)(he:(x == l[j])=true):Ms l x=(j:Int):=by
 unfold Ms
 have:l.findIdx? (x == ·)=some j:=by rw [List.findIdx?_eq_some_iff_getElem];exact⟨h,he,fun i hi=>by rw [hno l[i] (by rw [List.mem_take_iff_getElem];exact⟨i,by omega,rfl⟩)];simp⟩
 rw [this]
theorem uo{l:List Bool}{x:Bool}(hno:∀q∈l,(x == q)=false):Ms l x = -1:=by
 unfold Ms;rw [List.findIdx?_eq_none_iff.2 hno]
theorem AjZ(l:List Bool)(x:Bool):decide (0<=Ms l x)=l.contains x:=by
 by_cases h:∃q∈l,(x == q)=true
 ·obtain⟨q,hq,he⟩:=h;have e:x=q:=(by simpa using he);subst e;have h2:l.contains x=true:=(by simpa using hq);rw [h2];unfold Ms
  cases hf:l.findIdx? (x == ·)with
  | none=>
   rw [List.findIdx?_eq_none_iff]at hf;have:=hf x hq;simp at this
  | some j=>simp
 ·have hn:∀q∈l,(x == q)=false:=fun q hq=>by rw [Bool.eq_false_iff];exact fun he=>h ⟨q,hq,he⟩
  rw [uo hn];have:x∉l:=fun hx=>(by have:=hn x hx;simp at this);simp [this]
theorem Aki(l:List Bool)(x:Bool)(A:Option Addr)(c:Nat)(w:World)(hr:Am w A (I0 l))(hc:l.length<=c)(hcm:c<=9223372036854775807) :
  Calls Tryz.prog 201 #[.slice A l.length c,.bool x] w (AQ (Ms l x) w):=by
 obtain⟨r,hr0⟩:=AcG (Ms l x);rw [←hr0];have HR:=Asb hr0;clear hr0;go_enter Tryz.func201,Tryz.ntmps201
 go_upto_region 2 with fail
 go_loopw [8] (fun i wr=>∃j:Nat,i=.int .i64 (j:Nat)/\j<=l.length/\(∀q∈l.take j,(x == q)=false)/\Aa w wr) (fun i _=>l.length-(intOf i).toNat)
 case atStart=>exact⟨0,rfl,by omega,by simp,Aa.refl _⟩
 case round=>
  obtain⟨j,rfl,hj,Au,Ac⟩:=hrel;have HO:=Asb Au;clear Au;by_cases hlt:j<l.length
  ·obtain⟨b,o,rfl,hg⟩:=AmJ (hr.ext Ac) hlt;obtain⟨q,hq⟩:=AcG (l[j]);rw [←hq]at hg;have hj0:(0:Int)<=(j:Int):=(by omega);have AG:(j:Int)<(l.length:Int):=(by omega);have HQ:=Asb hq;clear hq
   cases x<;>cases q
   case false.true|true.false=>
    have HE:=Asb (show ∀y∈l.take (j+1),_ from by
     intro y hy;rw [Asi hlt,←HQ.out]at hy
     rcases List.mem_append.1 hy with h|h
     ·exact HO.out y h
     ·simp only [Ass]at h;rw [h];rfl)
    go_wp2;go_roundw
    case rel=>exact⟨j+1,by go_num,hlt,HE.out,Ac⟩
    case measure=>simp [intOf];omega
   case false.false|true.true=>have Hl:r=(j:Int):=(by rw [HR.out];exact Aka hlt HO.out (by rw [←HQ.out];rfl));subst Hl;go_wp2;go_ret;exact⟨rfl,Ac⟩
  ·have hle:(l.length:Int)<=(j:Int):=(by omega);have Hl:r = -1:=(by rw [HR.out];exact uo (by have:=HO.out;rw [Aso (by omega)]at this;exact this));subst Hl;go_wp2;go_ret;exact⟨rfl,Ac⟩
theorem Afz(l:List Bool)(x:Bool)(A:Option Addr)(c:Nat)(w:World)(hr:Am w A (I0 l))(hc:l.length<=c)(hcm:c<=9223372036854775807) :
  Calls Tryz.prog 126 #[.slice A l.length c,.bool x] w (Dq (l.contains x) w):=by
 have ix:=Aki l x A c w hr hc hcm;have ha:=AjZ l x;obtain⟨r,hr0⟩:=AcG (l.contains x);rw [←hr0]at ha ⊢;obtain⟨n,hn⟩:=AcG (Ms l x);rw [←hn]at ix ha;have HA:=Asb ha;clear hr0 hn ha;go_enter Tryz.func126,Tryz.ntmps126;(go_wp2_with fail);(with_reducible refine ix.mono ?_);rintro e w2 ⟨rfl,hx2⟩;go_wp2;go_ret;exact⟨by rw [←HA.out];rfl,hx2⟩
end
theorem Akl{B:Nat}{w:World}{r b1 b2:Nat}{L:List (Sg×Int)}{E:List (Pt×Value×Nat)}{R0:List (Pt×List Pt)}(h:Cl B w r b1 b2 L E R0)(bn:Nat)(BJ:w.cell? ⟨bn,0,none⟩=some (.pointer (some ⟨r,0,none⟩)))(l:List Pt)(A:Option Addr)(c:Nat)(hr:Am w A (flat (AI l)))(hc:l.length<=c)(hcm:c<=9223372036854775807) :
  Calls Tryz.prog 122 #[.slice A l.length c,.func (.func 55) #[] #[.pointer (some ⟨bn,0,none⟩)]] w fun e w'=>∃n:Int,e=.returned (.int .i64 n)/\(0<=n↔∃p∈l,decide (KA R0 p<2)=true)/\Aa w w':=by
 have fw:=fun (w1:World) (hx:Aa w w1) (p:Pt)=>Ag7 (h.ext hx) bn (hx.cellS BJ) p;clear h BJ;go_enter Tryz.func122,Tryz.ntmps122;go_wp2
 go_loopw [8] (fun i wr=>∃j:Nat,i=.int .i64 (j:Nat)/\j<=l.length/\(∀p∈l.take j,decide (KA R0 p<2)=false)/\Aa w wr) (fun i _=>l.length-(intOf i).toNat)
 case atStart=>exact⟨0,rfl,by omega,by simp,Aa.refl _⟩
 case round=>
  obtain⟨j,rfl,hj,Au,Ac⟩:=hrel;have HO:=Asb Au;clear Au;by_cases hlt:j<l.length
  ·obtain⟨b,o,rfl,hg1,hg2⟩:=BO (hr.ext Ac) hlt;obtain⟨p,hp⟩:=AcG (l[j]);rw [←hp]at hg1 hg2;have hmem:p∈l:=(by rw [hp];exact Asg hlt);have HX:=Asb hp;clear hp;have hj0:(0:Int)<=(j:Int):=(by omega);have AG:(j:Int)<(l.length:Int):=(by omega);have bf:=fw wr Ac p;unfold Ak at bf
   cases hL:decide (KA R0 p<2)
   ·rw [hL]at bf;have Iv:=Asb hL;clear hL fw;(go_wp2_with fail);(with_reducible refine bf.mono ?_);rintro e w2 ⟨rfl,hx2⟩;go_wp2;go_roundw
    case rel=>
     refine⟨j+1,by go_num,hlt,?_,Ac.trans hx2⟩;intro q hq;rw [Asi hlt,←HX.out]at hq
     rcases List.mem_append.1 hq with h|h
     ·exact HO.out q h
     ·simp only [Ass]at h;rw [h];exact Iv.out
    case measure=>simp [intOf];omega
   ·rw [hL]at bf;have Iv:=Asb hL;clear hL fw;(go_wp2_with fail);(with_reducible refine bf.mono ?_);rintro e w2 ⟨rfl,hx2⟩;go_wp2;go_ret;exact⟨j,rfl,⟨fun _=>⟨_,hmem,Iv.out⟩,fun _=>by omega⟩,Ac.trans hx2⟩
  ·have hle:(l.length:Int)<=(j:Int):=(by omega);clear fw;go_wp2;go_ret;refine⟨-1,rfl,⟨fun h=>by omega,?_⟩,Ac⟩;rintro⟨p,hp,h⟩;have:=HO.out p (by rw [Aso (by omega)];exact hp);rw [this]at h;cases h
def Td(R0:List (Pt×List Pt))(l:List Pt):Bool:=l.any (fun p=>decide (KA R0 p<2))
theorem Aek{B:Nat}{w:World}{r b1 b2:Nat}{L:List (Sg×Int)}{E:List (Pt×Value×Nat)}{R0:List (Pt×List Pt)}(h:Cl B w r b1 b2 L E R0)(bn:Nat)(BJ:w.cell? ⟨bn,0,none⟩=some (.pointer (some ⟨r,0,none⟩)))(l:List Pt)(A:Option Addr)(c:Nat)(hr:Am w A (flat (AI l)))(hc:l.length<=c)(hcm:c<=9223372036854775807) :
  Calls Tryz.prog 54 #[.slice A l.length c,.func (.func 55) #[] #[.pointer (some ⟨bn,0,none⟩)]] w (Dq (Td R0 l) w):=by
 have ix:=Akl h bn BJ l A c hr hc hcm;clear h BJ hr;go_enter Tryz.func54,Tryz.ntmps54;(go_wp2_with fail);(with_reducible refine ix.mono ?_);rintro e w2 ⟨n,rfl,hn,hx2⟩
 have hd:Td R0 l=decide (0<=n):=by
  unfold Td;by_cases h0:0<=n
  ·rw [decide_eq_true h0,List.any_eq_true];exact hn.1 h0
  ·rw [decide_eq_false h0,List.any_eq_false];intro x hx hh;exact h0 (hn.2 ⟨x,hx,hh⟩)
 have HD:=Asb hd;clear hd hn;go_wp2;go_ret;exact⟨by rw [HD.out];rfl,hx2⟩
end Go.Proofs.YtdaefncphfeaeaaGreatDoor
