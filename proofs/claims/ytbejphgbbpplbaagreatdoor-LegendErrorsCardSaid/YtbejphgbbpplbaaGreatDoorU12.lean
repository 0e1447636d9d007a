/- U12: ShInt8 ShIntA ShIntG ShInt9 ShIntC ShR1 ShR2 ShR3 ShR4 ShR5 ShR6 ShG1 ShG2 ShG3 ShG4 ShG5 ShG6 ShG7 ShG8A ShG9 ShG10 ShG11. -/
import Derived.Test.YtbejphgbbpplbaaGreatDoorU11
import Derived.Deep.DeepCutAuto
import Derived.RangeFuncNested
import Derived.RangeFuncBound
import Derived.Shelf.RegionOpen
import Derived.OwnWalkIn
import Derived.LoopNIn
import Derived.LoopIn
import Derived.StillTailTactics
import Derived.Deep.RegionHeld3
import Derived.Test.YtbejphgbbpplbaaGreatDoorU06
set_option maxRecDepth 100000
set_option maxHeartbeats 2000000
namespace Go.Proofs.YtbejphgbbpplbaaGreatDoor
open Go.RowKit Kl
theorem Aag{z:Int}{k:Nat}(h:(I z).length<=k):UG z k=.tuple #[.int .i64 z,.bool true]:=if_pos h
theorem Aaf(z:Int)(w:World):Calls Tryz.prog 223 #[S (I z),.int .i64 18] w (Cy (UG z 18) w):=Am9 z 18 (by omega) w
theorem YP{z:Int}{k:Nat}(h:(I z).length<=k):z.natAbs<10^k:=by
 rcases Ei z with⟨n,rfl,e⟩|⟨n,hn,rfl,e⟩
 ·rw [e]at h;simpa using K1 (n:=n) (k:=k) (by omega)
 ·rw [e,List.length_cons]at h;simpa using K1 (n:=n) (k:=k) (by omega)
theorem P6{x y:Int}(hx:x.natAbs<1000000000)(hy:y.natAbs<1000000000):IntKind.i64.wrap (x*y)=x*y:=by
 have h:=lM hx hy;rw [←Int.natAbs_mul]at h;exact Asg _ (by omega)
theorem Ab{W:World}{b o:Nat}{cs:Array Value}{t:TypeId}{fz:Nat×Nat}{v:Value}(h:W.heap[b]?=some (.cells cs t fz))(hv:cs[o]?=some v):W.cell? ⟨b,o,none⟩=some v:=by
 unfold World.cell?;simp [h,hv]
theorem AB{W:World}{b o:Nat}{cs:Array Value}{t:TypeId}(h:W.heap[b]?=some (.cells cs t)):W.frozen? ⟨b,o,none⟩=false:=by unfold World.frozen?;simp [h]
theorem xH(a b:Int):Int.gcd b (a.tmod b)=Int.gcd a b:=by
 unfold Int.gcd;rw [Int.natAbs_tmod,Nat.gcd_comm b.natAbs,←Nat.gcd_rec,Nat.gcd_comm]
theorem vt(a:Int){b:Int}(h:b≠0):(a.tmod b).natAbs<b.natAbs:=by
 rw [Int.natAbs_tmod];exact Nat.mod_lt _ (by omega)
theorem Ajy(x y:Int)(hx:(I x).length<=18)(hy:(I y).length<=18)(w:World)(hw:Al w) :
  Calls Tryz.prog 220 #[S (I x),S (I y)] w (BK (D (Int.gcd x y)) w):=by
 have q1:=Aaf x;have q2:=Aaf y;rw [Aag hx]at q1;rw [Aag hy]at q2;have b1:=YP hx;have b2:=YP hy;have e18:(10:Nat)^18=1000000000000000000:=(by decide);rw [e18]at b1 b2;obtain⟨g,hg⟩:=ArV (Int.gcd x y);rw [←hg];have HG:=ArW hg.symm;clear hx hy e18 hg;go_enter Tryz.func220,Tryz.ntmps220;(go_wp2_with fail);(with_reducible refine(q1 _).mono ?_);rintro e w1 ⟨rfl,hx1⟩;(go_wp2_with fail);(with_reducible refine(q2 _).mono ?_);rintro e w2 ⟨rfl,hx2⟩;have hx:=hx1.trans hx2;clear hx1 hx2 q1 q2;go_wp2
 go_loopw [5,7] (fun u v wr=>∃a b:Int,u=.int .i64 a/\v=.int .i64 b/\Int.gcd a b=g/\a.natAbs<1000000000000000000/\b.natAbs<1000000000000000000/\Aa w wr) (fun _ v _=>(intOf v).natAbs)
 case atStart=>exact⟨x,y,rfl,rfl,HG.out,b1,b2,hx⟩
 case round=>
  obtain⟨a,b,rfl,rfl,GQ,ha,hb,Ad⟩:=hrel;by_cases hb0:b=0
  ·subst hb0;have iL:a.natAbs=g:=(by rw [←GQ];simp);have hmx:max a (-a)=(g:Int):=(by omega);have ho:=fun W hW=>ql (g:Int) (by omega) (by omega) W hW;have Bq:((0:Int) != 0)=false:=(by rfl);clear iL GQ;rw [FM]at ho;have LI:IntKind.i64.wrap (-a) = -a:=Asg _ (by omega);(go_wp2_with fail);(with_reducible refine(ho _ (hw.ext Ad)).mono ?_);rintro e w3 ⟨rfl,hx3⟩;go_wp2;go_ret;exact⟨rfl,Ad.trans hx3⟩
  ·have hlt:=vt a hb0;have QL:(a.tmod b).natAbs<1000000000000000000:=Nat.lt_trans hlt hb;have IB:=xH a b;have Nq:(b != 0)=true:=(by rw [bne_iff_ne];exact hb0);have Dy:(b == 0)=false:=(by rw [beq_eq_false_iff_ne];exact hb0);have M5:=ArW (IB.trans GQ);clear IB GQ;(go_wp2_with fail)
   go_quiet (fail)
   go_wp2;go_roundw
   case rel=>exact⟨b,a.tmod b,rfl,rfl,M5.out,hb,QL,Ad.drewN _⟩
   case measure=>exact hlt
theorem Ajx(x y:Int)(hx:(I x).length<=18)(hy:(I y).length<=18)(w:World)(hw:Al w):Calls Tryz.prog 220 #[S (I x),S (I y)] w (BK (D (Int.gcd x y)) w):=Ajy x y hx hy w hw
def Ev(x y:Int):Int:=if x<y then -1 else if x=y then 0 else 1
theorem uT{x y:Int}(h:x<y):Ev x y = -1:=by unfold Ev;rw [if_pos h]
theorem bE{x y:Int}(h:y<x):Ev x y=1:=by unfold Ev;rw [if_neg (by omega),if_neg (by omega)]
theorem AeU{x y:Int}(h:x=y):Ev x y=0:=by unfold Ev;rw [if_neg (by omega),if_pos h]
theorem uY:∀(l k:Bs),Cb l→Cb k→l.length=k.length→Lib.compareBytes l k=I1 (val l) (val k)
 | [],[],_,_,_=>by simp [Lib.compareBytes,I1]
 | [],_::_,_,_,h=>by simp at h
 | _::_,[],_,_,h=>by simp at h
 | a::l,b::k,ha,hb,h=>by
  rw [VE]at ha hb;simp only [List.length_cons,Nat.add_right_cancel_iff]at h;have ih:=uY l k ha.2 hb.2 h;have hl:=KQ ha.2;have hk:=KQ hb.2;rw [UT,UT,Lib.compareBytes,h];rw [h]at hl;have OG:=ha.1.1;have gi:=hb.1.1;generalize 10^k.length=p at *
  rcases Nat.lt_trichotomy (dv a) (dv b)with hd|hd|hd
  ·have h1:a<b:=(by rw [UInt8.lt_iff_toNat_lt];unfold dv at hd;omega);have h2:dv a*p+p<=dv b*p:=(by rw [←Nat.succ_mul];exact Nat.mul_le_mul_right _ hd);rw [if_pos h1,uP (by omega)]
  ·have h1:a=b:=by have:a.toNat=b.toNat:=(by unfold dv at hd;omega);exact UInt8.toNat_inj.1 this
   subst h1;rw [if_neg (by rw [UInt8.lt_iff_toNat_lt];omega),if_neg (by rw [UInt8.lt_iff_toNat_lt];omega),ih];unfold I1;simp only [Nat.add_lt_add_iff_left,Nat.add_left_cancel_iff]
  ·have h1:b<a:=(by rw [UInt8.lt_iff_toNat_lt];unfold dv at hd;omega);have h0:¬a<b:=(by rw [UInt8.lt_iff_toNat_lt]at h1 ⊢;omega);have h2:dv b*p+p<=dv a*p:=(by rw [←Nat.succ_mul];exact Nat.mul_le_mul_right _ hd);rw [if_neg h0,if_pos h1,uO (by omega)]
theorem pH{m n:Nat}(h:(D m).length<(D n).length):m<n:=by
 rcases Nat.eq_zero_or_pos n with rfl|hn
 ·have e:(D 0).length=1:=(by rw [FI (by omega)];rfl);have:=UY m;omega
 ·have h1:=uw m;have h2:=zj n hn;have h3:10^(D m).length<=10^((D n).length-1):=Nat.pow_le_pow_right (by omega) (by omega);omega
theorem AaJ(z:Int):-1<=FC z/\FC z<=1:=by unfold FC;split<;>(try split)<;>omega
theorem AaE{x y:Int}(h:FC x<FC y):x<y:=by
 unfold FC at h;split at h<;>split at h<;>(try split at h)<;>(try split at h)<;>omega
theorem AaG(z:Int):FC z*(z.natAbs:Int)=z:=by
 unfold FC
 split
 ·omega
 ·split<;>omega
theorem Ajv(x y:Int)(hx:BJ x)(hy:BJ y)(w:World):Calls Tryz.prog 144 #[S (I x),S (I y)] w (Av (Ev x y) w):=by
 have s1:=U1 x;have s2:=U1 y;have r1:=AaJ x;have r2:=AaJ y;have t1:=oK (I x) [45];have t2:=oK (I y) [45];rw [Abw]at t1 t2;have c1:=uZ (D x.natAbs) (D y.natAbs);have l1:=hx.len;have l2:=hy.len
 have hcl:(D x.natAbs).length=(D y.natAbs).length→Lib.compareBytes (D x.natAbs) (D y.natAbs)=I1 x.natAbs y.natAbs:=fun h=>by
  have:=uY _ _ (ES x.natAbs) (ES y.natAbs) h
  rwa [KO,KO]at this
 have k1:(D x.natAbs).length<(D y.natAbs).length→x.natAbs<y.natAbs:=pH;have k2:(D y.natAbs).length<(D x.natAbs).length→y.natAbs<x.natAbs:=pH;have a1:=AaG x;have a2:=AaG y;have J1:=@AaE x y;have hlt2:=@AaE y x;obtain⟨s,hs⟩:=ArV (FC x);obtain⟨t,ht⟩:=ArV (FC y);rw [←hs]at s1 r1 a1 J1 hlt2;rw [←ht]at s2 r2 a2 J1 hlt2;clear hs ht
 rcases Int.lt_trichotomy s t with h|h|h
 ·have HR:=ArW (uT (J1 h));have hne:(s != t)=true:=(by rw [bne_iff_ne];omega);clear a1 a2 J1 hlt2 t1 t2 c1 hcl k1 k2;go_enter Tryz.func144,Tryz.ntmps144;(go_wp2_with fail);(with_reducible refine(s1 _).mono ?_);rintro e w1 ⟨rfl,hx1⟩;(go_wp2_with fail);(with_reducible refine(s2 _).mono ?_);rintro e w2 ⟨rfl,hx2⟩;go_wp2;go_ret;exact⟨BA HR.out,hx1.trans hx2⟩
 ·subst h;have hne:(s != s)=false:=by simp
  have XR:(D y.natAbs).length<=4001:=by
   rcases Ei y with⟨n,rfl,e⟩|⟨n,hn,rfl,e⟩
   ·rw [e]at l2;simpa using l2
   ·rw [e,List.length_cons]at l2;rw [show (-(n:Int)).natAbs=n by omega];omega
  have QW:(D x.natAbs).length<=4001:=by
   rcases Ei x with⟨n,rfl,e⟩|⟨n,hn,rfl,e⟩
   ·rw [e]at l1;simpa using l1
   ·rw [e,List.length_cons]at l1;rw [show (-(n:Int)).natAbs=n by omega];omega
  obtain⟨cb,hcb⟩:=ArV (Lib.compareBytes (D x.natAbs) (D y.natAbs));rw [←hcb]at c1 hcl;have Un:s=0∨s=1∨s = -1:=by omega
  have hcm:∀{m n:Nat},x=s*m→y=s*n→s*I1 m n=Ev x y:=by
   intro m n e1 e2;rw [e1,e2]
   rcases Un with rfl|rfl|rfl
   ·simp [Ev]
   ·unfold I1 Ev;simp only [Int.one_mul];split<;>split<;>(try split)<;>omega
   ·unfold I1 Ev;split<;>split<;>(try split)<;>(try split)<;>omega
  have HC:=ArW (@hcm x.natAbs y.natAbs a1.symm a2.symm);obtain⟨A,hA⟩:=ArV (D x.natAbs);obtain⟨B,hB⟩:=ArV (D y.natAbs);rw [←hA]at t1 c1 hcl k1 k2 QW;rw [←hB]at t2 c1 hcl k1 k2 XR
  rcases Nat.lt_trichotomy A.length B.length with hl|hl|hl
  ·have hk:=k1 hl
   have HR:Hid (Ev x y=IntKind.i64.wrap (-s)):=ArW (by
    rw [←HC.out,uP hk,Asg (-s) (by omega)];omega)
   have pj:IntKind.i64.wrap (-s) = -s:=Asg _ (by omega);have GT:((A.length:Int) != (B.length:Int))=true:=(by rw [bne_iff_ne];omega);have hR2:Hid (-s=Ev x y):=ArW (by rw [HR.out,pj]);clear a1 a2 J1 hlt2 c1 hcl k1 k2 hcb hA hB HC HR Un hcm hk l1 l2;go_enter Tryz.func144,Tryz.ntmps144;(go_wp2_with fail);(with_reducible refine(s1 _).mono ?_);rintro e w1 ⟨rfl,hx1⟩;(go_wp2_with fail);(with_reducible refine(s2 _).mono ?_);rintro e w2 ⟨rfl,hx2⟩;(go_wp2_with fail);(with_reducible refine(t1 _).mono ?_);rintro e w3 ⟨rfl,hx3⟩;(go_wp2_with fail);(with_reducible refine(t2 _).mono ?_);rintro e w4 ⟨rfl,Aj⟩;go_wp2;go_ret;exact⟨BA hR2.out.symm,((hx1.trans hx2).trans hx3).trans Aj⟩
  ·have hq:=hcl hl;have hcr:-1<=cb/\cb<=1:=by rw [hq];unfold I1;split<;>(try split)<;>omega
   have hsc:-1<=s*cb/\s*cb<=1:=by rcases Un with rfl|rfl|rfl<;>omega
   have hR2:Hid (s*cb=Ev x y):=ArW (by rw [hq];exact HC.out);have pj:IntKind.i64.wrap (s*cb)=s*cb:=Asg _ (by omega);have GT:((A.length:Int) != (B.length:Int))=false:=(by rw [hl];simp);clear a1 a2 J1 hlt2 hcl k1 k2 hcb hA hB HC Un hcm hq l1 l2 hsc;have HL:=ArW hl;clear hl;go_enter Tryz.func144,Tryz.ntmps144;(go_wp2_with fail);(with_reducible refine(s1 _).mono ?_);rintro e w1 ⟨rfl,hx1⟩;(go_wp2_with fail);(with_reducible refine(s2 _).mono ?_);rintro e w2 ⟨rfl,hx2⟩;(go_wp2_with fail);(with_reducible refine(t1 _).mono ?_);rintro e w3 ⟨rfl,hx3⟩;(go_wp2_with fail);(with_reducible refine(t2 _).mono ?_);rintro e w4 ⟨rfl,Aj⟩;(go_wp2_with fail);(with_reducible refine(c1 _).mono ?_);rintro e w5 ⟨rfl,Ax⟩;go_wp2;go_ret;exact⟨BA hR2.out.symm,(((hx1.trans hx2).trans hx3).trans Aj).trans Ax⟩
  ·have hk:=k2 hl;have hR2:Hid (s=Ev x y):=ArW (by rw [←HC.out,uO hk];omega);have GT:((A.length:Int) != (B.length:Int))=true:=(by rw [bne_iff_ne];omega);have hnl:¬A.length<B.length:=(by omega);clear a1 a2 J1 hlt2 c1 hcl k1 k2 hcb hA hB HC Un hcm hk l1 l2;go_enter Tryz.func144,Tryz.ntmps144;(go_wp2_with fail);(with_reducible refine(s1 _).mono ?_);rintro e w1 ⟨rfl,hx1⟩;(go_wp2_with fail);(with_reducible refine(s2 _).mono ?_);rintro e w2 ⟨rfl,hx2⟩;(go_wp2_with fail);(with_reducible refine(t1 _).mono ?_);rintro e w3 ⟨rfl,hx3⟩;(go_wp2_with fail);(with_reducible refine(t2 _).mono ?_);rintro e w4 ⟨rfl,Aj⟩;go_wp2;go_ret;exact⟨BA hR2.out.symm,((hx1.trans hx2).trans hx3).trans Aj⟩
 ·have HR:=ArW (bE (hlt2 h));have hne:(s != t)=true:=(by rw [bne_iff_ne];omega);have hnl:¬s<t:=(by omega);clear a1 a2 J1 hlt2 t1 t2 c1 hcl k1 k2;go_enter Tryz.func144,Tryz.ntmps144;(go_wp2_with fail);(with_reducible refine(s1 _).mono ?_);rintro e w1 ⟨rfl,hx1⟩;(go_wp2_with fail);(with_reducible refine(s2 _).mono ?_);rintro e w2 ⟨rfl,hx2⟩;go_wp2;go_ret;exact⟨BA HR.out,hx1.trans hx2⟩
/-! ### Check -/
theorem AdX(s:ByteArray):∀(k i:Nat) (r:List UInt8),s.size-i=k→r.length<=(ByteArray.toList.loop s i r).length:=by
 intro k
 induction k with
 | zero=>intro i r h;unfold ByteArray.toList.loop;rw [if_neg (by omega)];simp
 | succ k ih=>
  intro i r h;unfold ByteArray.toList.loop
  split
  ·have:=ih (i+1) (s.get! i::r) (by omega);simp only [List.length_cons]at this;omega
  ·simp
theorem aJ{s:ByteArray}(h:0<s.size):¬s.toList = []:=by
 intro e;unfold ByteArray.toList ByteArray.toList.loop at e;rw [if_pos h]at e;have:=AdX s _ 1 [s.get! 0] rfl;rw [show 0+1=1 from rfl]at e;rw [e]at this;simp at this
open Classical in
theorem AeL(t:Bs)(mn:Bool):¬Zh t mn↔t = []∨200<t.length∨(∃m,t=48::m/\(m≠[]∨mn=true))∨∃j,∃h:j<t.length,¬FN t[j]:=by
 constructor
 ·intro h;by_cases h1:t = []
  ·exact .inl h1
  ·by_cases h2:200<t.length
   ·exact .inr (.inl h2)
   ·by_cases h3:∃m,t=48::m/\(m≠[]∨mn=true)
    ·exact .inr (.inr (.inl h3))
    ·refine .inr (.inr (.inr (Classical.byContradiction fun h4=>h ⟨h1,by omega,fun m e=>?_,fun c hc=>?_⟩)))
     ·constructor
      ·exact Classical.byContradiction fun h5=>h3 ⟨m,e,.inl h5⟩
      ·cases mn
       ·rfl
       ·exact absurd ⟨m,e,.inr rfl⟩ h3
     ·obtain⟨j,hj,e⟩:=List.mem_iff_getElem.1 hc;exact Classical.byContradiction fun h5=>h4 ⟨j,hj,by rw [e];exact h5⟩
 ·rintro(h|h|⟨m,e,h⟩|⟨j,hj,h⟩) hc
  ·exact hc.ne h
  ·have:=hc.len;omega
  ·have:=hc.zero m e
   rcases h with h|h
   ·exact h this.1
   ·rw [this.2]at h;cases h
  ·exact h (hc.all _ (Asa hj))
def FS(b:Bool):Int:=if b then 0 else 2
theorem Jh:FS true=0:=rfl
theorem Ov:FS false=2:=rfl
theorem Ae6(l:Bs)(ht:Lib.trimPrefix l [45] = [])(w:World):Calls Tryz.prog 219 #[S l] w (Av 2 w):=by
 have hc:=VT l [45];rw [ht]at hc;go_enter Tryz.func219,Tryz.ntmps219;(go_wp2_with fail);(with_reducible refine(hc _).mono ?_);rintro e w1 ⟨rfl,hx1⟩;go_wp2;go_ret;exact⟨rfl,hx1⟩
theorem Ae7(l t:Bs)(ht:Lib.trimPrefix l [45]=t)(h2:200<t.length)(w:World):Calls Tryz.prog 219 #[S l] w (Av 2 w):=by
 have hc:=VT l [45];rw [ht]at hc;have hne:(t == [])=false:=(by rw [beq_eq_false_iff_ne];rintro rfl;simp at h2);have xO:(200:Int)<(t.length:Int):=(by omega);clear ht;go_enter Tryz.func219,Tryz.ntmps219;(go_wp2_with fail);(with_reducible refine(hc _).mono ?_);rintro e w1 ⟨rfl,hx1⟩;go_wp2;go_ret;exact⟨rfl,hx1⟩
theorem uF(l m:Bs)(mn:Bool)(ht:Lib.trimPrefix l [45]=48::m)(hmn:[45].isPrefixOf l=mn)(h2:(48::m).length<=200)(h3:m≠[]∨mn=true)(w:World):Calls Tryz.prog 219 #[S l] w (Av 2 w):=by
 have hc:=VT l [45];rw [ht,hmn]at hc;obtain⟨s,hs⟩:=ArV (⟨(48::m).toArray⟩:ByteArray);have hsz:s.size=m.length+1:=(by rw [hs,FQ];rfl);obtain⟨c,WX⟩:=ArV (48:UInt8);have hs0:0<s.size:=(by omega);have e0:s[0]=c:=(by rw [WX];subst hs;rw [SB];rfl);have hce:((c.toNat:Int) == 48)=true:=(by rw [WX];rfl);have hsm:(s.size:Int)<=200:=(by simp only [List.length_cons]at h2;omega);have Arn:¬(200:Int)<(s.size:Int):=(by omega);have hc:∀w,Calls Tryz.prog 277 #[S l,S [45]] w (Cy (.tuple #[.string s,.bool mn]) w):=(by rw [hs];exact hc);have hne:=aJ hs0
 rcases h3 with h3|h3
 ·have h1:(1:Int)<(s.size:Int):=(by have:=List.length_pos_iff.2 h3;omega);clear ht hmn hs hsz WX h3;go_enter Tryz.func219,Tryz.ntmps219;(go_wp2_with fail);(with_reducible refine(hc _).mono ?_);rintro e w1 ⟨rfl,hx1⟩;go_wp2;go_ret;exact⟨rfl,hx1⟩
 ·subst h3;clear ht hmn hs WX
  rcases Nat.lt_or_ge 1 s.size with h1|h1
  all_goals
   go_enter Tryz.func219,Tryz.ntmps219;(go_wp2_with fail);(with_reducible refine(hc _).mono ?_);rintro e w1 ⟨rfl,hx1⟩;go_wp2;go_ret;exact⟨rfl,hx1⟩
theorem Ae8(l t:Bs)(mn:Bool)(s:ByteArray)(hc:∀w,Calls Tryz.prog 277 #[S l,S [45]] w (Cy (.tuple #[.string s,.bool mn]) w))(KY:Hid (s.size=t.length))(hs0:0<s.size)(hsm:(s.size:Int)<=200)
  (HG:Hid (∀(j:Nat) (h:j<s.size) (h':j<t.length),s[j]=t[j])) (c:UInt8) (e0:s[0]=c) (b:Bool) (HB:Hid (b=true↔Cb t)) (hf:((c.toNat:Int) == 48)=false) (w:World):Calls Tryz.prog 219 #[S l] w (Av (FS b) w):=by
 have hne:=aJ hs0
 have GT:s.toList.isEmpty=false:=by cases h:s.toList with|nil=>exact absurd h hne|cons _ _=>rfl
 have gX:decide ((200:Int)<(s.size:Int))=false:=(by rw [decide_eq_false_iff_not];omega);go_enter Tryz.func219,Tryz.ntmps219;(go_wp2_with fail);(with_reducible refine(hc _).mono ?_);rintro e w1 ⟨rfl,hx1⟩;go_wp2;clear hc hne GT gX hf e0
 go_loop [33] (fun i=>∃j:Nat,j<=s.size/\i=.int .i64 (j:Nat)/\Cb (t.take j)) (fun i=>s.size-(intOf i).toNat)
 case atStart=>exact⟨0,by omega,rfl,by simp [sL]⟩
 case round=>
  obtain⟨j,hj,rfl,hall⟩:=hrel;by_cases hlt:j<s.size
  ·have OR:j<t.length:=(by rw [←KY.out];exact hlt);obtain⟨d,hd⟩:∃d,s[j]=d:=⟨_,rfl⟩;have L6:t[j]=d:=(by rw [←hd,HG.out j hlt OR]);have HD:=ArW L6;clear L6;by_cases Ju:FN d
   ·have d1:=Ju.1;have d2:=Ju.2;have c1:¬(d.toNat:Int)<48:=(by omega);have c2:¬(57:Int)<(d.toNat:Int):=(by omega);clear d1 d2;go_wp2
    go_round
    case rel=>exact⟨j+1,by omega,by go_num,by rw [Asd OR,HD.out];exact VD.2 ⟨hall,by intro x hx;simp only [Asn]at hx;rw [hx];exact Ju⟩⟩
    case measure=>simp [intOf];omega
   ·have H9:b=false:=by
     cases b
     ·rfl
     ·exact absurd (HB.out.1 rfl _ (Asa OR)) (by rw [HD.out];exact Ju)
    subst H9;rw [Ov];by_cases c1:(d.toNat:Int)<48
    ·go_wp2;go_ret;exact⟨rfl,hx1⟩
    ·have c2:(57:Int)<(d.toNat:Int):=by refine Classical.byContradiction fun h=>Ju ⟨by omega,by omega⟩
     go_wp2;go_ret;exact⟨rfl,hx1⟩
  ·have Gs:b=true:=HB.out.2 (by rw [Asi (by rw [←KY.out];omega)]at hall;exact hall);subst Gs;rw [Jh];have hle:(s.size:Int)<=(j:Int):=(by omega);go_wp2;go_ret;exact⟨rfl,hx1⟩
theorem Ae9(l t:Bs)(mn:Bool)(s:ByteArray)(hc:∀w,Calls Tryz.prog 277 #[S l,S [45]] w (Cy (.tuple #[.string s,.bool mn]) w))(KY:Hid (s.size=t.length))(hs0:0<s.size)(hsm:(s.size:Int)<=200)
  (HG:Hid (∀(j:Nat) (h:j<s.size) (h':j<t.length),s[j]=t[j])) (c:UInt8) (e0:s[0]=c) (b:Bool) (HB:Hid (b=true↔Cb t)) (hf:((c.toNat:Int) == 48)=true) (hs1:s.size=1) (hmn:mn=false) (w:World):Calls Tryz.prog 219 #[S l] w (Av (FS b) w):=by
 have hne:=aJ hs0
 have GT:s.toList.isEmpty=false:=by cases h:s.toList with|nil=>exact absurd h hne|cons _ _=>rfl
 have gX:decide ((200:Int)<(s.size:Int))=false:=(by rw [decide_eq_false_iff_not];omega);have h1:decide ((1:Int)<(s.size:Int))=false:=(by rw [decide_eq_false_iff_not];omega);subst hmn;clear hs1;go_enter Tryz.func219,Tryz.ntmps219;(go_wp2_with fail);(with_reducible refine(hc _).mono ?_);rintro e w1 ⟨rfl,hx1⟩;go_wp2;clear hc hne GT gX hf e0
 go_loop [33] (fun i=>∃j:Nat,j<=s.size/\i=.int .i64 (j:Nat)/\Cb (t.take j)) (fun i=>s.size-(intOf i).toNat)
 case atStart=>exact⟨0,by omega,rfl,by simp [sL]⟩
 case round=>
  obtain⟨j,hj,rfl,hall⟩:=hrel;by_cases hlt:j<s.size
  ·have OR:j<t.length:=(by rw [←KY.out];exact hlt);obtain⟨d,hd⟩:∃d,s[j]=d:=⟨_,rfl⟩;have L6:t[j]=d:=(by rw [←hd,HG.out j hlt OR]);have HD:=ArW L6;clear L6;by_cases Ju:FN d
   ·have d1:=Ju.1;have d2:=Ju.2;have c1:¬(d.toNat:Int)<48:=(by omega);have c2:¬(57:Int)<(d.toNat:Int):=(by omega);clear d1 d2;go_wp2
    go_round
    case rel=>exact⟨j+1,by omega,by go_num,by rw [Asd OR,HD.out];exact VD.2 ⟨hall,by intro x hx;simp only [Asn]at hx;rw [hx];exact Ju⟩⟩
    case measure=>simp [intOf];omega
   ·have H9:b=false:=by
     cases b
     ·rfl
     ·exact absurd (HB.out.1 rfl _ (Asa OR)) (by rw [HD.out];exact Ju)
    subst H9;rw [Ov];by_cases c1:(d.toNat:Int)<48
    ·go_wp2;go_ret;exact⟨rfl,hx1⟩
    ·have c2:(57:Int)<(d.toNat:Int):=by refine Classical.byContradiction fun h=>Ju ⟨by omega,by omega⟩
     go_wp2;go_ret;exact⟨rfl,hx1⟩
  ·have Gs:b=true:=HB.out.2 (by rw [Asi (by rw [←KY.out];omega)]at hall;exact hall);subst Gs;rw [Jh];have hle:(s.size:Int)<=(j:Int):=(by omega);go_wp2;go_ret;exact⟨rfl,hx1⟩
theorem uE(l t:Bs)(mn:Bool)(ht:Lib.trimPrefix l [45]=t)(hmn:[45].isPrefixOf l=mn)(h0:t≠[])(h2:t.length<=200)(h3:∀m,t=48::m→m = []/\mn=false)
  (b:Bool) (hb:b=true↔Cb t) (w:World):Calls Tryz.prog 219 #[S l] w (Av (FS b) w):=by
 have hc0:=VT l [45];rw [ht,hmn]at hc0;obtain⟨s,hs⟩:=ArV (⟨t.toArray⟩:ByteArray);have hsz:s.size=t.length:=(by rw [hs,FQ]);have hs0:0<s.size:=by have:=List.length_pos_iff.2 h0;omega
 have EC:∀(j:Nat) (h:j<s.size) (h':j<t.length),s[j]=t[j]:=by intro j h h';subst hs;rw [SB];simp [List.getD,h']
 have hsm:(s.size:Int)<=200:=(by omega);have hc:∀w,Calls Tryz.prog 277 #[S l,S [45]] w (Cy (.tuple #[.string s,.bool mn]) w):=(by rw [hs];exact hc0);clear hc0;by_cases h:s[0]=48
 ·match t,h0,EC,h3,hsz,hb with
  | d::m,_,EC,h3,hsz,hb=>have:=EC 0 hs0 (by simp);rw [h]at this;simp only [List.getElem_cons_zero]at this;obtain⟨hm,hf⟩:=h3 m (by rw [this]);exact Ae9 l _ mn s hc (ArW hsz) hs0 hsm (ArW EC) _ rfl b (ArW hb) (by rw [h];rfl) (by rw [hsz,hm];rfl) hf w
 ·refine Ae8 l _ mn s hc (ArW hsz) hs0 hsm (ArW EC) _ rfl b (ArW hb) ?_ w;rw [beq_eq_false_iff_ne];intro e;exact h (UInt8.toNat_inj.1 (by simp;omega))
open Classical in
theorem U0(l:Bs)(w:World):Calls Tryz.prog 219 #[S l] w (Av (if KZ l then 0 else 2) w):=by
 by_cases h:Zh (Lib.trimPrefix l [45]) ([45].isPrefixOf l)
 ·rw [if_pos ((uL l).2 h)];exact uE l _ _ rfl rfl h.ne h.len h.zero true ⟨fun _=>h.all,fun _=>rfl⟩ w
 ·rw [if_neg (fun k=>h ((uL l).1 k))];by_cases h1:Lib.trimPrefix l [45] = []
  ·exact Ae6 l h1 w
  ·by_cases h2:200<(Lib.trimPrefix l [45]).length
   ·exact Ae7 l _ rfl h2 w
   ·rcases(AeL _ _).1 h with h3|h3|⟨m,e,h3⟩|⟨j,hj,h3⟩
    ·exact absurd h3 h1
    ·exact absurd h3 h2
    ·exact uF l m _ e rfl (by rw [←e];omega) h3 w
    ·by_cases h4:∀m,Lib.trimPrefix l [45]=48::m→m = []/\[45].isPrefixOf l=false
     ·exact uE l _ _ rfl rfl h1 (by omega) h4 false (Iff.intro (fun k=>by cases k) (fun k=>absurd (k _ (Asa hj)) h3)) w
     ·obtain⟨m,e⟩:∃m,Lib.trimPrefix l [45]=48::m/\(m≠[]∨[45].isPrefixOf l=true):=by
       refine Classical.byContradiction fun k=>h4 fun m e=>?_;constructor
       ·exact Classical.byContradiction fun q=>k ⟨m,e,.inl q⟩
       ·rcases hq:[45].isPrefixOf l with _|_
        ·rfl
        ·exact absurd ⟨m,e,.inr hq⟩ k
      exact uF l m _ e.1 rfl (by rw [←e.1];omega) e.2 w
theorem Aak(n:Int)(d:Nat)(hd:0<d)(OW:-9000000000000000000<=n)(D1:n<=9000000000000000000)(GN:d<=9000000000000000000)(w:World)(hw:Al w) :
  Calls Tryz.prog 304 #[.int .i64 n,.int .i64 (d:Nat)] w (BK (R (mkRat n d)) w):=by
 obtain⟨g,hg⟩:=ArV (Nat.gcd n.natAbs d);have hg0:0<g:=(by rw [hg];exact Nat.gcd_pos_of_pos_right _ hd);obtain⟨n',hn'⟩:=ArV (n/(g:Nat):Int);obtain⟨d',CO⟩:=ArV (d/g:Nat);have hR:R (mkRat n d)=Fu n' d':=(by rw [rI n hd,←hg,←hn',←CO]);have hgn:((g:Nat):Int)∣n:=Int.natAbs_dvd_natAbs.1 (by rw [Asb,hg];exact Nat.gcd_dvd_left ..);have e1:n.tdiv (g:Int)=n':=(by rw [hn',Int.tdiv_eq_ediv_of_dvd hgn]);have e2:(d:Int)/(g:Int)=(d':Int):=(by rw [CO];simp);have b1:n'.natAbs<=n.natAbs:=(by rw [hn'];exact lR _ _ hgn);have b2:d'<=d:=(by rw [CO];exact Nat.div_le_self _ _);have hgd:g<=d:=(by rw [hg];exact Nat.gcd_le_right _ hd);have ln:(I n').length<=20:=Oj (z:=n') (k:=19) (by omega) (by omega);have ld:(D d').length<=19:=Io (by omega) (by omega);have HR:=ArW hR;have HG:=ArW hg;have H1:=ArW e1;have H2:=ArW e2;have i1:=fun W hW=>Rc n' (by omega) (by omega) W hW;have i2:=fun W hW=>Rc (d':Int) (by omega) (by omega) W hW;clear hR hg e1 e2 hn' CO hgn;go_enter Tryz.func304,Tryz.ntmps304;go_wp2
 go_loopw [5,6] (fun x y wr=>∃a b:Int,x=.int .i64 a/\y=.int .i64 b/\Int.gcd a b=g/\a.natAbs<=9000000000000000000/\b.natAbs<=9000000000000000000/\Aa w wr) (fun _ y _=>(intOf y).natAbs)
 case atStart=>exact⟨n,d,rfl,rfl,by rw [HG.out];rfl,by omega,by omega,Aa.refl _⟩
 case round=>
  obtain⟨a,b,rfl,rfl,GQ,ha,hb,Ad⟩:=hrel;by_cases hb0:b=0
  ·subst hb0;have iL:a.natAbs=g:=(by rw [←GQ];simp);by_cases LI:a<0
   case' pos=>obtain rfl:a = -(g:Int):=by omega
   case' neg=>obtain rfl:a=(g:Int):=by omega
   all_goals
    clear iL GQ;have e1:=H1.out;have e2:=H2.out;have Ny:(0:Int)<(g:Int):=(by omega);have hgz:((g:Int) == 0)=false:=(by rw [beq_eq_false_iff_ne];omega);by_cases Fe:d'=1
    ·subst Fe;have HF:Hid (R (mkRat n d)=I n'):=ArW (by rw [HR.out];rfl);(go_wp2_with fail)
     go_quiet (fail)
     (go_wp2_with fail);(with_reducible refine(i1 _ (hw.ext (Ad.drewN _))).mono ?_);rintro e w3 ⟨rfl,hx3⟩;go_wp2;go_ret;exact⟨Hh (by rw [HF.out]),(Ad.drewN _).trans hx3⟩
    ·have HF:Hid (R (mkRat n d)=I n'++47::D d'):=ArW (by rw [HR.out];exact if_neg Fe);have gi:((d':Int) == 1)=false:=(by rw [beq_eq_false_iff_ne];omega);rw [FM]at i2;clear Fe;(go_wp2_with fail)
     go_quiet (fail)
     (go_wp2_with fail);(with_reducible refine(i1 _ (hw.ext (Ad.drewN _))).mono ?_);rintro e w3 ⟨rfl,hx3⟩;have hx3:=(Ad.drewN _).trans hx3;(go_wp2_with fail);(with_reducible refine(i2 _ (hw.ext hx3)).mono ?_);rintro e w4 ⟨rfl,Aj⟩;go_wp2;go_ret;exact⟨Hh (by rw [HF.out];apply ByteArray.ext;simp),hx3.trans Aj⟩
  ·have hlt:=vt a hb0;have QL:(a.tmod b).natAbs<=9000000000000000000:=Asl (Nat.le_of_lt hlt) hb;have IB:=xH a b;have Nq:(b != 0)=true:=(by rw [bne_iff_ne];exact hb0);have Dy:(b == 0)=false:=(by rw [beq_eq_false_iff_ne];exact hb0);have M5:=ArW (IB.trans GQ);clear IB GQ;(go_wp2_with fail)
   go_quiet (fail)
   go_wp2;go_roundw
   case rel=>exact⟨b,a.tmod b,rfl,rfl,M5.out,hb,QL,Ad.drewN _⟩
   case measure=>exact hlt
theorem tK(l:Bs)(j:Nat)(h:j<(⟨l.toArray⟩:ByteArray).size):(⟨l.toArray⟩:ByteArray)[j]=l[j]'(by rw [FQ]at h;exact h):=by
 rw [ByteArray.getElem_eq_getElem_data];simp
attribute [local go_sem] tK
def AI(q:Rat):Int:=if q=0 then 0 else if q<0 then -1 else 1
theorem AaA{q:Rat}(h:q<0):AI q = -1:=by unfold AI;rw [if_neg (by rintro rfl;exact Rat.lt_irrefl h),if_pos h]
theorem nU{q:Rat}(h:0<q):AI q=1:=by
 unfold AI;rw [if_neg (by rintro rfl;exact Rat.lt_irrefl h),if_neg (by grind)]
theorem Ho{q:Rat}(h:q≠0):(R q == [48])=false:=by rw [beq_eq_false_iff_ne];exact fun e=>h (rG.1 e)
theorem ZO{q:Rat}(h:q≠1):(R q == [49])=false:=by rw [beq_eq_false_iff_ne];exact fun e=>h (Adn.1 e)
theorem MF{k:Nat}{q:Rat}(hk:0<k)(h:Sz k q):(R q).length<=2*k+2:=by
 have h1:=Oj hk h.num;have h2:=Io hk h.den;rw [Lb];unfold Fu
 split
 ·omega
 ·rw [List.length_append,List.length_cons];omega
theorem Pv(q:Rat)(w:World):Calls Tryz.prog 75 #[S (R q)] w (Av (AI q) w):=by
 by_cases h0:q=0
 ·subst h0;rw [Ka];go_enter Tryz.func75,Tryz.ntmps75;go_wp2;go_ret;exact⟨rfl,Aa.refl _⟩
 ·have h1:=Ho h0
  rcases ZN q with⟨hn,e⟩|⟨hp,c,l,e,hd,hc⟩
  ·have HS:=ArW (AaA hn);obtain⟨c,hc⟩:=ArV (45:UInt8);have hl:0<(R q).length:=(by rw [e];simp);have hg:(R q)[0]'hl=c:=(by rw [List.getElem_of_eq e hl,hc];rfl);have hcb:((c.toNat:Int) == 45)=true:=(by rw [hc];rfl);clear e hc hn;go_enter Tryz.func75,Tryz.ntmps75;go_wp2;go_ret;exact⟨BA HS.out,Aa.refl _⟩
  ·have HS:=ArW (nU (q:=q) (by grind));have hl:0<(R q).length:=(by rw [e];simp);have hg:(R q)[0]'hl=c:=(by rw [List.getElem_of_eq e hl];rfl);have hcb:((c.toNat:Int) == 45)=false:=(by rw [beq_eq_false_iff_ne];intro k;exact hc (UInt8.toNat_inj.1 (by simp;omega)));clear e hc hp hd;go_enter Tryz.func75,Tryz.ntmps75;go_wp2;go_ret;exact⟨BA HS.out,Aa.refl _⟩
theorem AmP(q:Rat){k:Nat}(hk:0<k)(hk2:k<=100000)(hz:Sz k q)(w:World):Calls Tryz.prog 303 #[S (R q)] w (BK (R (-q)) w):=by
 have hlen:=MF hk hz;by_cases h0:q=0
 ·subst h0;rw [Rat.neg_zero,Ka];go_enter Tryz.func303,Tryz.ntmps303;go_wp2;go_ret;exact⟨rfl,Aa.refl _⟩
 ·have h1:=Ho h0
  rcases ZN q with⟨hn,e⟩|⟨hp,c,l,e,hd,hc⟩
  ·obtain⟨c,hc⟩:=ArV (45:UInt8);have hl:0<(R q).length:=(by rw [e];simp);have hg:(R q)[0]'hl=c:=(by rw [List.getElem_of_eq e hl,hc];rfl);have hcb:((c.toNat:Int) == 45)=true:=(by rw [hc];rfl);have HD:Hid ((R q).drop 1=R (-q)):=ArW (by rw [e];rfl);have Fe:(1:Int)<=((R q).length:Int):=(by omega);clear e hc hn;go_enter Tryz.func303,Tryz.ntmps303;go_wp2;go_ret;exact⟨Hh (by rw [←HD.out];first|exact wQ _ _|(rw [VX];simp)),Aa.refl _⟩
  ·have HD:Hid (R (-q)=45::R q):=ArW (by
    have:=rJ (q:=-q) (by grind)
    rw [this,Rat.neg_neg])
   have hl:0<(R q).length:=(by rw [e];simp);have hg:(R q)[0]'hl=c:=(by rw [List.getElem_of_eq e hl];rfl);have hcb:((c.toNat:Int) == 45)=false:=(by rw [beq_eq_false_iff_ne];intro k;exact hc (UInt8.toNat_inj.1 (by simp;omega)));clear e hc hp hd;go_enter Tryz.func303,Tryz.ntmps303;go_wp2;go_ret;exact⟨Hh (by rw [HD.out];apply ByteArray.ext;simp),Aa.refl _⟩
theorem AmL(n:Int)(d:Nat)(hn:BJ n)(hd:d<Big)(w:World):Calls Tryz.prog 302 #[S (I n),S (D d)] w (BK (Fu n d) w):=by
 have ln:=hn.len;have ld:(D d).length<=4000:=Io (k:=aL) (by decide) hd;by_cases h:d=1
 ·subst h;have HF:Hid (Fu n 1=I n):=ArW (if_pos rfl);rw [UZ];go_enter Tryz.func302,Tryz.ntmps302;go_wp2;go_ret;exact⟨Hh (by rw [HF.out]),Aa.refl _⟩
 ·have HF:Hid (Fu n d=I n++47::D d):=ArW (if_neg h);have hb:(D d == [49])=false:=(by rw [beq_eq_false_iff_ne,←UZ];exact fun e=>h (UX e));clear h;go_enter Tryz.func302,Tryz.ntmps302;go_wp2;go_ret;exact⟨Hh (by rw [HF.out];apply ByteArray.ext;simp),Aa.refl _⟩
def Rr(q:Rat):Value:=.tuple #[S (I q.num),S (D q.den)]
theorem Aaj(q:Rat){k:Nat}(hk:0<k)(hk2:k<=100000)(hz:Sz k q)(w:World)(hw:Al w):Calls Tryz.prog 143 #[S (R q)] w (Cy (Rr q) w):=by
 have hlen:=MF hk hz;have hc:=cut_c (R q) [47] w hw (by omega);rw [Vw]at hc;by_cases h:q.den=1
 ·rw [if_pos h]at hc;have HP:Hid (Rr q=.tuple #[S (I q.num),S [49]]):=ArW (by unfold Rr;rw [h,UZ]);clear h;go_enter Tryz.func143,Tryz.ntmps143;(go_wp2_with fail);(with_reducible refine hc.mono ?_);rintro e w1 ⟨rfl,hx1⟩;go_wp2;go_ret2;exact⟨IQ HP.out,hx1⟩
 ·rw [if_neg h]at hc;have HP:Hid (Rr q=.tuple #[S (I q.num),S (D q.den)]):=ArW rfl;clear h;go_enter Tryz.func143,Tryz.ntmps143;(go_wp2_with fail);(with_reducible refine hc.mono ?_);rintro e w1 ⟨rfl,hx1⟩;go_wp2;go_ret2;exact⟨IQ HP.out,hx1⟩
end Go.Proofs.YtbejphgbbpplbaaGreatDoor
namespace Go.Proofs.YtbejphgbbpplbaaGreatDoor
open Go.RowKit Kl
theorem Aai(n m:Int)(hm:0<m)(hn:BJ n)(hd:BJ m)(w:World):Calls Tryz.prog 302 #[S (I n),S (I m)] w (BK (Fu n m.toNat) w):=by
 obtain⟨d,rfl⟩:=Int.eq_ofNat_of_zero_le (Int.le_of_lt hm);rw [FM];exact AmL n d hn hd w
theorem Ajw(x y:Int)(hx:(I x).length<=18)(hy:(I y).length<=18)(w:World)(hw:Al w):Calls Tryz.prog 220 #[S (I x),S (I y)] w (BK (I (Int.gcd x y:Nat)) w):=by
 rw [FM];exact Ajx x y hx hy w hw
theorem BJ.of{z:Int}{k:Nat}(h:z.natAbs<10^k)(hk:k<=4000):BJ z:=Asj h (Nat.pow_le_pow_right (by omega) hk)
theorem AmQ(q:Rat){k:Nat}(hk:0<k)(hk2:k<=100000)(hz:Sz k q)(w:World)(hw:Al w):Calls Tryz.prog 143 #[S (R q)] w (Cy (.tuple #[S (I q.num),S (I (q.den:Int))]) w):=by
 have h:=Aaj q hk hk2 hz w hw;unfold Rr at h;rw [FM];exact h
structure Rm(a b:Nat)(p q:Rat):Prop where
 p:Sz a p
 q:Sz b q
 a0:0<a
 b0:0<b
 le:a<=9/\b<=9
section
variable {a b : Nat} {p q : Rat}
theorem Rm.lp(h:Rm a b p q):(R p).length<=100000:=by have:=MF h.a0 h.p;have:=h.le;omega
theorem Rm.lq(h:Rm a b p q):(R q).length<=100000:=by have:=MF h.b0 h.q;have:=h.le;omega
theorem Rm.bn(h:Rm a b p q):BJ p.num:=BJ.of h.p.num (by have:=h.le;omega)
theorem Rm.bd(h:Rm a b p q):BJ (p.den:Int):=BJ.of (k:=a) (by rw [Asb];exact h.p.den) (by have:=h.le;omega)
theorem Rm.bm(h:Rm a b p q):BJ q.num:=BJ.of h.q.num (by have:=h.le;omega)
theorem Rm.be(h:Rm a b p q):BJ (q.den:Int):=BJ.of (k:=b) (by rw [Asb];exact h.q.den) (by have:=h.le;omega)
theorem Rm.ne'(h:Rm a b p q):(p.num*(q.den:Int)).natAbs<10^(a+b):=by rw [Int.natAbs_mul,Asb];exact NH h.p.num h.q.den
theorem Rm.md'(h:Rm a b p q):(q.num*(p.den:Int)).natAbs<10^(a+b):=by rw [Int.natAbs_mul,Asb,Nat.add_comm];exact NH h.q.num h.p.den
theorem Rm.ne(h:Rm a b p q):BJ (p.num*(q.den:Int)):=BJ.of h.ne' (by have:=h.le;omega)
theorem Rm.md(h:Rm a b p q):BJ (q.num*(p.den:Int)):=BJ.of h.md' (by have:=h.le;omega)
theorem Rm.nm(h:Rm a b p q):BJ (p.num*q.num):=BJ.of (k:=a+b) (by rw [Int.natAbs_mul];exact NH h.p.num h.q.num) (by have:=h.le;omega)
theorem Rm.sum(h:Rm a b p q):BJ (p.num*(q.den:Int)+q.num*(p.den:Int)):=BJ.of (k:=a+b+1) (Nat.lt_of_le_of_lt (Int.natAbs_add_le _ _) (rZ h.ne' h.md')) (by have:=h.le;omega)
end
def GA(q:Rat):Prop:=(D q.num.natAbs).length<=9/\(D q.den).length<=9
theorem Abm{k:Nat}{q:Rat}(h:Sz k q)(hk:k<=9):GA q:=⟨Io (by omega) (h.mono hk).num,Io (by omega) (h.mono hk).den⟩
theorem Rm.s1{a b:Nat}{p q:Rat}(h:Rm a b p q):GA p:=Abm h.p h.le.1
theorem Rm.s2{a b:Nat}{p q:Rat}(h:Rm a b p q):GA q:=Abm h.q h.le.2
theorem Rw{q:Rat}(h:GA q):UH q=.tuple #[.int .i64 q.num,.int .i64 q.den,.bool true]:=if_pos h
theorem GA.num{q:Rat}(h:GA q):q.num.natAbs<1000000000:=K1 (k:=9) h.1
theorem GA.den{q:Rat}(h:GA q):q.den<1000000000:=K1 (k:=9) h.2
theorem Ry(q:Rat)(hl:(R q).length<=100000)(w:World):Calls Tryz.prog 142 #[S (R q)] w (fun e w'=>e=.returned (UH q)/\w=w'):=AmR q hl w
theorem SA{x y:Int}(hx:x.natAbs<1000000000)(hy:y.natAbs<1000000000):(x*y).natAbs<=999999998000000001:=by
 rw [Int.natAbs_mul];exact lM hx hy
theorem AmE(p q:Rat){a b:Nat}(hr:Rm a b p q)(Dn:p≠0)(AW:q≠0)(h1:GA p)(h2:GA q)(w:World)(hw:Al w):Calls Tryz.prog 270 #[S (R p),S (R q)] w (BK (R (p+q)) w):=by
 have q1:=Ry p hr.lp;have q2:=Ry q hr.lq;rw [Rw h1]at q1;rw [Rw h2]at q2;have n1:=Ho Dn;have n2:=Ho AW;clear Dn AW;have w1:=P6 (x:=p.num) (y:=(q.den:Int)) h1.num (by rw [Asb];exact h2.den);have w2:=P6 (x:=q.num) (y:=(p.den:Int)) h2.num (by rw [Asb];exact h1.den);have w3:=P6 (x:=(p.den:Int)) (y:=(q.den:Int)) (by rw [Asb];exact h1.den) (by rw [Asb];exact h2.den);have b1:=SA (x:=p.num) (y:=(q.den:Int)) h1.num (by rw [Asb];exact h2.den);have b2:=SA (x:=q.num) (y:=(p.den:Int)) h2.num (by rw [Asb];exact h1.den);have b3:=SA (x:=(p.den:Int)) (y:=(q.den:Int)) (by rw [Asb];exact h1.den) (by rw [Asb];exact h2.den);have w4:IntKind.i64.wrap (p.num*(q.den:Int)+q.num*(p.den:Int))=p.num*(q.den:Int)+q.num*(p.den:Int):=Asg _ (by omega);have sm:=Aak (p.num*(q.den:Int)+q.num*(p.den:Int)) (p.den*q.den) (Nat.mul_pos p.den_pos q.den_pos) (by omega) (by omega) (by rw [←Int.natCast_mul,Asb]at b3;omega);rw [Int.natCast_mul,←Rat.add_def']at sm;clear b1 b2 b3;have hx:=Aa.refl w;clear h1 h2 hr;go_enter Tryz.func270,Tryz.ntmps270;(go_wp2_with fail);(with_reducible refine(q1 _).mono ?_);rintro e w1 ⟨rfl,rfl⟩;(go_wp2_with fail);(with_reducible refine(q2 _).mono ?_);rintro e w2 ⟨rfl,rfl⟩;(go_wp2_with fail);(with_reducible refine(sm _ hw).mono ?_);rintro e w3 ⟨rfl,hx3⟩;go_wp2;go_ret;exact⟨rfl,hx3⟩
theorem YB(p q:Rat){a b:Nat}(hr:Rm a b p q)(w:World)(hw:Al w):Calls Tryz.prog 270 #[S (R p),S (R q)] w (BK (R (p+q)) w):=by
 by_cases Dn:p=0
 ·subst Dn;rw [Rat.zero_add,Ka];clear hr;go_enter Tryz.func270,Tryz.ntmps270;go_wp2;go_ret;exact⟨rfl,Aa.refl _⟩
 ·by_cases AW:q=0
  ·subst AW;rw [Rat.add_zero,Ka];have n1:=Ho Dn;clear hr Dn;go_enter Tryz.func270,Tryz.ntmps270;go_wp2;go_ret;exact⟨rfl,Aa.refl _⟩
  ·exact AmE p q hr Dn AW hr.s1 hr.s2 w hw
theorem AmO(p q:Rat){a b:Nat}(hr:Rm a b p q)(Dn:p≠0)(AW:q≠0)(ED:p≠1)(Bg:q≠1)(h1:GA p)(h2:GA q)(w:World)(hw:Al w):Calls Tryz.prog 256 #[S (R p),S (R q)] w (BK (R (p*q)) w):=by
 have q1:=Ry p hr.lp;have q2:=Ry q hr.lq;rw [Rw h1]at q1;rw [Rw h2]at q2;have n1:=Ho Dn;have n2:=Ho AW;have n3:=ZO ED;have n4:=ZO Bg;clear Dn AW ED Bg;have w1:=P6 (x:=p.num) (y:=q.num) h1.num h2.num;have w3:=P6 (x:=(p.den:Int)) (y:=(q.den:Int)) (by rw [Asb];exact h1.den) (by rw [Asb];exact h2.den);have b1:=SA (x:=p.num) (y:=q.num) h1.num h2.num;have b3:=SA (x:=(p.den:Int)) (y:=(q.den:Int)) (by rw [Asb];exact h1.den) (by rw [Asb];exact h2.den);have sm:=Aak (p.num*q.num) (p.den*q.den) (Nat.mul_pos p.den_pos q.den_pos) (by omega) (by omega) (by rw [←Int.natCast_mul,Asb]at b3;omega);rw [Int.natCast_mul,←Rat.mul_def']at sm;clear b1 b3;have hx:=Aa.refl w;clear h1 h2 hr;go_enter Tryz.func256,Tryz.ntmps256;(go_wp2_with fail);(with_reducible refine(q1 _).mono ?_);rintro e w1 ⟨rfl,rfl⟩;(go_wp2_with fail);(with_reducible refine(q2 _).mono ?_);rintro e w2 ⟨rfl,rfl⟩;(go_wp2_with fail);(with_reducible refine(sm _ hw).mono ?_);rintro e w3 ⟨rfl,hx3⟩;go_wp2;go_ret;exact⟨rfl,hx3⟩
theorem Mh(p q:Rat){a b:Nat}(hr:Rm a b p q)(w:World)(hw:Al w):Calls Tryz.prog 256 #[S (R p),S (R q)] w (BK (R (p*q)) w):=by
 by_cases Dn:p=0
 ·subst Dn;rw [Rat.zero_mul,Ka];clear hr;go_enter Tryz.func256,Tryz.ntmps256;go_wp2;go_ret;exact⟨rfl,Aa.refl _⟩
 by_cases AW:q=0
 ·subst AW;rw [Rat.mul_zero,Ka];have n1:=Ho Dn;clear hr Dn;go_enter Tryz.func256,Tryz.ntmps256;go_wp2;go_ret;exact⟨rfl,Aa.refl _⟩
 by_cases ED:p=1
 ·subst ED;rw [Rat.one_mul,Vy];have n1:=Ho AW;clear hr AW Dn;go_enter Tryz.func256,Tryz.ntmps256;go_wp2;go_ret;exact⟨rfl,Aa.refl _⟩
 by_cases Bg:q=1
 ·subst Bg;rw [Rat.mul_one,Vy];have n1:=Ho Dn;have n2:=ZO ED;clear hr AW Dn ED;go_enter Tryz.func256,Tryz.ntmps256;go_wp2;go_ret;exact⟨rfl,Aa.refl _⟩
 exact AmO p q hr Dn AW ED Bg hr.s1 hr.s2 w hw
def AH(p q:Rat):Int:=if p<q then -1 else if p=q then 0 else 1
theorem uR{p q:Rat}(h:p<q):AH p q = -1:=if_pos h
theorem aZ{p q:Rat}(h:p=q):AH p q=0:=by unfold AH;rw [if_neg (by rw [h];exact Rat.lt_irrefl),if_pos h]
theorem uQ{p q:Rat}(h:q<p):AH p q=1:=by
 unfold AH;rw [if_neg (by grind),if_neg (by rintro rfl;exact Rat.lt_irrefl h)]
theorem AeR(p q:Rat):Ev (p.num*(q.den:Int)) (q.num*(p.den:Int))=AH p q:=by
 unfold Ev AH;by_cases h:p<q
 ·rw [if_pos (Rat.lt_iff _ _ |>.1 h),if_pos h]
 ·rw [if_neg (fun k=>h (Rat.lt_iff _ _ |>.2 k)),if_neg h];by_cases e:p=q
  ·rw [if_pos (Rat.eq_iff_mul_eq_mul.1 e),if_pos e]
  ·rw [if_neg (fun k=>e (Rat.eq_iff_mul_eq_mul.2 k)),if_neg e]
theorem AmJ(p q:Rat){a b:Nat}(hr:Rm a b p q)(hne:p≠q)(h1:GA p)(h2:GA q)(w:World):Calls Tryz.prog 76 #[S (R p),S (R q)] w (Av (AH p q) w):=by
 have q1:=Ry p hr.lp;have q2:=Ry q hr.lq;rw [Rw h1]at q1;rw [Rw h2]at q2;have n1:(R p == R q)=false:=(by rw [beq_eq_false_iff_ne];exact fun e=>hne (Sx e));have w1:=P6 (x:=p.num) (y:=(q.den:Int)) h1.num (by rw [Asb];exact h2.den);have w2:=P6 (x:=q.num) (y:=(p.den:Int)) h2.num (by rw [Asb];exact h1.den);have hc:=AeR p q;obtain⟨x,hx⟩:=ArV (p.num*(q.den:Int));obtain⟨y,hy⟩:=ArV (q.num*(p.den:Int));rw [←hx]at w1 hc;rw [←hy]at w2 hc;rw [hx]at w1;rw [hy]at w2;have w1':IntKind.i64.wrap (p.num*(q.den:Int))=x:=(by rw [hx];exact w1);have w2':IntKind.i64.wrap (q.num*(p.den:Int))=y:=(by rw [hy];exact w2);have HC:=ArW hc;clear h1 h2 hr hne w1 w2 hx hy hc
 rcases Int.lt_trichotomy x y with h|h|h
 ·have HR:=ArW (uT h);go_enter Tryz.func76,Tryz.ntmps76;(go_wp2_with fail);(with_reducible refine(q1 _).mono ?_);rintro e w1 ⟨rfl,rfl⟩;(go_wp2_with fail);(with_reducible refine(q2 _).mono ?_);rintro e w2 ⟨rfl,rfl⟩;go_wp2;go_ret;exact⟨BA (by rw [←HC.out,HR.out]),Aa.refl _⟩
 ·have HR:=ArW (AeU h);have h1:¬x<y:=(by omega);have h2:¬y<x:=(by omega);clear h;go_enter Tryz.func76,Tryz.ntmps76;(go_wp2_with fail);(with_reducible refine(q1 _).mono ?_);rintro e w1 ⟨rfl,rfl⟩;(go_wp2_with fail);(with_reducible refine(q2 _).mono ?_);rintro e w2 ⟨rfl,rfl⟩;go_wp2;go_ret;exact⟨BA (by rw [←HC.out,HR.out]),Aa.refl _⟩
 ·have HR:=ArW (bE h);have h1:¬x<y:=(by omega);go_enter Tryz.func76,Tryz.ntmps76;(go_wp2_with fail);(with_reducible refine(q1 _).mono ?_);rintro e w1 ⟨rfl,rfl⟩;(go_wp2_with fail);(with_reducible refine(q2 _).mono ?_);rintro e w2 ⟨rfl,rfl⟩;go_wp2;go_ret;exact⟨BA (by rw [←HC.out,HR.out]),Aa.refl _⟩
theorem FB(p q:Rat){a b:Nat}(hr:Rm a b p q)(w:World)(_:Al w):Calls Tryz.prog 76 #[S (R p),S (R q)] w (Av (AH p q) w):=by
 by_cases XH:p=q
 ·subst XH;have HR:=ArW (aZ (rfl:p=p));have n1:(R p == R p)=true:=(by simp);clear hr;go_enter Tryz.func76,Tryz.ntmps76;go_wp2;go_ret;exact⟨BA HR.out,Aa.refl _⟩
 exact AmJ p q hr XH hr.s1 hr.s2 w
theorem Rm.swap{a b:Nat}{p q:Rat}(h:Rm a b p q):Rm b a q p:=⟨h.q,h.p,h.b0,h.a0,by have:=h.le;omega⟩
theorem AmM(p q:Rat){a b:Nat}(hr:Rm a b p q)(w:World)(hw:Al w):Calls Tryz.prog 327 #[S (R p),S (R q)] w (BK (R (IH p q)) w):=by
 have hc:=FB q p hr.swap w hw;clear hr;by_cases h:p<q
 ·have HM:Hid (IH p q=q):=ArW (if_pos h);rw [uQ h]at hc;go_enter Tryz.func327,Tryz.ntmps327;(go_wp2_with fail);(with_reducible refine hc.mono ?_);rintro e w1 ⟨rfl,hx⟩;go_wp2;go_ret;exact⟨Hh (by rw [HM.out]),hx⟩
 ·have HM:Hid (IH p q=p):=ArW (if_neg h)
  obtain⟨s,hs,hs0⟩:∃s:Int,s=AH q p/\¬s>0:=by
   by_cases e:q=p
   ·exact⟨_,rfl,by rw [aZ e];omega⟩
   ·exact⟨_,rfl,by rw [uR (by grind)];omega⟩
  rw [←hs]at hc;clear hs h;go_enter Tryz.func327,Tryz.ntmps327;(go_wp2_with fail);(with_reducible refine hc.mono ?_);rintro e w1 ⟨rfl,hx⟩;go_wp2;go_ret;exact⟨Hh (by rw [HM.out]),hx⟩
theorem AmN(p q:Rat){a b:Nat}(hr:Rm a b p q)(w:World)(hw:Al w):Calls Tryz.prog 326 #[S (R p),S (R q)] w (BK (R (II p q)) w):=by
 have hc:=FB q p hr.swap w hw;clear hr;by_cases h:q<p
 ·have HM:Hid (II p q=q):=ArW (if_pos h);rw [uR h]at hc;go_enter Tryz.func326,Tryz.ntmps326;(go_wp2_with fail);(with_reducible refine hc.mono ?_);rintro e w1 ⟨rfl,hx⟩;go_wp2;go_ret;exact⟨Hh (by rw [HM.out]),hx⟩
 ·have HM:Hid (II p q=p):=ArW (if_neg h)
  obtain⟨s,hs,hs0⟩:∃s:Int,s=AH q p/\¬s<0:=by
   by_cases e:q=p
   ·exact⟨_,rfl,by rw [aZ e];omega⟩
   ·exact⟨_,rfl,by rw [uQ (by grind)];omega⟩
  rw [←hs]at hc;clear hs h;go_enter Tryz.func326,Tryz.ntmps326;(go_wp2_with fail);(with_reducible refine hc.mono ?_);rintro e w1 ⟨rfl,hx⟩;go_wp2;go_ret;exact⟨Hh (by rw [HM.out]),hx⟩
theorem EK(p q:Rat){a b:Nat}(hr:Rm a b p q)(w:World)(hw:Al w):Calls Tryz.prog 254 #[S (R p),S (R q)] w (BK (R (p-q)) w):=by
 have hn:=AmP q hr.b0 (by have:=hr.le;omega) hr.q;have ha:=YB p (-q) (a:=a) (b:=b) ⟨hr.p,hr.q.neg,hr.a0,hr.b0,hr.le⟩;rw [←Rat.sub_eq_add_neg]at ha;clear hr;go_enter Tryz.func254,Tryz.ntmps254;(go_wp2_with fail);(with_reducible refine(hn _).mono ?_);rintro e w1 ⟨rfl,hx1⟩;(go_wp2_with fail);(with_reducible refine(ha _ (hw.ext hx1)).mono ?_);rintro e w2 ⟨rfl,hx2⟩;go_wp2;go_ret;exact⟨rfl,hx1.trans hx2⟩
theorem Aal(n:Int)(h0:-9223372036854775808<=n)(h1:n<=9223372036854775807)(w:World)(hw:Al w):Calls Tryz.prog 268 #[.int .i64 n] w (BK (R (n:Rat)) w):=by
 have ho:=ql n h0 h1 w hw;rw [rH];clear h0 h1;go_enter Tryz.func268,Tryz.ntmps268;(go_wp2_with fail);(with_reducible refine ho.mono ?_);rintro e w1 ⟨rfl,hx1⟩;go_wp2;go_ret;exact⟨rfl,hx1⟩
theorem Adq{q:Rat}(h:0<q):R q⁻¹=Fu (q.den:Int) q.num.toNat:=by
 have hn:0<q.num:=xf.2 h;rw [Lb,Rat.num_inv,Rat.den_inv,if_neg (by omega),Int.sign_eq_one_of_pos hn,Int.one_mul,show q.num.natAbs=q.num.toNat by omega]
theorem Adp{q:Rat}(h:q<0):R q⁻¹=Fu (-(q.den:Int)) (-q.num).toNat:=by
 have hn:q.num<0:=JA.2 h;rw [Lb,Rat.num_inv,Rat.den_inv,if_neg (by omega),Int.sign_eq_neg_one_of_neg hn,Int.neg_one_mul,show q.num.natAbs=(-q.num).toNat by omega]
theorem BJ.neg{z:Int}(h:BJ z):BJ (-z):=by unfold BJ at h ⊢;rw [Int.natAbs_neg];exact h
def YD(q:Rat):Value:=.tuple #[S (R q),.int .i64 0]
attribute [local go_sem] tK
theorem AmK(p q:Rat)(AW:q≠0){a b:Nat}(hr:Rm a b p q)(w:World)(hw:Al w):Calls Tryz.prog 253 #[S (R p),S (R q)] w (Cy (YD (p/q)) w):=by
 have n1:=Ho AW;have pb:=AmQ q hr.b0 (by have:=hr.le;omega) hr.q;have hm:=Mh p q⁻¹ (a:=a) (b:=b) ⟨hr.p,hr.q.inv hr.b0,hr.a0,hr.b0,hr.le⟩;rw [←Rat.div_def]at hm
 rcases ZN q with⟨hn,e⟩|⟨hp,c,l,e,hd,hc⟩
 ·rw [Adp hn]at hm;have lS:=qj q.num hr.bm;have lT:=qj (q.den:Int) hr.be;have hj:=Aai (-(q.den:Int)) (-q.num) (by have:=JA.2 hn;omega) hr.be.neg hr.bm.neg;obtain⟨c,hc⟩:=ArV (45:UInt8);have hl:0<(R q).length:=(by rw [e];simp);have hg:(R q)[0]'hl=c:=(by rw [List.getElem_of_eq e hl,hc];rfl);have hcb:((c.toNat:Int) == 45)=true:=(by rw [hc];rfl);clear e hc hn hr AW;unfold YD;go_enter Tryz.func253,Tryz.ntmps253;(go_wp2_with fail);(with_reducible refine(pb _ hw).mono ?_);rintro e w1 ⟨rfl,hx⟩;(go_wp2_with fail);(with_reducible refine(lS _).mono ?_);rintro e w2 ⟨rfl,hx2⟩;replace hx:=hx.trans hx2;(go_wp2_with fail);(with_reducible refine(lT _).mono ?_);rintro e w3 ⟨rfl,hx3⟩;replace hx:=hx.trans hx3;(go_wp2_with fail);(with_reducible refine(hj _).mono ?_);rintro e w4 ⟨rfl,Aj⟩;replace hx:=hx.trans Aj;(go_wp2_with fail);(with_reducible refine(hm _ (hw.ext hx)).mono ?_);rintro e w5 ⟨rfl,Ax⟩;replace hx:=hx.trans Ax;go_wp2;go_ret2;exact⟨rfl,hx⟩
 ·have hp:0<q:=(by grind);rw [Adq hp]at hm;have hj:=Aai (q.den:Int) q.num (xf.2 hp) hr.be hr.bm;have hl:0<(R q).length:=(by rw [e];simp);have hg:(R q)[0]'hl=c:=(by rw [List.getElem_of_eq e hl];rfl);have hcb:((c.toNat:Int) == 45)=false:=(by rw [beq_eq_false_iff_ne];intro k;exact hc (UInt8.toNat_inj.1 (by simp;omega)));clear e hc hp hd hr AW;unfold YD;go_enter Tryz.func253,Tryz.ntmps253;(go_wp2_with fail);(with_reducible refine(pb _ hw).mono ?_);rintro e w1 ⟨rfl,hx⟩;(go_wp2_with fail);(with_reducible refine(hj _).mono ?_);rintro e w4 ⟨rfl,Aj⟩;replace hx:=hx.trans Aj;(go_wp2_with fail);(with_reducible refine(hm _ (hw.ext hx)).mono ?_);rintro e w5 ⟨rfl,Ax⟩;replace hx:=hx.trans Ax;go_wp2;go_ret2;exact⟨rfl,hx⟩
end Go.Proofs.YtbejphgbbpplbaaGreatDoor
namespace Go.Proofs.YtbejphgbbpplbaaGreatDoor
open Go.RowKit Kl
theorem BJ.of_len{z:Int}{k:Nat}(h:(D z.natAbs).length<=k)(hk:k<=4000):BJ z:=BJ.of (K1 h) hk
section
variable {l n d : Bs}
theorem AmI(hl:l.length<100000)(hn:(47:UInt8)∉l)(b:Bool)(hb:∀W,Calls Tryz.prog 219 #[S l] W (Av (FS b) W))(w:World)(hw:Al w) :
  Calls Tryz.prog 140 #[S l] w (Av (FS b) w):=by
 have hc:=cut_c l [47] w hw (by omega);rw [bK hn]at hc
 cases b
 ·rw [Ov]at hb ⊢;go_enter Tryz.func140,Tryz.ntmps140;(go_wp2_with fail);(with_reducible refine hc.mono ?_);rintro e w1 ⟨rfl,hx⟩;(go_wp2_with fail);(with_reducible refine(hb _).mono ?_);rintro e w2 ⟨rfl,hx2⟩;go_wp2;go_ret;exact⟨rfl,hx.trans hx2⟩
 ·rw [Jh]at hb ⊢;go_enter Tryz.func140,Tryz.ntmps140;(go_wp2_with fail);(with_reducible refine hc.mono ?_);rintro e w1 ⟨rfl,hx⟩;(go_wp2_with fail);(with_reducible refine(hb _).mono ?_);rintro e w2 ⟨rfl,hx2⟩;go_wp2;go_ret;exact⟨rfl,hx.trans hx2⟩
theorem AmH(hl:(n++47::d).length<100000)(hn:(47:UInt8)∉n)(hb:∀W,Calls Tryz.prog 219 #[S n] W (Av 2 W))(w:World)(hw:Al w) :
  Calls Tryz.prog 140 #[S (n++47::d)] w (Av 2 w):=by
 have hc:=cut_c (n++47::d) [47] w hw (by omega);rw [Qd hn]at hc;go_enter Tryz.func140,Tryz.ntmps140;(go_wp2_with fail);(with_reducible refine hc.mono ?_);rintro e w1 ⟨rfl,hx⟩;(go_wp2_with fail);(with_reducible refine(hb _).mono ?_);rintro e w2 ⟨rfl,hx2⟩;go_wp2;go_ret;exact⟨rfl,hx.trans hx2⟩
theorem AmG(hl:(n++47::d).length<100000)(hn:(47:UInt8)∉n)(ha:∀W,Calls Tryz.prog 219 #[S n] W (Av 0 W))(hb:∀W,Calls Tryz.prog 219 #[S d] W (Av 2 W))(w:World)(hw:Al w) :
  Calls Tryz.prog 140 #[S (n++47::d)] w (Av 2 w):=by
 have hc:=cut_c (n++47::d) [47] w hw (by omega);rw [Qd hn]at hc;go_enter Tryz.func140,Tryz.ntmps140;(go_wp2_with fail);(with_reducible refine hc.mono ?_);rintro e w1 ⟨rfl,hx⟩;(go_wp2_with fail);(with_reducible refine(ha _).mono ?_);rintro e w2 ⟨rfl,hx2⟩;replace hx:=hx.trans hx2;(go_wp2_with fail);(with_reducible refine(hb _).mono ?_);rintro e w3 ⟨rfl,hx3⟩;replace hx:=hx.trans hx3;go_wp2;go_ret;exact⟨rfl,hx⟩
end
theorem qY{z:Int}(h:(D z.natAbs).length<=17):(I z).length<=18:=by
 rcases Ei z with⟨n,rfl,e⟩|⟨n,hn,rfl,e⟩
 ·rw [e];simp only [Asb]at h;omega
 ·rw [e,List.length_cons];simp only [Int.natAbs_neg,Asb]at h;omega
theorem Zj(z:Int):(D z.natAbs).length<=(I z).length:=by
 rcases Ei z with⟨n,rfl,e⟩|⟨n,hn,rfl,e⟩
 ·rw [e,Asb];exact ArZ _
 ·rw [e,List.length_cons,Int.natAbs_neg,Asb];omega
def Mo(a b:Int):Bool:=decide (1<b)&&decide (a≠0)&&decide (Int.gcd a b=1)
theorem AmF(a b:Int)(iU:(D a.natAbs).length<=17)(OT:(D b.natAbs).length<=17)(w:World)(hw:Al w) :
  Calls Tryz.prog 140 #[S (I a++47::I b)] w (Av (FS (Mo a b)) w):=by
 have ba:=BJ.of_len iU (by omega);have bb:=BJ.of_len OT (by omega);have l1:=ba.len;have l2:=bb.len;have hc:=cut_c (I a++47::I b) [47] w hw (by rw [List.length_append,List.length_cons];omega);rw [Qd (ZK a)]at hc;have ca:=U0 (I a);have cb:=U0 (I b);rw [if_pos ⟨a,rfl,by omega⟩]at ca;rw [if_pos ⟨b,rfl,by omega⟩]at cb;have hb1:BJ 1:=BJ.of (k:=1) (by decide) (by omega);have cp:=Ajv b 1 bb hb1;rw [Ss]at cp;have gc:=Ajw a b (qY iU) (qY OT);have hlen:(I a++47::I b).length<10000:=(by rw [List.length_append,List.length_cons];omega);obtain⟨l,hl⟩:=ArV (I a++47::I b);rw [←hl]at hc ⊢;clear hl iU OT ba bb hlen;by_cases h1:1<b
 ·rw [bE h1]at cp;by_cases h2:a=0
  ·have HV:Hid (FS (Mo a b)=2):=ArW (by unfold Mo;rw [decide_eq_false (p:=a≠0) (by simpa using h2)];simp;rfl);have hz:(I a == [48])=true:=(by rw [h2,Vu];rfl);clear gc h2;go_enter Tryz.func140,Tryz.ntmps140;(go_wp2_with fail);(with_reducible refine hc.mono ?_);rintro e w1 ⟨rfl,hx⟩;(go_wp2_with fail);(with_reducible refine(ca _).mono ?_);rintro e w2 ⟨rfl,hx2⟩;replace hx:=hx.trans hx2;(go_wp2_with fail);(with_reducible refine(cb _).mono ?_);rintro e w3 ⟨rfl,hx3⟩;replace hx:=hx.trans hx3;(go_wp2_with fail);(with_reducible refine(cp _).mono ?_);rintro e w4 ⟨rfl,Aj⟩;replace hx:=hx.trans Aj;go_wp2;go_ret;exact⟨BA HV.out,hx⟩
  ·have hz:=qZ h2
   have HV:Hid (FS (Mo a b)=if Int.gcd a b=1 then 0 else 2):=ArW (by
    unfold Mo;rw [decide_eq_true h1,decide_eq_true (p:=a≠0) h2];by_cases h:Int.gcd a b=1
    ·rw [if_pos h,decide_eq_true h];rfl
    ·rw [if_neg h,decide_eq_false h];rfl)
   by_cases h3:Int.gcd a b=1
   ·rw [if_pos h3]at HV;have hg1:(I (Int.gcd a b:Nat) == [49])=true:=(by rw [h3];rw [show ((1:Nat):Int)=1 from rfl,Ss];rfl);clear h3 h2;go_enter Tryz.func140,Tryz.ntmps140;(go_wp2_with fail);(with_reducible refine hc.mono ?_);rintro e w1 ⟨rfl,hx⟩;(go_wp2_with fail);(with_reducible refine(ca _).mono ?_);rintro e w2 ⟨rfl,hx2⟩;replace hx:=hx.trans hx2;(go_wp2_with fail);(with_reducible refine(cb _).mono ?_);rintro e w3 ⟨rfl,hx3⟩;replace hx:=hx.trans hx3;(go_wp2_with fail);(with_reducible refine(cp _).mono ?_);rintro e w4 ⟨rfl,Aj⟩;replace hx:=hx.trans Aj;(go_wp2_with fail);(with_reducible refine(gc _ (hw.ext hx)).mono ?_);rintro e w5 ⟨rfl,Ax⟩;replace hx:=hx.trans Ax;go_wp2;go_ret;exact⟨BA HV.out,hx⟩
   ·rw [if_neg h3]at HV;have hg1:(I (Int.gcd a b:Nat) == [49])=false:=Ada (by omega);clear h3 h2;go_enter Tryz.func140,Tryz.ntmps140;(go_wp2_with fail);(with_reducible refine hc.mono ?_);rintro e w1 ⟨rfl,hx⟩;(go_wp2_with fail);(with_reducible refine(ca _).mono ?_);rintro e w2 ⟨rfl,hx2⟩;replace hx:=hx.trans hx2;(go_wp2_with fail);(with_reducible refine(cb _).mono ?_);rintro e w3 ⟨rfl,hx3⟩;replace hx:=hx.trans hx3;(go_wp2_with fail);(with_reducible refine(cp _).mono ?_);rintro e w4 ⟨rfl,Aj⟩;replace hx:=hx.trans Aj;(go_wp2_with fail);(with_reducible refine(gc _ (hw.ext hx)).mono ?_);rintro e w5 ⟨rfl,Ax⟩;replace hx:=hx.trans Ax;go_wp2;go_ret;exact⟨BA HV.out,hx⟩
 ·have HV:Hid (FS (Mo a b)=2):=ArW (by unfold Mo;rw [decide_eq_false h1];rfl);obtain⟨s,hs,hs0⟩:∃s:Int,s=Ev b 1/\s<=0:=⟨_,rfl,by unfold Ev;split<;>(try split)<;>omega⟩;rw [←hs]at cp;clear hs gc h1;go_enter Tryz.func140,Tryz.ntmps140;(go_wp2_with fail);(with_reducible refine hc.mono ?_);rintro e w1 ⟨rfl,hx⟩;(go_wp2_with fail);(with_reducible refine(ca _).mono ?_);rintro e w2 ⟨rfl,hx2⟩;replace hx:=hx.trans hx2;(go_wp2_with fail);(with_reducible refine(cb _).mono ?_);rintro e w3 ⟨rfl,hx3⟩;replace hx:=hx.trans hx3;(go_wp2_with fail);(with_reducible refine(cp _).mono ?_);rintro e w4 ⟨rfl,Aj⟩;replace hx:=hx.trans Aj;go_wp2;go_ret;exact⟨BA HV.out,hx⟩
open Classical in
theorem AeJ(l:Bs):(if KZ l then (0:Int)else 2)=FS (decide (KZ l)):=by
 by_cases h:KZ l
 ·rw [if_pos h,decide_eq_true h];rfl
 ·rw [if_neg h,decide_eq_false h];rfl
open Classical in
theorem nA(l:Bs)(hl9:l.length<=17)(w:World)(hw:Al w):Calls Tryz.prog 140 #[S l] w (Av (FS (decide (Cc l))) w):=by
 have hl:l.length<100000:=by omega
 rcases Aft l with⟨n,d,rfl,hn,-⟩|⟨hn,-⟩
 ·have ca:=U0 n;have cb:=U0 d;by_cases h1:KZ n
  ·rw [if_pos h1]at ca;by_cases h2:KZ d
   ·obtain⟨a,rfl,ha⟩:=h1;obtain⟨b,rfl,hb⟩:=h2;rw [List.length_append,List.length_cons]at hl9;have:=Zj a;have:=Zj b;have h:=AmF a b (by omega) (by omega) w hw
    have e:Mo a b=decide (Cc (I a++47::I b)):=by
     rw [Bool.eq_iff_iff,decide_eq_true_eq,mF hn];unfold Mo;simp only [Bool.and_eq_true,decide_eq_true_eq];constructor
     ·rintro⟨⟨x1,x2⟩,x3⟩;exact⟨a,b,rfl,rfl,ha,hb,x1,x2,x3⟩
     ·rintro⟨a',b',e1,e2,_,_,x1,x2,x3⟩;obtain rfl:=PL e1;obtain rfl:=PL e2;exact⟨⟨x1,x2⟩,x3⟩
    rw [←e];exact h
   ·rw [if_neg h2]at cb
    have e:decide (Cc (n++47::d))=false:=by rw [decide_eq_false_iff_not,mF hn];rintro⟨a,b,_,e2,_,hb,_⟩;exact h2 ⟨b,e2,hb⟩
    rw [e];exact AmG hl hn ca cb w hw
  ·rw [if_neg h1]at ca
   have e:decide (Cc (n++47::d))=false:=by rw [decide_eq_false_iff_not,mF hn];rintro⟨a,b,e1,_,ha,_⟩;exact h1 ⟨a,e1,ha⟩
   rw [e];exact AmH hl hn ca w hw
 ·have ca:=U0 l;simp only [AeJ]at ca;have e:decide (Cc l)=decide (KZ l):=(by rw [Bool.eq_iff_iff,decide_eq_true_eq,decide_eq_true_eq];exact AlB hn);rw [e];exact AmI hl hn _ ca w hw
structure Ae(w:World)(A:Option Addr)(cs:List Value):Prop where
 ad:0<cs.length→∃b o,A=some ⟨b,o,none⟩/\∀j (h:j<cs.length),w.cell? ⟨b,o+j,none⟩=some cs[j]
theorem Ae.ext{w w':World}{A:Option Addr}{cs:List Value}(h:Ae w A cs)(hx:Aa w w'):Ae w' A cs:=
 ⟨fun h0=>by
  obtain⟨b,o,e,hc⟩:=h.ad h0
  exact⟨b,o,e,fun j hj=>hx.cellS (hc j hj)⟩⟩
theorem Ae.lit(w:World)(cs:Array Value)(t:TypeId):Ae (w.alloc (.cells cs t)) (some ⟨w.heap.size,0,none⟩) cs.toList:=
 ⟨fun _=>⟨w.heap.size,0,rfl,fun j hj=>by
  refine Ab (ArY w _) ?_
  rw [Nat.zero_add,←Array.getElem?_toList,Asf hj]⟩⟩
def Yw(l:List Bs):Prop:=∀x∈l,Cc x
theorem Alz{x y:Bs} : Yw [x,y]↔Cc x/\Cc y:=by unfold Yw;simp
open Classical in
theorem xg(l:List Bs)(ok:Bool)(Ah:ok=true↔Yw l)(A:Option Addr)(c:Nat)(w:World)(hw:Al w)(hr:Ae w A (l.map S))(_:l.length<=c)(_:c<=9223372036854775807)(hl:l.length<=100000)(hlen:∀x∈l,x.length<=17) :
  Calls Tryz.prog 146 #[.slice A l.length c] w (Av (FS ok) w):=by
 have HV:=ArW Ah;have HL:=ArW hlen;clear Ah hlen;go_enter Tryz.func146,Tryz.ntmps146;go_wp2
 go_loopw [8] (fun i wr=>∃j:Nat,i=.int .i64 (j:Nat)/\j<=l.length/\(∀x∈l.take j,Cc x)/\Aa w wr) (fun i _=>l.length-(intOf i).toNat)
 case atStart=>exact⟨0,rfl,by omega,by simp,Aa.refl _⟩
 case round=>
  obtain⟨j,rfl,hj,Ah,Ad⟩:=hrel;have HO:=ArW Ah;clear Ah;by_cases hlt:j<l.length
  ·obtain⟨b,o,rfl,hcs⟩:=(hr.ext Ad).ad (by simp;omega);have hg:=hcs j (by simp;omega);rw [List.getElem_map]at hg;clear hcs;obtain⟨x,hx⟩:=ArV (l[j]);rw [←hx]at hg;have hmem:x∈l:=(by rw [hx];exact Asa hlt);have ck:=nA x (HL.out x hmem) wr (hw.ext Ad);have HX:=ArW hx;clear hx;have hj0:(0:Int)<=(j:Int):=(by omega);have A7:(j:Int)<(l.length:Int):=(by omega);by_cases hx:Cc x
   ·rw [decide_eq_true hx,Jh]at ck;(go_wp2_with fail);(with_reducible refine ck.mono ?_);rintro e w2 ⟨rfl,hx2⟩;go_wp2;go_roundw
    case rel=>
     refine⟨j+1,by go_num,hlt,?_,Ad.trans hx2⟩;intro y hy;rw [Asd hlt,←HX.out]at hy
     rcases List.mem_append.1 hy with h|h
     ·exact HO.out y h
     ·simp only [Asn]at h;rw [h];exact hx
    case measure=>simp [intOf];omega
   ·rw [decide_eq_false hx,Ov]at ck
    have hv:ok=false:=by
     cases ok
     ·rfl
     ·exact absurd (HV.out.1 rfl x hmem) hx
    subst hv;rw [Ov];(go_wp2_with fail);(with_reducible refine ck.mono ?_);rintro e w2 ⟨rfl,hx2⟩;go_wp2;go_ret;exact⟨rfl,Ad.trans hx2⟩
  ·have hv:ok=true:=HV.out.2 (by
    have:=HO.out
    rwa [Asi (by omega)]at this)
   subst hv;rw [Jh];go_wp2;go_ret;exact⟨rfl,Ad⟩
theorem aW(x y:Bs)(ok:Bool)(Ah:ok=true↔Cc x/\Cc y)(hx:x.length<=17)(hy:y.length<=17)(w:World)(hw:Al w) :
  Calls Tryz.prog 77 #[.agg #[S x,S y]] w (Av (FS ok) w):=by
 have e1:=(Aa.refl w).alloc (.cells #[S x,S y] 94);have e2:=e1.alloc (.cells #[S x,S y] 24);have hr:=Ae.lit (w.alloc (.cells #[S x,S y] 94)) #[S x,S y] 24;have nm:=xg [x,y] ok (by rw [Ah,Alz]) _ 2 _ (hw.ext e2) hr (by simp) (by omega) (by simp) (by intro z hz;simp only [List.mem_cons,Asm,or_false]at hz;rcases hz with rfl|rfl<;>assumption);simp only [List.length_cons,List.length_nil,Nat.zero_add,Nat.reduceAdd,Ash]at nm;clear hr Ah;go_enter Tryz.func77,Tryz.ntmps77;(go_wp2_with fail);(with_reducible refine nm.mono ?_);rintro e w2 ⟨rfl,hx2⟩;go_wp2;go_ret;exact⟨rfl,e2.trans hx2⟩
def flat(l:List (Bs×Bs)):List Value:=l.flatMap fun p=>[S p.1,S p.2]
theorem flat_length(l:List (Bs×Bs)):(flat l).length=l.length*2:=by
 induction l with
 | nil=>rfl
 | cons p l ih=>unfold flat at *;simp only [List.flatMap_cons,List.length_append,List.length_cons,List.length_nil];omega
theorem flat_get:∀(l:List (Bs×Bs)) (j:Nat) (h:j<l.length),(flat l)[j*2]?=some (S l[j].1)/\(flat l)[j*2+1]?=some (S l[j].2)
 | p::l,0,_=>⟨rfl,rfl⟩
 | p::l,j+1,h=>by have ih:=flat_get l j (by simpa using h);have e:flat (p::l)=S p.1::S p.2::flat l:=rfl;rw [e,show (j+1)*2=j*2+1+1 by omega];exact ih
theorem zR:(1/2:Rat)=mkRat 1 2:=by rw [Rat.mkRat_eq_div];rfl
theorem Ah7:(1/2:Rat).num=1:=by rw [zR,Rat.num_mkRat];decide
theorem Ah5:(1/2:Rat).den=2:=by rw [zR,Rat.den_mkRat];decide
theorem Ado:R (1/2) = [49,47,50]:=by
 rw [Lb,Ah7,Ah5];unfold Fu;rw [if_neg (by omega),Ss,FI (by omega)]
 rfl
theorem Je(w:World)(o1 o2 o3:Obj):∃W,W=((w.alloc o1).alloc o2).alloc o3/\Aa w W/\W.heap[w.heap.size]?=some o1/\W.heap[w.heap.size+1]?=some o2/\W.heap[w.heap.size+1+1]?=some o3:=by
 have h2:=ArY (w.alloc o1) o2;have h3:=ArY ((w.alloc o1).alloc o2) o3;rw [Ash]at h2;rw [Ash,Ash]at h3;refine⟨_,rfl,(((Aa.refl _).alloc _).alloc _).alloc _,?_,?_,h3⟩
 ·exact(Below.heap_alloc _ _ _ (by simp;omega)).trans ((Below.heap_alloc _ _ _ (by simp)).trans (ArY w o1))
 ·exact(Below.heap_alloc _ _ _ (by simp)).trans h2
theorem set2{w:World}{b:Nat}{a0 a1:Value}(v0 v1:Value)(g1:w.cell? ⟨b,0,none⟩=some a0)(g2:w.cell? ⟨b,1,none⟩=some a1) :
  ((w.setCell ⟨b,0,none⟩ v0).setCell ⟨b,1,none⟩ v1).cell? ⟨b,0,none⟩=some v0/\((w.setCell ⟨b,0,none⟩ v0).setCell ⟨b,1,none⟩ v1).cell? ⟨b,1,none⟩=some v1:=by
 refine⟨(World.cell?_setCell_other _ _ _ _ (by simp)).trans (World.cell?_setCell_same _ _ _ g1),?_⟩;exact World.cell?_setCell_same _ _ _ ((World.cell?_setCell_other _ _ _ _ (by simp)).trans g2)
def Af(p:Pt):Value:=.agg #[S (R p.x),S (R p.y)]
def AA(s:Sg):Value:=.agg #[S (R s.a.x),S (R s.a.y),S (R s.b.x),S (R s.b.y)]
structure Aq(k:Nat)(p:Pt):Prop where
 x:Sz k p.x
 y:Sz k p.y
structure Gk(k:Nat)(s:Sg):Prop where
 a:Aq k s.a
 b:Aq k s.b
theorem Abq{i j m:Nat}{x y k:Rat}(hx:Sz i x)(hy:Sz j y)(hk:Sz m k):Sz (2*i+j+m+2) (D5 x y k):=
 (hx.add (hk.mul (hy.sub hx))).mono (by omega)
structure My(W:World)(b:Nat)(c:Cv):Prop where
 k1:W.cell? ⟨b,0,none⟩=some (S (R c.low.x))
 k2:W.cell? ⟨b,1,none⟩=some (S (R c.low.y))
 k3:W.cell? ⟨b,2,none⟩=some (S (R c.high.x))
 k4:W.cell? ⟨b,3,none⟩=some (S (R c.high.y))
 k5:W.cell? ⟨b,4,none⟩=some (.int .i64 (c.W:Nat))
 k6:W.cell? ⟨b,5,none⟩=some (.int .i64 (c.H:Nat))
theorem My.ext{W V:World}{b:Nat}{c:Cv}(h:My W b c)(hx:Aa W V):My V b c:=
 ⟨hx.cellS h.k1,hx.cellS h.k2,hx.cellS h.k3,hx.cellS h.k4,hx.cellS h.k5,hx.cellS h.k6⟩
theorem My.of{W:World}{b:Nat}{c:Cv}{t:TypeId}(h:W.heap[b]?=some (.cells #[S (R c.low.x),S (R c.low.y),S (R c.high.x),S (R c.high.y),.int .i64 (c.W:Nat),.int .i64 (c.H:Nat)] t)):My W b c:=
 ⟨Ab h rfl,Ab h rfl,Ab h rfl,Ab h rfl,Ab h rfl,Ab h rfl⟩
structure JI(W:World)(b:Nat)(p:Pt):Prop where
 k1:W.cell? ⟨b,0,none⟩=some (S (R p.x))
 k2:W.cell? ⟨b,1,none⟩=some (S (R p.y))
theorem JI.ext{W V:World}{b:Nat}{p:Pt}(h:JI W b p)(hx:Aa W V):JI V b p:=⟨hx.cellS h.k1,hx.cellS h.k2⟩
structure Zg(W:World)(bl:Nat)(l h:Rat):Prop where
 l:W.heap[bl]?=some (.cells #[S (R l)] 24)
 h:W.heap[bl+1]?=some (.cells #[S (R h)] 24)
theorem Zg.ext{W V:World}{bl:Nat}{l h:Rat}(hb:Zg W bl l h)(hx:Aa W V):Zg V bl l h:=
 ⟨(hx.block _ (ArX hb.l)).trans hb.l,(hx.block _ (ArX hb.h)).trans hb.h⟩
structure P8(W:World)(b:Nat)(s:Sg):Prop where
 k1:W.cell? ⟨b,0,none⟩=some (S (R s.a.x))
 k2:W.cell? ⟨b,1,none⟩=some (S (R s.a.y))
 k3:W.cell? ⟨b,2,none⟩=some (S (R s.b.x))
 k4:W.cell? ⟨b,3,none⟩=some (S (R s.b.y))
theorem P8.ext{W V:World}{b:Nat}{s:Sg}(h:P8 W b s)(hx:Aa W V):P8 V b s:=⟨hx.cellS h.k1,hx.cellS h.k2,hx.cellS h.k3,hx.cellS h.k4⟩
theorem Kc{B:Nat}{W V:World}(h:Below B W V){b o:Nat}{v:Value}(hb:b<B)(hc:W.cell? ⟨b,o,none⟩=some v):V.cell? ⟨b,o,none⟩=some v:=
 (Below.cell h (p:=⟨b,o,none⟩) hb).trans hc
theorem P8.below{B:Nat}{W V:World}{b:Nat}{s:Sg}(h:P8 W b s)(hx:Below B W V)(hb:b<B):P8 V b s:=⟨Kc hx hb h.k1,Kc hx hb h.k2,Kc hx hb h.k3,Kc hx hb h.k4⟩
theorem My.below{B:Nat}{W V:World}{b:Nat}{c:Cv}(h:My W b c)(hx:Below B W V)(hb:b<B):My V b c:=
 ⟨Kc hx hb h.k1,Kc hx hb h.k2,Kc hx hb h.k3,Kc hx hb h.k4,Kc hx hb h.k5,Kc hx hb h.k6⟩
theorem Pp{q:Rat}{k:Nat}(h:Sz k q)(hk:0<k)(hk2:k<=200):Cc (R q):=
 ⟨q,rfl,Asl (Io hk h.num) hk2,Asl (Io hk h.den) hk2⟩
theorem YX{q:Rat}{k:Nat}(h:Sz k q)(hk:0<k)(hk2:k<=7):(R q).length<=17:=by have:=MF hk h;omega
def Me(p:Pt):Bs×Bs:=(R p.x,R p.y)
structure rS where
 fx:Bs
 fy:Bs
 tx:Bs
 ty:Bs
def rS.pts(t:rS):List (Bs×Bs):=[(t.fx,t.fy),(t.tx,t.ty)]
theorem PY{w:World}{b:Nat}{a0 a1 a2 a3:Value}{t:TypeId}(v0 v1 v2 v3:Value)(h:w.heap[b]?=some (.cells #[a0,a1,a2,a3] t)) :
  ((((w.setCell ⟨b,0,none⟩ v0).setCell ⟨b,1,none⟩ v1).setCell ⟨b,2,none⟩ v2).setCell ⟨b,3,none⟩ v3).heap[b]?=some (.cells #[v0,v1,v2,v3] t):=by
 simp only [World.setCell,Array.getElem?_modify,h];simp
section
variable {ops : Array Oper} {rest : List Oper} {o : Oper} {a : Act} {Q : Exit → Act → World → Prop}
end
theorem An4{P:Program}{w:World}(ts:Array TypeId)(t:TypeId)(k:IntKind)(a b c d e:Int):(Builtin.max_ ts t #[.int k a,.int k b,.int k c,.int k d,.int k e]).run P w=.ok (.int k (max (max (max (max a b) c) d) e)) w:=by
 have m:∀x y:Int,(if y>x then y else x)=max x y:=(by intro x y;split<;>omega);simp only [Builtin.max_,List.foldlM_cons,List.foldlM_nil,Builtin.max2];simp [m]
attribute [local go_sem] An4
theorem PW{w:World}{b:Nat}{a0 a1:Value}{t:TypeId}(v0 v1:Value)(h:w.heap[b]?=some (.cells #[a0,a1] t)) :
  ((w.setCell ⟨b,0,none⟩ v0).setCell ⟨b,1,none⟩ v1).heap[b]?=some (.cells #[v0,v1] t):=by
 simp only [World.setCell,Array.getElem?_modify,h];simp
def steps(c:Cv)(p:Sg):Nat:=(max (max (max (max 1 (SH c p.a-SH c p.b)) (SH c p.b-SH c p.a)) (UK c p.a-UK c p.b)) (UK c p.b-UK c p.a)).toNat
def Af8(c:Cv)(p:Sg)(n i:Nat):Int×Int:=(SH c (atR p (mkRat i n)),UK c (atR p (mkRat i n)))
def ApT(c:Cv)(p:Sg):List (Int×Int):=(List.range (steps c p+1)).map (Af8 c p (steps c p))
end Go.Proofs.YtbejphgbbpplbaaGreatDoor
namespace Go.Proofs.YtbejphgbbpplbaaGreatDoor
open Go.RowKit Kl
end Go.Proofs.YtbejphgbbpplbaaGreatDoor
