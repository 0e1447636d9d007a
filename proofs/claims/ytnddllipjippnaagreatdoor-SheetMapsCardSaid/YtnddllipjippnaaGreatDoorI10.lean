/- I10: ShInt8 ShIntA ShIntG ShInt9 ShIntC ShR1 ShR2 ShR3 ShR4 ShR5 ShR6 ShG1 ShG2 ShG3 ShG4 ShG5 ShG6 ShG7 ShG8A ShG9 ShG10 ShG11 ShF1 ShF2 ShF3 ShF4 ShH1. -/
import Derived.Deep.DeepCutAuto
import Derived.RangeFuncNested
import Derived.RangeFuncBound
import Derived.Shelf.RegionOpen
import Derived.OwnWalkIn
import Derived.LoopNIn
import Derived.LoopIn
import Derived.StillTailTactics
import Derived.Deep.RegionHeld3
import Derived.Test.YtnddllipjippnaaGreatDoorI05
set_option maxRecDepth 100000
set_option maxHeartbeats 2000000
namespace Go.Proofs.YtnddllipjippnaaGreatDoor
open Go.RowKit Kl
theorem Abp{z:Int}{k:Nat}(h:(I z).length<=k):VL z k=.tuple #[.int .i64 z,.bool true]:=if_pos h
theorem Abo(z:Int)(w:World):Calls Tryz.prog 205 #[S (I z),.int .i64 18] w (BA (VL z 18) w):=Ant z 18 (by omega) w
theorem ZM{z:Int}{k:Nat}(h:(I z).length<=k):z.natAbs<10^k:=by
 rcases Ev z with⟨n,rfl,e⟩|⟨n,hn,rfl,e⟩
 ·rw [e]at h;simpa using PO (n:=n) (k:=k) (by omega)
 ·rw [e,List.length_cons]at h;simpa using PO (n:=n) (k:=k) (by omega)
theorem Qc{x y:Int}(hx:x.natAbs<1000000000)(hy:y.natAbs<1000000000):IntKind.i64.wrap (x*y)=x*y:=by
 have h:=Aan hx hy;rw [←Int.natAbs_mul]at h;exact As6 _ (by omega)
theorem Aa{W:World}{b o:Nat}{cs:Array Value}{t:TypeId}{fz:Nat×Nat}{v:Value}(h:W.heap[b]?=some (.cells cs t fz))(hv:cs[o]?=some v):W.cell? ⟨b,o,none⟩=some v:=by
 unfold World.cell?;simp [h,hv]
theorem Ah{W:World}{b o:Nat}{cs:Array Value}{t:TypeId}(h:W.heap[b]?=some (.cells cs t)):W.frozen? ⟨b,o,none⟩=false:=by unfold World.frozen?;simp [h]
theorem zJ(a b:Int):Int.gcd b (a.tmod b)=Int.gcd a b:=by
 unfold Int.gcd;rw [Int.natAbs_tmod,Nat.gcd_comm b.natAbs,←Nat.gcd_rec,Nat.gcd_comm]
theorem Aap(a:Int){b:Int}(h:b≠0):(a.tmod b).natAbs<b.natAbs:=by
 rw [Int.natAbs_tmod];exact Nat.mod_lt _ (by omega)
theorem Akz(x y:Int)(hx:(I x).length<=18)(hy:(I y).length<=18)(w:World)(hw:Aj w) :
  Calls Tryz.prog 166 #[S (I x),S (I y)] w (BW (D (Int.gcd x y)) w):=by
 have q1:=Abo x;have q2:=Abo y;rw [Abp hx]at q1;rw [Abp hy]at q2;have b1:=ZM hx;have b2:=ZM hy;have e18:(10:Nat)^18=1000000000000000000:=(by decide);rw [e18]at b1 b2;obtain⟨g,hg⟩:=Asw (Int.gcd x y);rw [←hg];have HG:=Asx hg.symm;clear hx hy e18 hg;go_enter Tryz.func166,Tryz.ntmps166;(go_wp2_with fail);(with_reducible refine(q1 _).mono ?_);rintro e w1 ⟨rfl,hx1⟩;(go_wp2_with fail);(with_reducible refine(q2 _).mono ?_);rintro e w2 ⟨rfl,hx2⟩;have hx:=hx1.trans hx2;clear hx1 hx2 q1 q2;go_wp2
 go_loopw [5,7] (fun u v wr=>∃a b:Int,u=.int .i64 a/\v=.int .i64 b/\Int.gcd a b=g/\a.natAbs<1000000000000000000/\b.natAbs<1000000000000000000/\Ab w wr) (fun _ v _=>(intOf v).natAbs)
 case atStart=>exact⟨x,y,rfl,rfl,HG.out,b1,b2,hx⟩
 case round=>
  obtain⟨a,b,rfl,rfl,Hy,ha,hb,Ae⟩:=hrel;by_cases hb0:b=0
  ·subst hb0;have Rk:a.natAbs=g:=(by rw [←Hy];simp);have hmx:max a (-a)=(g:Int):=(by omega);have ho:=fun W hW=>xf (g:Int) (by omega) (by omega) W hW;have AZ:((0:Int) != 0)=false:=(by rfl);clear Rk Hy;rw [Gd]at ho;have Ld:IntKind.i64.wrap (-a) = -a:=As6 _ (by omega);(go_wp2_with fail);(with_reducible refine(ho _ (hw.ext Ae)).mono ?_);rintro e w3 ⟨rfl,hx3⟩;go_wp2;go_ret;exact⟨rfl,Ae.trans hx3⟩
  ·have hlt:=Aap a hb0;have Rr:(a.tmod b).natAbs<1000000000000000000:=Nat.lt_trans hlt hb;have Jh:=zJ a b;have NM:(b != 0)=true:=(by rw [bne_iff_ne];exact hb0);have A7:(b == 0)=false:=(by rw [beq_eq_false_iff_ne];exact hb0);have MZ:=Asx (Jh.trans Hy);clear Jh Hy;(go_wp2_with fail)
   go_quiet (fail)
   go_wp2;go_roundw
   case rel=>exact⟨b,a.tmod b,rfl,rfl,MZ.out,hb,Rr,Ae.drewN _⟩
   case measure=>exact hlt
theorem Aky(x y:Int)(hx:(I x).length<=18)(hy:(I y).length<=18)(w:World)(hw:Aj w):Calls Tryz.prog 166 #[S (I x),S (I y)] w (BW (D (Int.gcd x y)) w):=Akz x y hx hy w hw
def EM(x y:Int):Int:=if x<y then -1 else if x=y then 0 else 1
theorem wY{x y:Int}(h:x<y):EM x y = -1:=by unfold EM;rw [if_pos h]
theorem dX{x y:Int}(h:y<x):EM x y=1:=by unfold EM;rw [if_neg (by omega),if_neg (by omega)]
theorem Ags{x y:Int}(h:x=y):EM x y=0:=by unfold EM;rw [if_neg (by omega),if_pos h]
theorem xC:∀(l k:Bs),Da l→Da k→l.length=k.length→Lib.compareBytes l k=IX (val l) (val k)
 | [],[],_,_,_=>by simp [Lib.compareBytes,IX]
 | [],_::_,_,_,h=>by simp at h
 | _::_,[],_,_,h=>by simp at h
 | a::l,b::k,ha,hb,h=>by
  rw [WZ]at ha hb;simp only [List.length_cons,Nat.add_right_cancel_iff]at h;have ih:=xC l k ha.2 hb.2 h;have hl:=O4 ha.2;have hk:=O4 hb.2;rw [VX,VX,Lib.compareBytes,h];rw [h]at hl;have hda:=ha.1.1;have kz:=hb.1.1;generalize 10^k.length=p at *
  rcases Nat.lt_trichotomy (dv a) (dv b)with hd|hd|hd
  ·have h1:a<b:=(by rw [UInt8.lt_iff_toNat_lt];unfold dv at hd;omega);have h2:dv a*p+p<=dv b*p:=(by rw [←Nat.succ_mul];exact Nat.mul_le_mul_right _ hd);rw [if_pos h1,wV (by omega)]
  ·have h1:a=b:=by have:a.toNat=b.toNat:=(by unfold dv at hd;omega);exact UInt8.toNat_inj.1 this
   subst h1;rw [if_neg (by rw [UInt8.lt_iff_toNat_lt];omega),if_neg (by rw [UInt8.lt_iff_toNat_lt];omega),ih];unfold IX;simp only [Nat.add_lt_add_iff_left,Nat.add_left_cancel_iff]
  ·have h1:b<a:=(by rw [UInt8.lt_iff_toNat_lt];unfold dv at hd;omega);have h0:¬a<b:=(by rw [UInt8.lt_iff_toNat_lt]at h1 ⊢;omega);have h2:dv b*p+p<=dv a*p:=(by rw [←Nat.succ_mul];exact Nat.mul_le_mul_right _ hd);rw [if_neg h0,if_pos h1,wU (by omega)]
theorem rJ{m n:Nat}(h:(D m).length<(D n).length):m<n:=by
 rcases Nat.eq_zero_or_pos n with rfl|hn
 ·have e:(D 0).length=1:=(by rw [Gc (by omega)];rfl);have:=We m;omega
 ·have h1:=Aac m;have h2:=Abd n hn;have h3:10^(D m).length<=10^((D n).length-1):=Nat.pow_le_pow_right (by omega) (by omega);omega
theorem AbS(z:Int):-1<=Ga z/\Ga z<=1:=by unfold Ga;split<;>(try split)<;>omega
theorem AbN{x y:Int}(h:Ga x<Ga y):x<y:=by
 unfold Ga at h;split at h<;>split at h<;>(try split at h)<;>(try split at h)<;>omega
theorem AbP(z:Int):Ga z*(z.natAbs:Int)=z:=by
 unfold Ga
 split
 ·omega
 ·split<;>omega
theorem Akw(x y:Int)(hx:BV x)(hy:BV y)(w:World):Calls Tryz.prog 165 #[S (I x),S (I y)] w (AI (EM x y) w):=by
 have s1:=Vs x;have s2:=Vs y;have r1:=AbS x;have r2:=AbS y;have t1:=qO (I x) [45];have t2:=qO (I y) [45];rw [Ac1]at t1 t2;have c1:=Agx (D x.natAbs) (D y.natAbs);have l1:=hx.len;have l2:=hy.len
 have hcl:(D x.natAbs).length=(D y.natAbs).length→Lib.compareBytes (D x.natAbs) (D y.natAbs)=IX x.natAbs y.natAbs:=fun h=>by
  have:=xC _ _ (FP x.natAbs) (FP y.natAbs) h
  rwa [MQ,MQ]at this
 have k1:(D x.natAbs).length<(D y.natAbs).length→x.natAbs<y.natAbs:=rJ;have k2:(D y.natAbs).length<(D x.natAbs).length→y.natAbs<x.natAbs:=rJ;have a1:=AbP x;have a2:=AbP y;have JY:=@AbN x y;have hlt2:=@AbN y x;obtain⟨s,hs⟩:=Asw (Ga x);obtain⟨t,ht⟩:=Asw (Ga y);rw [←hs]at s1 r1 a1 JY hlt2;rw [←ht]at s2 r2 a2 JY hlt2;clear hs ht
 rcases Int.lt_trichotomy s t with h|h|h
 ·have HR:=Asx (wY (JY h));have hne:(s != t)=true:=(by rw [bne_iff_ne];omega);clear a1 a2 JY hlt2 t1 t2 c1 hcl k1 k2;go_enter Tryz.func165,Tryz.ntmps165;(go_wp2_with fail);(with_reducible refine(s1 _).mono ?_);rintro e w1 ⟨rfl,hx1⟩;(go_wp2_with fail);(with_reducible refine(s2 _).mono ?_);rintro e w2 ⟨rfl,hx2⟩;go_wp2;go_ret;exact⟨FZ HR.out,hx1.trans hx2⟩
 ·subst h;have hne:(s != s)=false:=by simp
  have Vo:(D y.natAbs).length<=4001:=by
   rcases Ev y with⟨n,rfl,e⟩|⟨n,hn,rfl,e⟩
   ·rw [e]at l2;simpa using l2
   ·rw [e,List.length_cons]at l2;rw [show (-(n:Int)).natAbs=n by omega];omega
  have mU:(D x.natAbs).length<=4001:=by
   rcases Ev x with⟨n,rfl,e⟩|⟨n,hn,rfl,e⟩
   ·rw [e]at l1;simpa using l1
   ·rw [e,List.length_cons]at l1;rw [show (-(n:Int)).natAbs=n by omega];omega
  obtain⟨cb,hcb⟩:=Asw (Lib.compareBytes (D x.natAbs) (D y.natAbs));rw [←hcb]at c1 hcl;have Oh:s=0∨s=1∨s = -1:=by omega
  have hcm:∀{m n:Nat},x=s*m→y=s*n→s*IX m n=EM x y:=by
   intro m n e1 e2;rw [e1,e2]
   rcases Oh with rfl|rfl|rfl
   ·simp [EM]
   ·unfold IX EM;simp only [Int.one_mul];split<;>split<;>(try split)<;>omega
   ·unfold IX EM;split<;>split<;>(try split)<;>(try split)<;>omega
  have HC:=Asx (@hcm x.natAbs y.natAbs a1.symm a2.symm);obtain⟨A,hA⟩:=Asw (D x.natAbs);obtain⟨B,hB⟩:=Asw (D y.natAbs);rw [←hA]at t1 c1 hcl k1 k2 mU;rw [←hB]at t2 c1 hcl k1 k2 Vo
  rcases Nat.lt_trichotomy A.length B.length with hl|hl|hl
  ·have hk:=k1 hl
   have HR:Hid (EM x y=IntKind.i64.wrap (-s)):=Asx (by
    rw [←HC.out,wV hk,As6 (-s) (by omega)];omega)
   have vq:IntKind.i64.wrap (-s) = -s:=As6 _ (by omega);have H5:((A.length:Int) != (B.length:Int))=true:=(by rw [bne_iff_ne];omega);have hR2:Hid (-s=EM x y):=Asx (by rw [HR.out,vq]);clear a1 a2 JY hlt2 c1 hcl k1 k2 hcb hA hB HC HR Oh hcm hk l1 l2;go_enter Tryz.func165,Tryz.ntmps165;(go_wp2_with fail);(with_reducible refine(s1 _).mono ?_);rintro e w1 ⟨rfl,hx1⟩;(go_wp2_with fail);(with_reducible refine(s2 _).mono ?_);rintro e w2 ⟨rfl,hx2⟩;(go_wp2_with fail);(with_reducible refine(t1 _).mono ?_);rintro e w3 ⟨rfl,hx3⟩;(go_wp2_with fail);(with_reducible refine(t2 _).mono ?_);rintro e w4 ⟨rfl,Ao⟩;go_wp2;go_ret;exact⟨FZ hR2.out.symm,((hx1.trans hx2).trans hx3).trans Ao⟩
  ·have hq:=hcl hl;have hcr:-1<=cb/\cb<=1:=by rw [hq];unfold IX;split<;>(try split)<;>omega
   have hsc:-1<=s*cb/\s*cb<=1:=by rcases Oh with rfl|rfl|rfl<;>omega
   have hR2:Hid (s*cb=EM x y):=Asx (by rw [hq];exact HC.out);have vq:IntKind.i64.wrap (s*cb)=s*cb:=As6 _ (by omega);have H5:((A.length:Int) != (B.length:Int))=false:=(by rw [hl];simp);clear a1 a2 JY hlt2 hcl k1 k2 hcb hA hB HC Oh hcm hq l1 l2 hsc;have HL:=Asx hl;clear hl;go_enter Tryz.func165,Tryz.ntmps165;(go_wp2_with fail);(with_reducible refine(s1 _).mono ?_);rintro e w1 ⟨rfl,hx1⟩;(go_wp2_with fail);(with_reducible refine(s2 _).mono ?_);rintro e w2 ⟨rfl,hx2⟩;(go_wp2_with fail);(with_reducible refine(t1 _).mono ?_);rintro e w3 ⟨rfl,hx3⟩;(go_wp2_with fail);(with_reducible refine(t2 _).mono ?_);rintro e w4 ⟨rfl,Ao⟩;(go_wp2_with fail);(with_reducible refine(c1 _).mono ?_);rintro e w5 ⟨rfl,As⟩;go_wp2;go_ret;exact⟨FZ hR2.out.symm,(((hx1.trans hx2).trans hx3).trans Ao).trans As⟩
  ·have hk:=k2 hl;have hR2:Hid (s=EM x y):=Asx (by rw [←HC.out,wU hk];omega);have H5:((A.length:Int) != (B.length:Int))=true:=(by rw [bne_iff_ne];omega);have hnl:¬A.length<B.length:=(by omega);clear a1 a2 JY hlt2 c1 hcl k1 k2 hcb hA hB HC Oh hcm hk l1 l2;go_enter Tryz.func165,Tryz.ntmps165;(go_wp2_with fail);(with_reducible refine(s1 _).mono ?_);rintro e w1 ⟨rfl,hx1⟩;(go_wp2_with fail);(with_reducible refine(s2 _).mono ?_);rintro e w2 ⟨rfl,hx2⟩;(go_wp2_with fail);(with_reducible refine(t1 _).mono ?_);rintro e w3 ⟨rfl,hx3⟩;(go_wp2_with fail);(with_reducible refine(t2 _).mono ?_);rintro e w4 ⟨rfl,Ao⟩;go_wp2;go_ret;exact⟨FZ hR2.out.symm,((hx1.trans hx2).trans hx3).trans Ao⟩
 ·have HR:=Asx (dX (hlt2 h));have hne:(s != t)=true:=(by rw [bne_iff_ne];omega);have hnl:¬s<t:=(by omega);clear a1 a2 JY hlt2 t1 t2 c1 hcl k1 k2;go_enter Tryz.func165,Tryz.ntmps165;(go_wp2_with fail);(with_reducible refine(s1 _).mono ?_);rintro e w1 ⟨rfl,hx1⟩;(go_wp2_with fail);(with_reducible refine(s2 _).mono ?_);rintro e w2 ⟨rfl,hx2⟩;go_wp2;go_ret;exact⟨FZ HR.out,hx1.trans hx2⟩
/-! ### Check -/
theorem Af7(s:ByteArray):∀(k i:Nat) (r:List UInt8),s.size-i=k→r.length<=(ByteArray.toList.loop s i r).length:=by
 intro k
 induction k with
 | zero=>intro i r h;unfold ByteArray.toList.loop;rw [if_neg (by omega)];simp
 | succ k ih=>
  intro i r h;unfold ByteArray.toList.loop
  split
  ·have:=ih (i+1) (s.get! i::r) (by omega);simp only [List.length_cons]at this;omega
  ·simp
theorem dJ{s:ByteArray}(h:0<s.size):¬s.toList = []:=by
 intro e;unfold ByteArray.toList ByteArray.toList.loop at e;rw [if_pos h]at e;have:=Af7 s _ 1 [s.get! 0] rfl;rw [show 0+1=1 from rfl]at e;rw [e]at this;simp at this
open Classical in
theorem Ago(t:Bs)(mn:Bool):¬ZY t mn↔t = []∨200<t.length∨(∃m,t=48::m/\(m≠[]∨mn=true))∨∃j,∃h:j<t.length,¬Ge t[j]:=by
 constructor
 ·intro h;by_cases h1:t = []
  ·exact .inl h1
  ·by_cases h2:200<t.length
   ·exact .inr (.inl h2)
   ·by_cases h3:∃m,t=48::m/\(m≠[]∨mn=true)
    ·exact .inr (.inr (.inl h3))
    ·refine .inr (.inr (.inr (Classical.byContradiction fun h4=>h ⟨h1,by omega,fun m e=>?_,fun c hc=>?_⟩)))
     ·constructor
      ·exact Classical.byContradiction fun h5=>h3 ⟨m,e,.inl h5⟩
      ·cases mn
       ·rfl
       ·exact absurd ⟨m,e,.inr rfl⟩ h3
     ·obtain⟨j,hj,e⟩:=List.mem_iff_getElem.1 hc;exact Classical.byContradiction fun h5=>h4 ⟨j,hj,by rw [e];exact h5⟩
 ·rintro(h|h|⟨m,e,h⟩|⟨j,hj,h⟩) hc
  ·exact hc.ne h
  ·have:=hc.len;omega
  ·have:=hc.zero m e
   rcases h with h|h
   ·exact h this.1
   ·rw [this.2]at h;cases h
  ·exact h (hc.all _ (As1 hj))
def Gj(b:Bool):Int:=if b then 0 else 2
theorem Iv:Gj true=0:=rfl
theorem Nu:Gj false=2:=rfl
theorem Agd(l:Bs)(ht:Lib.trimPrefix l [45] = [])(w:World):Calls Tryz.prog 164 #[S l] w (AI 2 w):=by
 have hc:=Xp l [45];rw [ht]at hc;go_enter Tryz.func164,Tryz.ntmps164;(go_wp2_with fail);(with_reducible refine(hc _).mono ?_);rintro e w1 ⟨rfl,hx1⟩;go_wp2;go_ret;exact⟨rfl,hx1⟩
theorem Age(l t:Bs)(ht:Lib.trimPrefix l [45]=t)(h2:200<t.length)(w:World):Calls Tryz.prog 164 #[S l] w (AI 2 w):=by
 have hc:=Xp l [45];rw [ht]at hc;have hne:(t == [])=false:=(by rw [beq_eq_false_iff_ne];rintro rfl;simp at h2);have zM:(200:Int)<(t.length:Int):=(by omega);clear ht;go_enter Tryz.func164,Tryz.ntmps164;(go_wp2_with fail);(with_reducible refine(hc _).mono ?_);rintro e w1 ⟨rfl,hx1⟩;go_wp2;go_ret;exact⟨rfl,hx1⟩
theorem wK(l m:Bs)(mn:Bool)(ht:Lib.trimPrefix l [45]=48::m)(hmn:[45].isPrefixOf l=mn)(h2:(48::m).length<=200)(h3:m≠[]∨mn=true)(w:World):Calls Tryz.prog 164 #[S l] w (AI 2 w):=by
 have hc:=Xp l [45];rw [ht,hmn]at hc;obtain⟨s,hs⟩:=Asw (⟨(48::m).toArray⟩:ByteArray);have hsz:s.size=m.length+1:=(by rw [hs,Gi];rfl);obtain⟨c,Yk⟩:=Asw (48:UInt8);have hs0:0<s.size:=(by omega);have e0:s[0]=c:=(by rw [Yk];subst hs;rw [Tz];rfl);have hce:((c.toNat:Int) == 48)=true:=(by rw [Yk];rfl);have hsm:(s.size:Int)<=200:=(by simp only [List.length_cons]at h2;omega);have Ar5:¬(200:Int)<(s.size:Int):=(by omega);have hc:∀w,Calls Tryz.prog 201 #[S l,S [45]] w (BA (.tuple #[.string s,.bool mn]) w):=(by rw [hs];exact hc);have hne:=dJ hs0
 rcases h3 with h3|h3
 ·have h1:(1:Int)<(s.size:Int):=(by have:=List.length_pos_iff.2 h3;omega);clear ht hmn hs hsz Yk h3;go_enter Tryz.func164,Tryz.ntmps164;(go_wp2_with fail);(with_reducible refine(hc _).mono ?_);rintro e w1 ⟨rfl,hx1⟩;go_wp2;go_ret;exact⟨rfl,hx1⟩
 ·subst h3;clear ht hmn hs Yk
  rcases Nat.lt_or_ge 1 s.size with h1|h1
  all_goals
   go_enter Tryz.func164,Tryz.ntmps164;(go_wp2_with fail);(with_reducible refine(hc _).mono ?_);rintro e w1 ⟨rfl,hx1⟩;go_wp2;go_ret;exact⟨rfl,hx1⟩
theorem Agf(l t:Bs)(mn:Bool)(s:ByteArray)(hc:∀w,Calls Tryz.prog 201 #[S l,S [45]] w (BA (.tuple #[.string s,.bool mn]) w))(J4:Hid (s.size=t.length))(hs0:0<s.size)(hsm:(s.size:Int)<=200)
  (HG:Hid (∀(j:Nat) (h:j<s.size) (h':j<t.length),s[j]=t[j])) (c:UInt8) (e0:s[0]=c) (b:Bool) (HB:Hid (b=true↔Da t)) (hf:((c.toNat:Int) == 48)=false) (w:World):Calls Tryz.prog 164 #[S l] w (AI (Gj b) w):=by
 have hne:=dJ hs0
 have H5:s.toList.isEmpty=false:=by cases h:s.toList with|nil=>exact absurd h hne|cons _ _=>rfl
 have jW:decide ((200:Int)<(s.size:Int))=false:=(by rw [decide_eq_false_iff_not];omega);go_enter Tryz.func164,Tryz.ntmps164;(go_wp2_with fail);(with_reducible refine(hc _).mono ?_);rintro e w1 ⟨rfl,hx1⟩;go_wp2;clear hc hne H5 jW hf e0
 go_loop [33] (fun i=>∃j:Nat,j<=s.size/\i=.int .i64 (j:Nat)/\Da (t.take j)) (fun i=>s.size-(intOf i).toNat)
 case atStart=>exact⟨0,by omega,rfl,by simp [uM]⟩
 case round=>
  obtain⟨j,hj,rfl,hall⟩:=hrel;by_cases hlt:j<s.size
  ·have JW:j<t.length:=(by rw [←J4.out];exact hlt);obtain⟨d,hd⟩:∃d,s[j]=d:=⟨_,rfl⟩;have Mi:t[j]=d:=(by rw [←hd,HG.out j hlt JW]);have HD:=Asx Mi;clear Mi;by_cases JR:Ge d
   ·have d1:=JR.1;have d2:=JR.2;have c1:¬(d.toNat:Int)<48:=(by omega);have c2:¬(57:Int)<(d.toNat:Int):=(by omega);clear d1 d2;go_wp2
    go_round
    case rel=>exact⟨j+1,by omega,by go_num,by rw [As3 JW,HD.out];exact WY.2 ⟨hall,by intro x hx;simp only [AsC]at hx;rw [hx];exact JR⟩⟩
    case measure=>simp [intOf];omega
   ·have I4:b=false:=by
     cases b
     ·rfl
     ·exact absurd (HB.out.1 rfl _ (As1 JW)) (by rw [HD.out];exact JR)
    subst I4;rw [Nu];by_cases c1:(d.toNat:Int)<48
    ·go_wp2;go_ret;exact⟨rfl,hx1⟩
    ·have c2:(57:Int)<(d.toNat:Int):=by refine Classical.byContradiction fun h=>JR ⟨by omega,by omega⟩
     go_wp2;go_ret;exact⟨rfl,hx1⟩
  ·have En:b=true:=HB.out.2 (by rw [As8 (by rw [←J4.out];omega)]at hall;exact hall);subst En;rw [Iv];have hle:(s.size:Int)<=(j:Int):=(by omega);go_wp2;go_ret;exact⟨rfl,hx1⟩
theorem Agg(l t:Bs)(mn:Bool)(s:ByteArray)(hc:∀w,Calls Tryz.prog 201 #[S l,S [45]] w (BA (.tuple #[.string s,.bool mn]) w))(J4:Hid (s.size=t.length))(hs0:0<s.size)(hsm:(s.size:Int)<=200)
  (HG:Hid (∀(j:Nat) (h:j<s.size) (h':j<t.length),s[j]=t[j])) (c:UInt8) (e0:s[0]=c) (b:Bool) (HB:Hid (b=true↔Da t)) (hf:((c.toNat:Int) == 48)=true) (hs1:s.size=1) (hmn:mn=false) (w:World):Calls Tryz.prog 164 #[S l] w (AI (Gj b) w):=by
 have hne:=dJ hs0
 have H5:s.toList.isEmpty=false:=by cases h:s.toList with|nil=>exact absurd h hne|cons _ _=>rfl
 have jW:decide ((200:Int)<(s.size:Int))=false:=(by rw [decide_eq_false_iff_not];omega);have h1:decide ((1:Int)<(s.size:Int))=false:=(by rw [decide_eq_false_iff_not];omega);subst hmn;clear hs1;go_enter Tryz.func164,Tryz.ntmps164;(go_wp2_with fail);(with_reducible refine(hc _).mono ?_);rintro e w1 ⟨rfl,hx1⟩;go_wp2;clear hc hne H5 jW hf e0
 go_loop [33] (fun i=>∃j:Nat,j<=s.size/\i=.int .i64 (j:Nat)/\Da (t.take j)) (fun i=>s.size-(intOf i).toNat)
 case atStart=>exact⟨0,by omega,rfl,by simp [uM]⟩
 case round=>
  obtain⟨j,hj,rfl,hall⟩:=hrel;by_cases hlt:j<s.size
  ·have JW:j<t.length:=(by rw [←J4.out];exact hlt);obtain⟨d,hd⟩:∃d,s[j]=d:=⟨_,rfl⟩;have Mi:t[j]=d:=(by rw [←hd,HG.out j hlt JW]);have HD:=Asx Mi;clear Mi;by_cases JR:Ge d
   ·have d1:=JR.1;have d2:=JR.2;have c1:¬(d.toNat:Int)<48:=(by omega);have c2:¬(57:Int)<(d.toNat:Int):=(by omega);clear d1 d2;go_wp2
    go_round
    case rel=>exact⟨j+1,by omega,by go_num,by rw [As3 JW,HD.out];exact WY.2 ⟨hall,by intro x hx;simp only [AsC]at hx;rw [hx];exact JR⟩⟩
    case measure=>simp [intOf];omega
   ·have I4:b=false:=by
     cases b
     ·rfl
     ·exact absurd (HB.out.1 rfl _ (As1 JW)) (by rw [HD.out];exact JR)
    subst I4;rw [Nu];by_cases c1:(d.toNat:Int)<48
    ·go_wp2;go_ret;exact⟨rfl,hx1⟩
    ·have c2:(57:Int)<(d.toNat:Int):=by refine Classical.byContradiction fun h=>JR ⟨by omega,by omega⟩
     go_wp2;go_ret;exact⟨rfl,hx1⟩
  ·have En:b=true:=HB.out.2 (by rw [As8 (by rw [←J4.out];omega)]at hall;exact hall);subst En;rw [Iv];have hle:(s.size:Int)<=(j:Int):=(by omega);go_wp2;go_ret;exact⟨rfl,hx1⟩
theorem wJ(l t:Bs)(mn:Bool)(ht:Lib.trimPrefix l [45]=t)(hmn:[45].isPrefixOf l=mn)(h0:t≠[])(h2:t.length<=200)(h3:∀m,t=48::m→m = []/\mn=false)
  (b:Bool) (hb:b=true↔Da t) (w:World):Calls Tryz.prog 164 #[S l] w (AI (Gj b) w):=by
 have hc0:=Xp l [45];rw [ht,hmn]at hc0;obtain⟨s,hs⟩:=Asw (⟨t.toArray⟩:ByteArray);have hsz:s.size=t.length:=(by rw [hs,Gi]);have hs0:0<s.size:=by have:=List.length_pos_iff.2 h0;omega
 have EU:∀(j:Nat) (h:j<s.size) (h':j<t.length),s[j]=t[j]:=by intro j h h';subst hs;rw [Tz];simp [List.getD,h']
 have hsm:(s.size:Int)<=200:=(by omega);have hc:∀w,Calls Tryz.prog 201 #[S l,S [45]] w (BA (.tuple #[.string s,.bool mn]) w):=(by rw [hs];exact hc0);clear hc0;by_cases h:s[0]=48
 ·match t,h0,EU,h3,hsz,hb with
  | d::m,_,EU,h3,hsz,hb=>have:=EU 0 hs0 (by simp);rw [h]at this;simp only [List.getElem_cons_zero]at this;obtain⟨hm,hf⟩:=h3 m (by rw [this]);exact Agg l _ mn s hc (Asx hsz) hs0 hsm (Asx EU) _ rfl b (Asx hb) (by rw [h];rfl) (by rw [hsz,hm];rfl) hf w
 ·refine Agf l _ mn s hc (Asx hsz) hs0 hsm (Asx EU) _ rfl b (Asx hb) ?_ w;rw [beq_eq_false_iff_ne];intro e;exact h (UInt8.toNat_inj.1 (by simp;omega))
open Classical in
theorem Vr(l:Bs)(w:World):Calls Tryz.prog 164 #[S l] w (AI (if LE l then 0 else 2) w):=by
 by_cases h:ZY (Lib.trimPrefix l [45]) ([45].isPrefixOf l)
 ·rw [if_pos ((wQ l).2 h)];exact wJ l _ _ rfl rfl h.ne h.len h.zero true ⟨fun _=>h.all,fun _=>rfl⟩ w
 ·rw [if_neg (fun k=>h ((wQ l).1 k))];by_cases h1:Lib.trimPrefix l [45] = []
  ·exact Agd l h1 w
  ·by_cases h2:200<(Lib.trimPrefix l [45]).length
   ·exact Age l _ rfl h2 w
   ·rcases(Ago _ _).1 h with h3|h3|⟨m,e,h3⟩|⟨j,hj,h3⟩
    ·exact absurd h3 h1
    ·exact absurd h3 h2
    ·exact wK l m _ e rfl (by rw [←e];omega) h3 w
    ·by_cases h4:∀m,Lib.trimPrefix l [45]=48::m→m = []/\[45].isPrefixOf l=false
     ·exact wJ l _ _ rfl rfl h1 (by omega) h4 false (Iff.intro (fun k=>by cases k) (fun k=>absurd (k _ (As1 hj)) h3)) w
     ·obtain⟨m,e⟩:∃m,Lib.trimPrefix l [45]=48::m/\(m≠[]∨[45].isPrefixOf l=true):=by
       refine Classical.byContradiction fun k=>h4 fun m e=>?_;constructor
       ·exact Classical.byContradiction fun q=>k ⟨m,e,.inl q⟩
       ·rcases hq:[45].isPrefixOf l with _|_
        ·rfl
        ·exact absurd ⟨m,e,.inr hq⟩ k
      exact wK l m _ e.1 rfl (by rw [←e.1];omega) e.2 w
theorem Abu(n:Int)(d:Nat)(hd:0<d)(Jl:-9000000000000000000<=n)(Ci:n<=9000000000000000000)(Hv:d<=9000000000000000000)(w:World)(hw:Aj w) :
  Calls Tryz.prog 211 #[.int .i64 n,.int .i64 (d:Nat)] w (BW (R (mkRat n d)) w):=by
 obtain⟨g,hg⟩:=Asw (Nat.gcd n.natAbs d);have hg0:0<g:=(by rw [hg];exact Nat.gcd_pos_of_pos_right _ hd);obtain⟨n',hn'⟩:=Asw (n/(g:Nat):Int);obtain⟨d',De⟩:=Asw (d/g:Nat);have hR:R (mkRat n d)=Gm n' d':=(by rw [tW n hd,←hg,←hn',←De]);have hgn:((g:Nat):Int)∣n:=Int.natAbs_dvd_natAbs.1 (by rw [As2,hg];exact Nat.gcd_dvd_left ..);have e1:n.tdiv (g:Int)=n':=(by rw [hn',Int.tdiv_eq_ediv_of_dvd hgn]);have e2:(d:Int)/(g:Int)=(d':Int):=(by rw [De];simp);have b1:n'.natAbs<=n.natAbs:=(by rw [hn'];exact nX _ _ hgn);have b2:d'<=d:=(by rw [De];exact Nat.div_le_self _ _);have hgd:g<=d:=(by rw [hg];exact Nat.gcd_le_right _ hd);have ln:(I n').length<=20:=OJ (z:=n') (k:=19) (by omega) (by omega);have ld:(D d').length<=19:=II (by omega) (by omega);have HR:=Asx hR;have HG:=Asx hg;have H1:=Asx e1;have H2:=Asx e2;have i1:=fun W hW=>RJ n' (by omega) (by omega) W hW;have i2:=fun W hW=>RJ (d':Int) (by omega) (by omega) W hW;clear hR hg e1 e2 hn' De hgn;go_enter Tryz.func211,Tryz.ntmps211;go_wp2
 go_loopw [5,6] (fun x y wr=>∃a b:Int,x=.int .i64 a/\y=.int .i64 b/\Int.gcd a b=g/\a.natAbs<=9000000000000000000/\b.natAbs<=9000000000000000000/\Ab w wr) (fun _ y _=>(intOf y).natAbs)
 case atStart=>exact⟨n,d,rfl,rfl,by rw [HG.out];rfl,by omega,by omega,Ab.refl _⟩
 case round=>
  obtain⟨a,b,rfl,rfl,Hy,ha,hb,Ae⟩:=hrel;by_cases hb0:b=0
  ·subst hb0;have Rk:a.natAbs=g:=(by rw [←Hy];simp);by_cases Ld:a<0
   case' pos=>obtain rfl:a = -(g:Int):=by omega
   case' neg=>obtain rfl:a=(g:Int):=by omega
   all_goals
    clear Rk Hy;have e1:=H1.out;have e2:=H2.out;have NR:(0:Int)<(g:Int):=(by omega);have Yz:((g:Int) == 0)=false:=(by rw [beq_eq_false_iff_ne];omega);by_cases GM:d'=1
    ·subst GM;have HF:Hid (R (mkRat n d)=I n'):=Asx (by rw [HR.out];rfl);(go_wp2_with fail)
     go_quiet (fail)
     (go_wp2_with fail);(with_reducible refine(i1 _ (hw.ext (Ae.drewN _))).mono ?_);rintro e w3 ⟨rfl,hx3⟩;go_wp2;go_ret;exact⟨Ie (by rw [HF.out]),(Ae.drewN _).trans hx3⟩
    ·have HF:Hid (R (mkRat n d)=I n'++47::D d'):=Asx (by rw [HR.out];exact if_neg GM);have kz:((d':Int) == 1)=false:=(by rw [beq_eq_false_iff_ne];omega);rw [Gd]at i2;clear GM;(go_wp2_with fail)
     go_quiet (fail)
     (go_wp2_with fail);(with_reducible refine(i1 _ (hw.ext (Ae.drewN _))).mono ?_);rintro e w3 ⟨rfl,hx3⟩;have hx3:=(Ae.drewN _).trans hx3;(go_wp2_with fail);(with_reducible refine(i2 _ (hw.ext hx3)).mono ?_);rintro e w4 ⟨rfl,Ao⟩;go_wp2;go_ret;exact⟨Ie (by rw [HF.out];apply ByteArray.ext;simp),hx3.trans Ao⟩
  ·have hlt:=Aap a hb0;have Rr:(a.tmod b).natAbs<=9000000000000000000:=AsA (Nat.le_of_lt hlt) hb;have Jh:=zJ a b;have NM:(b != 0)=true:=(by rw [bne_iff_ne];exact hb0);have A7:(b == 0)=false:=(by rw [beq_eq_false_iff_ne];exact hb0);have MZ:=Asx (Jh.trans Hy);clear Jh Hy;(go_wp2_with fail)
   go_quiet (fail)
   go_wp2;go_roundw
   case rel=>exact⟨b,a.tmod b,rfl,rfl,MZ.out,hb,Rr,Ae.drewN _⟩
   case measure=>exact hlt
theorem vM(l:Bs)(j:Nat)(h:j<(⟨l.toArray⟩:ByteArray).size):(⟨l.toArray⟩:ByteArray)[j]=l[j]'(by rw [Gi]at h;exact h):=by
 rw [ByteArray.getElem_eq_getElem_data];simp
attribute [local go_sem] vM
def AN(q:Rat):Int:=if q=0 then 0 else if q<0 then -1 else 1
theorem AbJ{q:Rat}(h:q<0):AN q = -1:=by unfold AN;rw [if_neg (by rintro rfl;exact Rat.lt_irrefl h),if_pos h]
theorem qA{q:Rat}(h:0<q):AN q=1:=by
 unfold AN;rw [if_neg (by rintro rfl;exact Rat.lt_irrefl h),if_neg (by grind)]
theorem Ip{q:Rat}(h:q≠0):(R q == [48])=false:=by rw [beq_eq_false_iff_ne];exact fun e=>h (tU.1 e)
theorem cI{q:Rat}(h:q≠1):(R q == [49])=false:=by rw [beq_eq_false_iff_ne];exact fun e=>h (AeB.1 e)
theorem Nm{k:Nat}{q:Rat}(hk:0<k)(h:Sz k q):(R q).length<=2*k+2:=by
 have h1:=OJ hk h.num;have h2:=II hk h.den;rw [Nl];unfold Gm
 split
 ·omega
 ·rw [List.length_append,List.length_cons];omega
theorem PU(q:Rat)(w:World):Calls Tryz.prog 119 #[S (R q)] w (AI (AN q) w):=by
 by_cases h0:q=0
 ·subst h0;rw [KD];go_enter Tryz.func119,Tryz.ntmps119;go_wp2;go_ret;exact⟨rfl,Ab.refl _⟩
 ·have h1:=Ip h0
  rcases cH q with⟨hn,e⟩|⟨hp,c,l,e,hd,hc⟩
  ·have HS:=Asx (AbJ hn);obtain⟨c,hc⟩:=Asw (45:UInt8);have hl:0<(R q).length:=(by rw [e];simp);have hg:(R q)[0]'hl=c:=(by rw [List.getElem_of_eq e hl,hc];rfl);have hcb:((c.toNat:Int) == 45)=true:=(by rw [hc];rfl);clear e hc hn;go_enter Tryz.func119,Tryz.ntmps119;go_wp2;go_ret;exact⟨FZ HS.out,Ab.refl _⟩
  ·have HS:=Asx (qA (q:=q) (by grind));have hl:0<(R q).length:=(by rw [e];simp);have hg:(R q)[0]'hl=c:=(by rw [List.getElem_of_eq e hl];rfl);have hcb:((c.toNat:Int) == 45)=false:=(by rw [beq_eq_false_iff_ne];intro k;exact hc (UInt8.toNat_inj.1 (by simp;omega)));clear e hc hp hd;go_enter Tryz.func119,Tryz.ntmps119;go_wp2;go_ret;exact⟨FZ HS.out,Ab.refl _⟩
theorem AnB(q:Rat){k:Nat}(hk:0<k)(hk2:k<=100000)(hz:Sz k q)(w:World):Calls Tryz.prog 214 #[S (R q)] w (BW (R (-q)) w):=by
 have hlen:=Nm hk hz;by_cases h0:q=0
 ·subst h0;rw [Rat.neg_zero,KD];go_enter Tryz.func214,Tryz.ntmps214;go_wp2;go_ret;exact⟨rfl,Ab.refl _⟩
 ·have h1:=Ip h0
  rcases cH q with⟨hn,e⟩|⟨hp,c,l,e,hd,hc⟩
  ·obtain⟨c,hc⟩:=Asw (45:UInt8);have hl:0<(R q).length:=(by rw [e];simp);have hg:(R q)[0]'hl=c:=(by rw [List.getElem_of_eq e hl,hc];rfl);have hcb:((c.toNat:Int) == 45)=true:=(by rw [hc];rfl);have HD:Hid ((R q).drop 1=R (-q)):=Asx (by rw [e];rfl);have GM:(1:Int)<=((R q).length:Int):=(by omega);clear e hc hn;go_enter Tryz.func214,Tryz.ntmps214;go_wp2;go_ret;exact⟨Ie (by rw [←HD.out];first|exact Ahv _ _|(rw [Xv];simp)),Ab.refl _⟩
  ·have HD:Hid (R (-q)=45::R q):=Asx (by
    have:=tX (q:=-q) (by grind)
    rw [this,Rat.neg_neg])
   have hl:0<(R q).length:=(by rw [e];simp);have hg:(R q)[0]'hl=c:=(by rw [List.getElem_of_eq e hl];rfl);have hcb:((c.toNat:Int) == 45)=false:=(by rw [beq_eq_false_iff_ne];intro k;exact hc (UInt8.toNat_inj.1 (by simp;omega)));clear e hc hp hd;go_enter Tryz.func214,Tryz.ntmps214;go_wp2;go_ret;exact⟨Ie (by rw [HD.out];apply ByteArray.ext;simp),Ab.refl _⟩
theorem An7(n:Int)(d:Nat)(hn:BV n)(hd:d<Big)(w:World):Calls Tryz.prog 221 #[S (I n),S (D d)] w (BW (Gm n d) w):=by
 have ln:=hn.len;have ld:(D d).length<=4000:=II (k:=dL) (by decide) hd;by_cases h:d=1
 ·subst h;have HF:Hid (Gm n 1=I n):=Asx (if_pos rfl);rw [Wg];go_enter Tryz.func221,Tryz.ntmps221;go_wp2;go_ret;exact⟨Ie (by rw [HF.out]),Ab.refl _⟩
 ·have HF:Hid (Gm n d=I n++47::D d):=Asx (if_neg h);have hb:(D d == [49])=false:=(by rw [beq_eq_false_iff_ne,←Wg];exact fun e=>h (Wd e));clear h;go_enter Tryz.func221,Tryz.ntmps221;go_wp2;go_ret;exact⟨Ie (by rw [HF.out];apply ByteArray.ext;simp),Ab.refl _⟩
def Sb(q:Rat):Value:=.tuple #[S (I q.num),S (D q.den)]
theorem Abt(q:Rat){k:Nat}(hk:0<k)(hk2:k<=100000)(hz:Sz k q)(w:World)(hw:Aj w):Calls Tryz.prog 187 #[S (R q)] w (BA (Sb q) w):=by
 have hlen:=Nm hk hz;have hc:=cut_c (R q) [47] w hw (by omega);rw [WO]at hc;by_cases h:q.den=1
 ·rw [if_pos h]at hc;have HP:Hid (Sb q=.tuple #[S (I q.num),S [49]]):=Asx (by unfold Sb;rw [h,Wg]);clear h;go_enter Tryz.func187,Tryz.ntmps187;(go_wp2_with fail);(with_reducible refine hc.mono ?_);rintro e w1 ⟨rfl,hx1⟩;go_wp2;go_ret2;exact⟨Jv HP.out,hx1⟩
 ·rw [if_neg h]at hc;have HP:Hid (Sb q=.tuple #[S (I q.num),S (D q.den)]):=Asx rfl;clear h;go_enter Tryz.func187,Tryz.ntmps187;(go_wp2_with fail);(with_reducible refine hc.mono ?_);rintro e w1 ⟨rfl,hx1⟩;go_wp2;go_ret2;exact⟨Jv HP.out,hx1⟩
end Go.Proofs.YtnddllipjippnaaGreatDoor
namespace Go.Proofs.YtnddllipjippnaaGreatDoor
open Go.RowKit Kl
theorem Abr(n m:Int)(hm:0<m)(hn:BV n)(hd:BV m)(w:World):Calls Tryz.prog 221 #[S (I n),S (I m)] w (BW (Gm n m.toNat) w):=by
 obtain⟨d,rfl⟩:=Int.eq_ofNat_of_zero_le (Int.le_of_lt hm);rw [Gd];exact An7 n d hn hd w
theorem Akx(x y:Int)(hx:(I x).length<=18)(hy:(I y).length<=18)(w:World)(hw:Aj w):Calls Tryz.prog 166 #[S (I x),S (I y)] w (BW (I (Int.gcd x y:Nat)) w):=by
 rw [Gd];exact Aky x y hx hy w hw
theorem BV.of{z:Int}{k:Nat}(h:z.natAbs<10^k)(hk:k<=4000):BV z:=As9 h (Nat.pow_le_pow_right (by omega) hk)
theorem AnC(q:Rat){k:Nat}(hk:0<k)(hk2:k<=100000)(hz:Sz k q)(w:World)(hw:Aj w):Calls Tryz.prog 187 #[S (R q)] w (BA (.tuple #[S (I q.num),S (I (q.den:Int))]) w):=by
 have h:=Abt q hk hk2 hz w hw;unfold Sb at h;rw [Gd];exact h
structure Rm(a b:Nat)(p q:Rat):Prop where
 p:Sz a p
 q:Sz b q
 a0:0<a
 b0:0<b
 le:a<=9/\b<=9
section
variable {a b : Nat} {p q : Rat}
theorem Rm.lp(h:Rm a b p q):(R p).length<=100000:=by have:=Nm h.a0 h.p;have:=h.le;omega
theorem Rm.lq(h:Rm a b p q):(R q).length<=100000:=by have:=Nm h.b0 h.q;have:=h.le;omega
theorem Rm.bn(h:Rm a b p q):BV p.num:=BV.of h.p.num (by have:=h.le;omega)
theorem Rm.bd(h:Rm a b p q):BV (p.den:Int):=BV.of (k:=a) (by rw [As2];exact h.p.den) (by have:=h.le;omega)
theorem Rm.bm(h:Rm a b p q):BV q.num:=BV.of h.q.num (by have:=h.le;omega)
theorem Rm.be(h:Rm a b p q):BV (q.den:Int):=BV.of (k:=b) (by rw [As2];exact h.q.den) (by have:=h.le;omega)
theorem Rm.ne'(h:Rm a b p q):(p.num*(q.den:Int)).natAbs<10^(a+b):=by rw [Int.natAbs_mul,As2];exact M8 h.p.num h.q.den
theorem Rm.md'(h:Rm a b p q):(q.num*(p.den:Int)).natAbs<10^(a+b):=by rw [Int.natAbs_mul,As2,Nat.add_comm];exact M8 h.q.num h.p.den
theorem Rm.ne(h:Rm a b p q):BV (p.num*(q.den:Int)):=BV.of h.ne' (by have:=h.le;omega)
theorem Rm.md(h:Rm a b p q):BV (q.num*(p.den:Int)):=BV.of h.md' (by have:=h.le;omega)
theorem Rm.nm(h:Rm a b p q):BV (p.num*q.num):=BV.of (k:=a+b) (by rw [Int.natAbs_mul];exact M8 h.p.num h.q.num) (by have:=h.le;omega)
theorem Rm.de(h:Rm a b p q):BV ((p.den:Int)*(q.den:Int)):=BV.of (k:=a+b) (by rw [Int.natAbs_mul,As2,As2];exact M8 h.p.den h.q.den) (by have:=h.le;omega)
end
def Hb(q:Rat):Prop:=(D q.num.natAbs).length<=9/\(D q.den).length<=9
theorem Acv{k:Nat}{q:Rat}(h:Sz k q)(hk:k<=9):Hb q:=⟨II (by omega) (h.mono hk).num,II (by omega) (h.mono hk).den⟩
theorem Rm.s1{a b:Nat}{p q:Rat}(h:Rm a b p q):Hb p:=Acv h.p h.le.1
theorem Rm.s2{a b:Nat}{p q:Rat}(h:Rm a b p q):Hb q:=Acv h.q h.le.2
theorem Sj{q:Rat}(h:Hb q):VM q=.tuple #[.int .i64 q.num,.int .i64 q.den,.bool true]:=if_pos h
theorem Hb.num{q:Rat}(h:Hb q):q.num.natAbs<1000000000:=PO (k:=9) h.1
theorem Hb.den{q:Rat}(h:Hb q):q.den<1000000000:=PO (k:=9) h.2
theorem Sl(q:Rat)(hl:(R q).length<=100000)(w:World):Calls Tryz.prog 186 #[S (R q)] w (fun e w'=>e=.returned (VM q)/\w=w'):=AnD q hl w
theorem Ts{x y:Int}(hx:x.natAbs<1000000000)(hy:y.natAbs<1000000000):(x*y).natAbs<=999999998000000001:=by
 rw [Int.natAbs_mul];exact Aan hx hy
theorem Anz(p q:Rat){a b:Nat}(hr:Rm a b p q)(Dp:p≠0)(Bd:q≠0)(h1:Hb p)(h2:Hb q)(w:World)(hw:Aj w):Calls Tryz.prog 168 #[S (R p),S (R q)] w (BW (R (p+q)) w):=by
 have q1:=Sl p hr.lp;have q2:=Sl q hr.lq;rw [Sj h1]at q1;rw [Sj h2]at q2;have n1:=Ip Dp;have n2:=Ip Bd;clear Dp Bd;have w1:=Qc (x:=p.num) (y:=(q.den:Int)) h1.num (by rw [As2];exact h2.den);have w2:=Qc (x:=q.num) (y:=(p.den:Int)) h2.num (by rw [As2];exact h1.den);have w3:=Qc (x:=(p.den:Int)) (y:=(q.den:Int)) (by rw [As2];exact h1.den) (by rw [As2];exact h2.den);have b1:=Ts (x:=p.num) (y:=(q.den:Int)) h1.num (by rw [As2];exact h2.den);have b2:=Ts (x:=q.num) (y:=(p.den:Int)) h2.num (by rw [As2];exact h1.den);have b3:=Ts (x:=(p.den:Int)) (y:=(q.den:Int)) (by rw [As2];exact h1.den) (by rw [As2];exact h2.den);have w4:IntKind.i64.wrap (p.num*(q.den:Int)+q.num*(p.den:Int))=p.num*(q.den:Int)+q.num*(p.den:Int):=As6 _ (by omega);have sm:=Abu (p.num*(q.den:Int)+q.num*(p.den:Int)) (p.den*q.den) (Nat.mul_pos p.den_pos q.den_pos) (by omega) (by omega) (by rw [←Int.natCast_mul,As2]at b3;omega);rw [Int.natCast_mul,←Rat.add_def']at sm;clear b1 b2 b3;have hx:=Ab.refl w;clear h1 h2 hr;go_enter Tryz.func168,Tryz.ntmps168;(go_wp2_with fail);(with_reducible refine(q1 _).mono ?_);rintro e w1 ⟨rfl,rfl⟩;(go_wp2_with fail);(with_reducible refine(q2 _).mono ?_);rintro e w2 ⟨rfl,rfl⟩;(go_wp2_with fail);(with_reducible refine(sm _ hw).mono ?_);rintro e w3 ⟨rfl,hx3⟩;go_wp2;go_ret;exact⟨rfl,hx3⟩
theorem ZC(p q:Rat){a b:Nat}(hr:Rm a b p q)(w:World)(hw:Aj w):Calls Tryz.prog 168 #[S (R p),S (R q)] w (BW (R (p+q)) w):=by
 by_cases Dp:p=0
 ·subst Dp;rw [Rat.zero_add,KD];clear hr;go_enter Tryz.func168,Tryz.ntmps168;go_wp2;go_ret;exact⟨rfl,Ab.refl _⟩
 ·by_cases Bd:q=0
  ·subst Bd;rw [Rat.add_zero,KD];have n1:=Ip Dp;clear hr Dp;go_enter Tryz.func168,Tryz.ntmps168;go_wp2;go_ret;exact⟨rfl,Ab.refl _⟩
  ·exact Anz p q hr Dp Bd hr.s1 hr.s2 w hw
theorem AnA(p q:Rat){a b:Nat}(hr:Rm a b p q)(Dp:p≠0)(Bd:q≠0)(GO:p≠1)(Bl:q≠1)(h1:Hb p)(h2:Hb q)(w:World)(hw:Aj w):Calls Tryz.prog 169 #[S (R p),S (R q)] w (BW (R (p*q)) w):=by
 have q1:=Sl p hr.lp;have q2:=Sl q hr.lq;rw [Sj h1]at q1;rw [Sj h2]at q2;have n1:=Ip Dp;have n2:=Ip Bd;have n3:=cI GO;have n4:=cI Bl;clear Dp Bd GO Bl;have w1:=Qc (x:=p.num) (y:=q.num) h1.num h2.num;have w3:=Qc (x:=(p.den:Int)) (y:=(q.den:Int)) (by rw [As2];exact h1.den) (by rw [As2];exact h2.den);have b1:=Ts (x:=p.num) (y:=q.num) h1.num h2.num;have b3:=Ts (x:=(p.den:Int)) (y:=(q.den:Int)) (by rw [As2];exact h1.den) (by rw [As2];exact h2.den);have sm:=Abu (p.num*q.num) (p.den*q.den) (Nat.mul_pos p.den_pos q.den_pos) (by omega) (by omega) (by rw [←Int.natCast_mul,As2]at b3;omega);rw [Int.natCast_mul,←Rat.mul_def']at sm;clear b1 b3;have hx:=Ab.refl w;clear h1 h2 hr;go_enter Tryz.func169,Tryz.ntmps169;(go_wp2_with fail);(with_reducible refine(q1 _).mono ?_);rintro e w1 ⟨rfl,rfl⟩;(go_wp2_with fail);(with_reducible refine(q2 _).mono ?_);rintro e w2 ⟨rfl,rfl⟩;(go_wp2_with fail);(with_reducible refine(sm _ hw).mono ?_);rintro e w3 ⟨rfl,hx3⟩;go_wp2;go_ret;exact⟨rfl,hx3⟩
theorem MB(p q:Rat){a b:Nat}(hr:Rm a b p q)(w:World)(hw:Aj w):Calls Tryz.prog 169 #[S (R p),S (R q)] w (BW (R (p*q)) w):=by
 by_cases Dp:p=0
 ·subst Dp;rw [Rat.zero_mul,KD];clear hr;go_enter Tryz.func169,Tryz.ntmps169;go_wp2;go_ret;exact⟨rfl,Ab.refl _⟩
 by_cases Bd:q=0
 ·subst Bd;rw [Rat.mul_zero,KD];have n1:=Ip Dp;clear hr Dp;go_enter Tryz.func169,Tryz.ntmps169;go_wp2;go_ret;exact⟨rfl,Ab.refl _⟩
 by_cases GO:p=1
 ·subst GO;rw [Rat.one_mul,WR];have n1:=Ip Bd;clear hr Bd Dp;go_enter Tryz.func169,Tryz.ntmps169;go_wp2;go_ret;exact⟨rfl,Ab.refl _⟩
 by_cases Bl:q=1
 ·subst Bl;rw [Rat.mul_one,WR];have n1:=Ip Dp;have n2:=cI GO;clear hr Bd Dp GO;go_enter Tryz.func169,Tryz.ntmps169;go_wp2;go_ret;exact⟨rfl,Ab.refl _⟩
 exact AnA p q hr Dp Bd GO Bl hr.s1 hr.s2 w hw
def AO(p q:Rat):Int:=if p<q then -1 else if p=q then 0 else 1
theorem wX{p q:Rat}(h:p<q):AO p q = -1:=if_pos h
theorem dV{p q:Rat}(h:p=q):AO p q=0:=by unfold AO;rw [if_neg (by rw [h];exact Rat.lt_irrefl),if_pos h]
theorem wW{p q:Rat}(h:q<p):AO p q=1:=by
 unfold AO;rw [if_neg (by grind),if_neg (by rintro rfl;exact Rat.lt_irrefl h)]
theorem Agp(p q:Rat):EM (p.num*(q.den:Int)) (q.num*(p.den:Int))=AO p q:=by
 unfold EM AO;by_cases h:p<q
 ·rw [if_pos (Rat.lt_iff _ _ |>.1 h),if_pos h]
 ·rw [if_neg (fun k=>h (Rat.lt_iff _ _ |>.2 k)),if_neg h];by_cases e:p=q
  ·rw [if_pos (Rat.eq_iff_mul_eq_mul.1 e),if_pos e]
  ·rw [if_neg (fun k=>e (Rat.eq_iff_mul_eq_mul.2 k)),if_neg e]
theorem An5(p q:Rat){a b:Nat}(hr:Rm a b p q)(hne:p≠q)(h1:Hb p)(h2:Hb q)(w:World):Calls Tryz.prog 142 #[S (R p),S (R q)] w (AI (AO p q) w):=by
 have q1:=Sl p hr.lp;have q2:=Sl q hr.lq;rw [Sj h1]at q1;rw [Sj h2]at q2;have n1:(R p == R q)=false:=(by rw [beq_eq_false_iff_ne];exact fun e=>hne (WQ e));have w1:=Qc (x:=p.num) (y:=(q.den:Int)) h1.num (by rw [As2];exact h2.den);have w2:=Qc (x:=q.num) (y:=(p.den:Int)) h2.num (by rw [As2];exact h1.den);have hc:=Agp p q;obtain⟨x,hx⟩:=Asw (p.num*(q.den:Int));obtain⟨y,hy⟩:=Asw (q.num*(p.den:Int));rw [←hx]at w1 hc;rw [←hy]at w2 hc;rw [hx]at w1;rw [hy]at w2;have w1':IntKind.i64.wrap (p.num*(q.den:Int))=x:=(by rw [hx];exact w1);have w2':IntKind.i64.wrap (q.num*(p.den:Int))=y:=(by rw [hy];exact w2);have HC:=Asx hc;clear h1 h2 hr hne w1 w2 hx hy hc
 rcases Int.lt_trichotomy x y with h|h|h
 ·have HR:=Asx (wY h);go_enter Tryz.func142,Tryz.ntmps142;(go_wp2_with fail);(with_reducible refine(q1 _).mono ?_);rintro e w1 ⟨rfl,rfl⟩;(go_wp2_with fail);(with_reducible refine(q2 _).mono ?_);rintro e w2 ⟨rfl,rfl⟩;go_wp2;go_ret;exact⟨FZ (by rw [←HC.out,HR.out]),Ab.refl _⟩
 ·have HR:=Asx (Ags h);have h1:¬x<y:=(by omega);have h2:¬y<x:=(by omega);clear h;go_enter Tryz.func142,Tryz.ntmps142;(go_wp2_with fail);(with_reducible refine(q1 _).mono ?_);rintro e w1 ⟨rfl,rfl⟩;(go_wp2_with fail);(with_reducible refine(q2 _).mono ?_);rintro e w2 ⟨rfl,rfl⟩;go_wp2;go_ret;exact⟨FZ (by rw [←HC.out,HR.out]),Ab.refl _⟩
 ·have HR:=Asx (dX h);have h1:¬x<y:=(by omega);go_enter Tryz.func142,Tryz.ntmps142;(go_wp2_with fail);(with_reducible refine(q1 _).mono ?_);rintro e w1 ⟨rfl,rfl⟩;(go_wp2_with fail);(with_reducible refine(q2 _).mono ?_);rintro e w2 ⟨rfl,rfl⟩;go_wp2;go_ret;exact⟨FZ (by rw [←HC.out,HR.out]),Ab.refl _⟩
theorem G0(p q:Rat){a b:Nat}(hr:Rm a b p q)(w:World)(_:Aj w):Calls Tryz.prog 142 #[S (R p),S (R q)] w (AI (AO p q) w):=by
 by_cases Rz:p=q
 ·subst Rz;have HR:=Asx (dV (rfl:p=p));have n1:(R p == R p)=true:=(by simp);clear hr;go_enter Tryz.func142,Tryz.ntmps142;go_wp2;go_ret;exact⟨FZ HR.out,Ab.refl _⟩
 exact An5 p q hr Rz hr.s1 hr.s2 w
theorem Rm.swap{a b:Nat}{p q:Rat}(h:Rm a b p q):Rm b a q p:=⟨h.q,h.p,h.b0,h.a0,by have:=h.le;omega⟩
theorem An8(p q:Rat){a b:Nat}(hr:Rm a b p q)(w:World)(hw:Aj w):Calls Tryz.prog 218 #[S (R p),S (R q)] w (BW (R (Kk p q)) w):=by
 have hc:=G0 q p hr.swap w hw;clear hr;by_cases h:p<q
 ·have HM:Hid (Kk p q=q):=Asx (if_pos h);rw [wW h]at hc;go_enter Tryz.func218,Tryz.ntmps218;(go_wp2_with fail);(with_reducible refine hc.mono ?_);rintro e w1 ⟨rfl,hx⟩;go_wp2;go_ret;exact⟨Ie (by rw [HM.out]),hx⟩
 ·have HM:Hid (Kk p q=p):=Asx (if_neg h)
  obtain⟨s,hs,hs0⟩:∃s:Int,s=AO q p/\¬s>0:=by
   by_cases e:q=p
   ·exact⟨_,rfl,by rw [dV e];omega⟩
   ·exact⟨_,rfl,by rw [wX (by grind)];omega⟩
  rw [←hs]at hc;clear hs h;go_enter Tryz.func218,Tryz.ntmps218;(go_wp2_with fail);(with_reducible refine hc.mono ?_);rintro e w1 ⟨rfl,hx⟩;go_wp2;go_ret;exact⟨Ie (by rw [HM.out]),hx⟩
theorem An9(p q:Rat){a b:Nat}(hr:Rm a b p q)(w:World)(hw:Aj w):Calls Tryz.prog 217 #[S (R p),S (R q)] w (BW (R (Km p q)) w):=by
 have hc:=G0 q p hr.swap w hw;clear hr;by_cases h:q<p
 ·have HM:Hid (Km p q=q):=Asx (if_pos h);rw [wX h]at hc;go_enter Tryz.func217,Tryz.ntmps217;(go_wp2_with fail);(with_reducible refine hc.mono ?_);rintro e w1 ⟨rfl,hx⟩;go_wp2;go_ret;exact⟨Ie (by rw [HM.out]),hx⟩
 ·have HM:Hid (Km p q=p):=Asx (if_neg h)
  obtain⟨s,hs,hs0⟩:∃s:Int,s=AO q p/\¬s<0:=by
   by_cases e:q=p
   ·exact⟨_,rfl,by rw [dV e];omega⟩
   ·exact⟨_,rfl,by rw [wW (by grind)];omega⟩
  rw [←hs]at hc;clear hs h;go_enter Tryz.func217,Tryz.ntmps217;(go_wp2_with fail);(with_reducible refine hc.mono ?_);rintro e w1 ⟨rfl,hx⟩;go_wp2;go_ret;exact⟨Ie (by rw [HM.out]),hx⟩
theorem Ff(p q:Rat){a b:Nat}(hr:Rm a b p q)(w:World)(hw:Aj w):Calls Tryz.prog 170 #[S (R p),S (R q)] w (BW (R (p-q)) w):=by
 have hn:=AnB q hr.b0 (by have:=hr.le;omega) hr.q;have ha:=ZC p (-q) (a:=a) (b:=b) ⟨hr.p,hr.q.neg,hr.a0,hr.b0,hr.le⟩;rw [←Rat.sub_eq_add_neg]at ha;clear hr;go_enter Tryz.func170,Tryz.ntmps170;(go_wp2_with fail);(with_reducible refine(hn _).mono ?_);rintro e w1 ⟨rfl,hx1⟩;(go_wp2_with fail);(with_reducible refine(ha _ (hw.ext hx1)).mono ?_);rintro e w2 ⟨rfl,hx2⟩;go_wp2;go_ret;exact⟨rfl,hx1.trans hx2⟩
theorem Abv(n:Int)(h0:-9223372036854775808<=n)(h1:n<=9223372036854775807)(w:World)(hw:Aj w):Calls Tryz.prog 190 #[.int .i64 n] w (BW (R (n:Rat)) w):=by
 have ho:=xf n h0 h1 w hw;rw [tV];clear h0 h1;go_enter Tryz.func190,Tryz.ntmps190;(go_wp2_with fail);(with_reducible refine ho.mono ?_);rintro e w1 ⟨rfl,hx1⟩;go_wp2;go_ret;exact⟨rfl,hx1⟩
theorem AeE{q:Rat}(h:0<q):R q⁻¹=Gm (q.den:Int) q.num.toNat:=by
 have hn:0<q.num:=Aax.2 h;rw [Nl,Rat.num_inv,Rat.den_inv,if_neg (by omega),Int.sign_eq_one_of_pos hn,Int.one_mul,show q.num.natAbs=q.num.toNat by omega]
theorem AeD{q:Rat}(h:q<0):R q⁻¹=Gm (-(q.den:Int)) (-q.num).toNat:=by
 have hn:q.num<0:=Kn.2 h;rw [Nl,Rat.num_inv,Rat.den_inv,if_neg (by omega),Int.sign_eq_neg_one_of_neg hn,Int.neg_one_mul,show q.num.natAbs=(-q.num).toNat by omega]
theorem BV.neg{z:Int}(h:BV z):BV (-z):=by unfold BV at h ⊢;rw [Int.natAbs_neg];exact h
def ZE(q:Rat):Value:=.tuple #[S (R q),.int .i64 0]
attribute [local go_sem] vM
theorem An6(p q:Rat)(Bd:q≠0){a b:Nat}(hr:Rm a b p q)(w:World)(hw:Aj w):Calls Tryz.prog 178 #[S (R p),S (R q)] w (BA (ZE (p/q)) w):=by
 have n1:=Ip Bd;have pb:=AnC q hr.b0 (by have:=hr.le;omega) hr.q;have hm:=MB p q⁻¹ (a:=a) (b:=b) ⟨hr.p,hr.q.inv hr.b0,hr.a0,hr.b0,hr.le⟩;rw [←Rat.div_def]at hm
 rcases cH q with⟨hn,e⟩|⟨hp,c,l,e,hd,hc⟩
 ·rw [AeD hn]at hm;have nY:=ww q.num hr.bm;have nZ:=ww (q.den:Int) hr.be;have hj:=Abr (-(q.den:Int)) (-q.num) (by have:=Kn.2 hn;omega) hr.be.neg hr.bm.neg;obtain⟨c,hc⟩:=Asw (45:UInt8);have hl:0<(R q).length:=(by rw [e];simp);have hg:(R q)[0]'hl=c:=(by rw [List.getElem_of_eq e hl,hc];rfl);have hcb:((c.toNat:Int) == 45)=true:=(by rw [hc];rfl);clear e hc hn hr Bd;unfold ZE;go_enter Tryz.func178,Tryz.ntmps178;(go_wp2_with fail);(with_reducible refine(pb _ hw).mono ?_);rintro e w1 ⟨rfl,hx⟩;(go_wp2_with fail);(with_reducible refine(nY _).mono ?_);rintro e w2 ⟨rfl,hx2⟩;replace hx:=hx.trans hx2;(go_wp2_with fail);(with_reducible refine(nZ _).mono ?_);rintro e w3 ⟨rfl,hx3⟩;replace hx:=hx.trans hx3;(go_wp2_with fail);(with_reducible refine(hj _).mono ?_);rintro e w4 ⟨rfl,Ao⟩;replace hx:=hx.trans Ao;(go_wp2_with fail);(with_reducible refine(hm _ (hw.ext hx)).mono ?_);rintro e w5 ⟨rfl,As⟩;replace hx:=hx.trans As;go_wp2;go_ret2;exact⟨rfl,hx⟩
 ·have hp:0<q:=(by grind);rw [AeE hp]at hm;have hj:=Abr (q.den:Int) q.num (Aax.2 hp) hr.be hr.bm;have hl:0<(R q).length:=(by rw [e];simp);have hg:(R q)[0]'hl=c:=(by rw [List.getElem_of_eq e hl];rfl);have hcb:((c.toNat:Int) == 45)=false:=(by rw [beq_eq_false_iff_ne];intro k;exact hc (UInt8.toNat_inj.1 (by simp;omega)));clear e hc hp hd hr Bd;unfold ZE;go_enter Tryz.func178,Tryz.ntmps178;(go_wp2_with fail);(with_reducible refine(pb _ hw).mono ?_);rintro e w1 ⟨rfl,hx⟩;(go_wp2_with fail);(with_reducible refine(hj _).mono ?_);rintro e w4 ⟨rfl,Ao⟩;replace hx:=hx.trans Ao;(go_wp2_with fail);(with_reducible refine(hm _ (hw.ext hx)).mono ?_);rintro e w5 ⟨rfl,As⟩;replace hx:=hx.trans As;go_wp2;go_ret2;exact⟨rfl,hx⟩
end Go.Proofs.YtnddllipjippnaaGreatDoor
namespace Go.Proofs.YtnddllipjippnaaGreatDoor
open Go.RowKit Kl
theorem BV.of_len{z:Int}{k:Nat}(h:(D z.natAbs).length<=k)(hk:k<=4000):BV z:=BV.of (PO h) hk
section
variable {l n d : Bs}
theorem An4(hl:l.length<100000)(hn:(47:UInt8)∉l)(b:Bool)(hb:∀W,Calls Tryz.prog 164 #[S l] W (AI (Gj b) W))(w:World)(hw:Aj w) :
  Calls Tryz.prog 114 #[S l] w (AI (Gj b) w):=by
 have hc:=cut_c l [47] w hw (by omega);rw [eB hn]at hc
 cases b
 ·rw [Nu]at hb ⊢;go_enter Tryz.func114,Tryz.ntmps114;(go_wp2_with fail);(with_reducible refine hc.mono ?_);rintro e w1 ⟨rfl,hx⟩;(go_wp2_with fail);(with_reducible refine(hb _).mono ?_);rintro e w2 ⟨rfl,hx2⟩;go_wp2;go_ret;exact⟨rfl,hx.trans hx2⟩
 ·rw [Iv]at hb ⊢;go_enter Tryz.func114,Tryz.ntmps114;(go_wp2_with fail);(with_reducible refine hc.mono ?_);rintro e w1 ⟨rfl,hx⟩;(go_wp2_with fail);(with_reducible refine(hb _).mono ?_);rintro e w2 ⟨rfl,hx2⟩;go_wp2;go_ret;exact⟨rfl,hx.trans hx2⟩
theorem An3(hl:(n++47::d).length<100000)(hn:(47:UInt8)∉n)(hb:∀W,Calls Tryz.prog 164 #[S n] W (AI 2 W))(w:World)(hw:Aj w) :
  Calls Tryz.prog 114 #[S (n++47::d)] w (AI 2 w):=by
 have hc:=cut_c (n++47::d) [47] w hw (by omega);rw [Q6 hn]at hc;go_enter Tryz.func114,Tryz.ntmps114;(go_wp2_with fail);(with_reducible refine hc.mono ?_);rintro e w1 ⟨rfl,hx⟩;(go_wp2_with fail);(with_reducible refine(hb _).mono ?_);rintro e w2 ⟨rfl,hx2⟩;go_wp2;go_ret;exact⟨rfl,hx.trans hx2⟩
theorem An2(hl:(n++47::d).length<100000)(hn:(47:UInt8)∉n)(ha:∀W,Calls Tryz.prog 164 #[S n] W (AI 0 W))(hb:∀W,Calls Tryz.prog 164 #[S d] W (AI 2 W))(w:World)(hw:Aj w) :
  Calls Tryz.prog 114 #[S (n++47::d)] w (AI 2 w):=by
 have hc:=cut_c (n++47::d) [47] w hw (by omega);rw [Q6 hn]at hc;go_enter Tryz.func114,Tryz.ntmps114;(go_wp2_with fail);(with_reducible refine hc.mono ?_);rintro e w1 ⟨rfl,hx⟩;(go_wp2_with fail);(with_reducible refine(ha _).mono ?_);rintro e w2 ⟨rfl,hx2⟩;replace hx:=hx.trans hx2;(go_wp2_with fail);(with_reducible refine(hb _).mono ?_);rintro e w3 ⟨rfl,hx3⟩;replace hx:=hx.trans hx3;go_wp2;go_ret;exact⟨rfl,hx⟩
end
theorem tO{z:Int}(h:(D z.natAbs).length<=17):(I z).length<=18:=by
 rcases Ev z with⟨n,rfl,e⟩|⟨n,hn,rfl,e⟩
 ·rw [e];simp only [As2]at h;omega
 ·rw [e,List.length_cons];simp only [Int.natAbs_neg,As2]at h;omega
theorem rI(z:Int):(D z.natAbs).length<=(I z).length:=by
 rcases Ev z with⟨n,rfl,e⟩|⟨n,hn,rfl,e⟩
 ·rw [e,As2];exact As0 _
 ·rw [e,List.length_cons,Int.natAbs_neg,As2];omega
def ML(a b:Int):Bool:=decide (1<b)&&decide (a≠0)&&decide (Int.gcd a b=1)
theorem An0(a b:Int)(kT:(D a.natAbs).length<=17)(NW:(D b.natAbs).length<=17)(w:World)(hw:Aj w) :
  Calls Tryz.prog 114 #[S (I a++47::I b)] w (AI (Gj (ML a b)) w):=by
 have ba:=BV.of_len kT (by omega);have bb:=BV.of_len NW (by omega);have l1:=ba.len;have l2:=bb.len;have hc:=cut_c (I a++47::I b) [47] w hw (by rw [List.length_append,List.length_cons];omega);rw [Q6 (bW a)]at hc;have ca:=Vr (I a);have cb:=Vr (I b);rw [if_pos ⟨a,rfl,by omega⟩]at ca;rw [if_pos ⟨b,rfl,by omega⟩]at cb;have hb1:BV 1:=BV.of (k:=1) (by decide) (by omega);have cp:=Akw b 1 bb hb1;rw [Tf]at cp;have gc:=Akx a b (tO kT) (tO NW);have hlen:(I a++47::I b).length<10000:=(by rw [List.length_append,List.length_cons];omega);obtain⟨l,hl⟩:=Asw (I a++47::I b);rw [←hl]at hc ⊢;clear hl kT NW ba bb hlen;by_cases h1:1<b
 ·rw [dX h1]at cp;by_cases h2:a=0
  ·have HV:Hid (Gj (ML a b)=2):=Asx (by unfold ML;rw [decide_eq_false (p:=a≠0) (by simpa using h2)];simp;rfl);have hz:(I a == [48])=true:=(by rw [h2,WJ];rfl);clear gc h2;go_enter Tryz.func114,Tryz.ntmps114;(go_wp2_with fail);(with_reducible refine hc.mono ?_);rintro e w1 ⟨rfl,hx⟩;(go_wp2_with fail);(with_reducible refine(ca _).mono ?_);rintro e w2 ⟨rfl,hx2⟩;replace hx:=hx.trans hx2;(go_wp2_with fail);(with_reducible refine(cb _).mono ?_);rintro e w3 ⟨rfl,hx3⟩;replace hx:=hx.trans hx3;(go_wp2_with fail);(with_reducible refine(cp _).mono ?_);rintro e w4 ⟨rfl,Ao⟩;replace hx:=hx.trans Ao;go_wp2;go_ret;exact⟨FZ HV.out,hx⟩
  ·have hz:=tP h2
   have HV:Hid (Gj (ML a b)=if Int.gcd a b=1 then 0 else 2):=Asx (by
    unfold ML;rw [decide_eq_true h1,decide_eq_true (p:=a≠0) h2];by_cases h:Int.gcd a b=1
    ·rw [if_pos h,decide_eq_true h];rfl
    ·rw [if_neg h,decide_eq_false h];rfl)
   by_cases h3:Int.gcd a b=1
   ·rw [if_pos h3]at HV;have hg1:(I (Int.gcd a b:Nat) == [49])=true:=(by rw [h3];rw [show ((1:Nat):Int)=1 from rfl,Tf];rfl);clear h3 h2;go_enter Tryz.func114,Tryz.ntmps114;(go_wp2_with fail);(with_reducible refine hc.mono ?_);rintro e w1 ⟨rfl,hx⟩;(go_wp2_with fail);(with_reducible refine(ca _).mono ?_);rintro e w2 ⟨rfl,hx2⟩;replace hx:=hx.trans hx2;(go_wp2_with fail);(with_reducible refine(cb _).mono ?_);rintro e w3 ⟨rfl,hx3⟩;replace hx:=hx.trans hx3;(go_wp2_with fail);(with_reducible refine(cp _).mono ?_);rintro e w4 ⟨rfl,Ao⟩;replace hx:=hx.trans Ao;(go_wp2_with fail);(with_reducible refine(gc _ (hw.ext hx)).mono ?_);rintro e w5 ⟨rfl,As⟩;replace hx:=hx.trans As;go_wp2;go_ret;exact⟨FZ HV.out,hx⟩
   ·rw [if_neg h3]at HV;have hg1:(I (Int.gcd a b:Nat) == [49])=false:=Ae0 (by omega);clear h3 h2;go_enter Tryz.func114,Tryz.ntmps114;(go_wp2_with fail);(with_reducible refine hc.mono ?_);rintro e w1 ⟨rfl,hx⟩;(go_wp2_with fail);(with_reducible refine(ca _).mono ?_);rintro e w2 ⟨rfl,hx2⟩;replace hx:=hx.trans hx2;(go_wp2_with fail);(with_reducible refine(cb _).mono ?_);rintro e w3 ⟨rfl,hx3⟩;replace hx:=hx.trans hx3;(go_wp2_with fail);(with_reducible refine(cp _).mono ?_);rintro e w4 ⟨rfl,Ao⟩;replace hx:=hx.trans Ao;(go_wp2_with fail);(with_reducible refine(gc _ (hw.ext hx)).mono ?_);rintro e w5 ⟨rfl,As⟩;replace hx:=hx.trans As;go_wp2;go_ret;exact⟨FZ HV.out,hx⟩
 ·have HV:Hid (Gj (ML a b)=2):=Asx (by unfold ML;rw [decide_eq_false h1];rfl);obtain⟨s,hs,hs0⟩:∃s:Int,s=EM b 1/\s<=0:=⟨_,rfl,by unfold EM;split<;>(try split)<;>omega⟩;rw [←hs]at cp;clear hs gc h1;go_enter Tryz.func114,Tryz.ntmps114;(go_wp2_with fail);(with_reducible refine hc.mono ?_);rintro e w1 ⟨rfl,hx⟩;(go_wp2_with fail);(with_reducible refine(ca _).mono ?_);rintro e w2 ⟨rfl,hx2⟩;replace hx:=hx.trans hx2;(go_wp2_with fail);(with_reducible refine(cb _).mono ?_);rintro e w3 ⟨rfl,hx3⟩;replace hx:=hx.trans hx3;(go_wp2_with fail);(with_reducible refine(cp _).mono ?_);rintro e w4 ⟨rfl,Ao⟩;replace hx:=hx.trans Ao;go_wp2;go_ret;exact⟨FZ HV.out,hx⟩
open Classical in
theorem Agm(l:Bs):(if LE l then (0:Int)else 2)=Gj (decide (LE l)):=by
 by_cases h:LE l
 ·rw [if_pos h,decide_eq_true h];rfl
 ·rw [if_neg h,decide_eq_false h];rfl
open Classical in
theorem An1(l:Bs)(hl9:l.length<=17)(w:World)(hw:Aj w):Calls Tryz.prog 114 #[S l] w (AI (Gj (decide (Du l))) w):=by
 have hl:l.length<100000:=by omega
 rcases AgB l with⟨n,d,rfl,hn,-⟩|⟨hn,-⟩
 ·have ca:=Vr n;have cb:=Vr d;by_cases h1:LE n
  ·rw [if_pos h1]at ca;by_cases h2:LE d
   ·obtain⟨a,rfl,ha⟩:=h1;obtain⟨b,rfl,hb⟩:=h2;rw [List.length_append,List.length_cons]at hl9;have:=rI a;have:=rI b;have h:=An0 a b (by omega) (by omega) w hw
    have e:ML a b=decide (Du (I a++47::I b)):=by
     rw [Bool.eq_iff_iff,decide_eq_true_eq,Z0 hn];unfold ML;simp only [Bool.and_eq_true,decide_eq_true_eq];constructor
     ·rintro⟨⟨x1,x2⟩,x3⟩;exact⟨a,b,rfl,rfl,ha,hb,x1,x2,x3⟩
     ·rintro⟨a',b',e1,e2,_,_,x1,x2,x3⟩;obtain rfl:=OI e1;obtain rfl:=OI e2;exact⟨⟨x1,x2⟩,x3⟩
    rw [←e];exact h
   ·rw [if_neg h2]at cb
    have e:decide (Du (n++47::d))=false:=by rw [decide_eq_false_iff_not,Z0 hn];rintro⟨a,b,_,e2,_,hb,_⟩;exact h2 ⟨b,e2,hb⟩
    rw [e];exact An2 hl hn ca cb w hw
  ·rw [if_neg h1]at ca
   have e:decide (Du (n++47::d))=false:=by rw [decide_eq_false_iff_not,Z0 hn];rintro⟨a,b,e1,_,ha,_⟩;exact h1 ⟨a,e1,ha⟩
   rw [e];exact An3 hl hn ca w hw
 ·have ca:=Vr l;simp only [Agm]at ca;have e:decide (Du l)=decide (LE l):=(by rw [Bool.eq_iff_iff,decide_eq_true_eq,decide_eq_true_eq];exact Amz hn);rw [e];exact An4 hl hn _ ca w hw
structure Ad(w:World)(A:Option Addr)(cs:List Value):Prop where
 ad:0<cs.length→∃b o,A=some ⟨b,o,none⟩/\∀j (h:j<cs.length),w.cell? ⟨b,o+j,none⟩=some cs[j]
theorem Ad.ext{w w':World}{A:Option Addr}{cs:List Value}(h:Ad w A cs)(hx:Ab w w'):Ad w' A cs:=
 ⟨fun h0=>by
  obtain⟨b,o,e,hc⟩:=h.ad h0
  exact⟨b,o,e,fun j hj=>hx.cellS (hc j hj)⟩⟩
theorem Ad.lit(w:World)(cs:Array Value)(t:TypeId):Ad (w.alloc (.cells cs t)) (some ⟨w.heap.size,0,none⟩) cs.toList:=
 ⟨fun _=>⟨w.heap.size,0,rfl,fun j hj=>by
  refine Aa (Asz w _) ?_
  rw [Nat.zero_add,←Array.getElem?_toList,As5 hj]⟩⟩
def Zw(l:List Bs):Prop:=∀x∈l,Du x
theorem Amm{x y:Bs} : Zw [x,y]↔Du x/\Du y:=by unfold Zw;simp
open Classical in
theorem Aay(l:List Bs)(ok:Bool)(Ai:ok=true↔Zw l)(A:Option Addr)(c:Nat)(w:World)(hw:Aj w)(hr:Ad w A (l.map S))(_:l.length<=c)(_:c<=9223372036854775807)(hl:l.length<=100000)(hlen:∀x∈l,x.length<=17) :
  Calls Tryz.prog 61 #[.slice A l.length c] w (AI (Gj ok) w):=by
 have HV:=Asx Ai;have HL:=Asx hlen;clear Ai hlen;go_enter Tryz.func61,Tryz.ntmps61;go_wp2
 go_loopw [8] (fun i wr=>∃j:Nat,i=.int .i64 (j:Nat)/\j<=l.length/\(∀x∈l.take j,Du x)/\Ab w wr) (fun i _=>l.length-(intOf i).toNat)
 case atStart=>exact⟨0,rfl,by omega,by simp,Ab.refl _⟩
 case round=>
  obtain⟨j,rfl,hj,Ai,Ae⟩:=hrel;have HO:=Asx Ai;clear Ai;by_cases hlt:j<l.length
  ·obtain⟨b,o,rfl,hcs⟩:=(hr.ext Ae).ad (by simp;omega);have hg:=hcs j (by simp;omega);rw [List.getElem_map]at hg;clear hcs;obtain⟨x,hx⟩:=Asw (l[j]);rw [←hx]at hg;have hmem:x∈l:=(by rw [hx];exact As1 hlt);have ck:=An1 x (HL.out x hmem) wr (hw.ext Ae);have HX:=Asx hx;clear hx;have hj0:(0:Int)<=(j:Int):=(by omega);have Ay:(j:Int)<(l.length:Int):=(by omega);by_cases hx:Du x
   ·rw [decide_eq_true hx,Iv]at ck;(go_wp2_with fail);(with_reducible refine ck.mono ?_);rintro e w2 ⟨rfl,hx2⟩;go_wp2;go_roundw
    case rel=>
     refine⟨j+1,by go_num,hlt,?_,Ae.trans hx2⟩;intro y hy;rw [As3 hlt,←HX.out]at hy
     rcases List.mem_append.1 hy with h|h
     ·exact HO.out y h
     ·simp only [AsC]at h;rw [h];exact hx
    case measure=>simp [intOf];omega
   ·rw [decide_eq_false hx,Nu]at ck
    have hv:ok=false:=by
     cases ok
     ·rfl
     ·exact absurd (HV.out.1 rfl x hmem) hx
    subst hv;rw [Nu];(go_wp2_with fail);(with_reducible refine ck.mono ?_);rintro e w2 ⟨rfl,hx2⟩;go_wp2;go_ret;exact⟨rfl,Ae.trans hx2⟩
  ·have hv:ok=true:=HV.out.2 (by
    have:=HO.out
    rwa [As8 (by omega)]at this)
   subst hv;rw [Iv];go_wp2;go_ret;exact⟨rfl,Ae⟩
theorem Ns(x y:Bs)(ok:Bool)(Ai:ok=true↔Du x/\Du y)(hx:x.length<=17)(hy:y.length<=17)(w:World)(hw:Aj w) :
  Calls Tryz.prog 32 #[.agg #[S x,S y]] w (AI (Gj ok) w):=by
 have e1:=(Ab.refl w).alloc (.cells #[S x,S y] 24);have e2:=e1.alloc (.cells #[S x,S y] 22);have hr:=Ad.lit (w.alloc (.cells #[S x,S y] 24)) #[S x,S y] 22;have nm:=Aay [x,y] ok (by rw [Ai,Amm]) _ 2 _ (hw.ext e2) hr (by simp) (by omega) (by simp) (by intro z hz;simp only [List.mem_cons,AsB,or_false]at hz;rcases hz with rfl|rfl<;>assumption);simp only [List.length_cons,List.length_nil,Nat.zero_add,Nat.reduceAdd,As7]at nm;clear hr Ai;go_enter Tryz.func32,Tryz.ntmps32;(go_wp2_with fail);(with_reducible refine nm.mono ?_);rintro e w2 ⟨rfl,hx2⟩;go_wp2;go_ret;exact⟨rfl,e2.trans hx2⟩
def flat(l:List (Bs×Bs)):List Value:=l.flatMap fun p=>[S p.1,S p.2]
theorem flat_length(l:List (Bs×Bs)):(flat l).length=l.length*2:=by
 induction l with
 | nil=>rfl
 | cons p l ih=>unfold flat at *;simp only [List.flatMap_cons,List.length_append,List.length_cons,List.length_nil];omega
theorem flat_get:∀(l:List (Bs×Bs)) (j:Nat) (h:j<l.length),(flat l)[j*2]?=some (S l[j].1)/\(flat l)[j*2+1]?=some (S l[j].2)
 | p::l,0,_=>⟨rfl,rfl⟩
 | p::l,j+1,h=>by have ih:=flat_get l j (by simpa using h);have e:flat (p::l)=S p.1::S p.2::flat l:=rfl;rw [e,show (j+1)*2=j*2+1+1 by omega];exact ih
theorem fu:(1/2:Rat)=mkRat 1 2:=by rw [Rat.mkRat_eq_div];rfl
theorem AiB:(1/2:Rat).num=1:=by rw [fu,Rat.num_mkRat];decide
theorem Ai9:(1/2:Rat).den=2:=by rw [fu,Rat.den_mkRat];decide
theorem AeC:R (1/2) = [49,47,50]:=by
 rw [Nl,AiB,Ai9];unfold Gm;rw [if_neg (by omega),Tf,Gc (by omega)]
 rfl
theorem J9(w:World)(o1 o2 o3:Obj):∃W,W=((w.alloc o1).alloc o2).alloc o3/\Ab w W/\W.heap[w.heap.size]?=some o1/\W.heap[w.heap.size+1]?=some o2/\W.heap[w.heap.size+1+1]?=some o3:=by
 have h2:=Asz (w.alloc o1) o2;have h3:=Asz ((w.alloc o1).alloc o2) o3;rw [As7]at h2;rw [As7,As7]at h3;refine⟨_,rfl,(((Ab.refl _).alloc _).alloc _).alloc _,?_,?_,h3⟩
 ·exact(Below.heap_alloc _ _ _ (by simp;omega)).trans ((Below.heap_alloc _ _ _ (by simp)).trans (Asz w o1))
 ·exact(Below.heap_alloc _ _ _ (by simp)).trans h2
theorem set2{w:World}{b:Nat}{a0 a1:Value}(v0 v1:Value)(g1:w.cell? ⟨b,0,none⟩=some a0)(g2:w.cell? ⟨b,1,none⟩=some a1) :
  ((w.setCell ⟨b,0,none⟩ v0).setCell ⟨b,1,none⟩ v1).cell? ⟨b,0,none⟩=some v0/\((w.setCell ⟨b,0,none⟩ v0).setCell ⟨b,1,none⟩ v1).cell? ⟨b,1,none⟩=some v1:=by
 refine⟨(World.cell?_setCell_other _ _ _ _ (by simp)).trans (World.cell?_setCell_same _ _ _ g1),?_⟩;exact World.cell?_setCell_same _ _ _ ((World.cell?_setCell_other _ _ _ _ (by simp)).trans g2)
def Af(p:Pt):Value:=.agg #[S (R p.x),S (R p.y)]
def A8(s:Sg):Value:=.agg #[S (R s.a.x),S (R s.a.y),S (R s.b.x),S (R s.b.y)]
structure Aw(k:Nat)(p:Pt):Prop where
 x:Sz k p.x
 y:Sz k p.y
structure G7(k:Nat)(s:Sg):Prop where
 a:Aw k s.a
 b:Aw k s.b
theorem Acy{i j m:Nat}{x y k:Rat}(hx:Sz i x)(hy:Sz j y)(hk:Sz m k):Sz (2*i+j+m+2) (Di x y k):=
 (hx.add (hk.mul (hy.sub hx))).mono (by omega)
structure Kx(W:World)(b:Nat)(p:Pt):Prop where
 k1:W.cell? ⟨b,0,none⟩=some (S (R p.x))
 k2:W.cell? ⟨b,1,none⟩=some (S (R p.y))
theorem Kx.ext{W V:World}{b:Nat}{p:Pt}(h:Kx W b p)(hx:Ab W V):Kx V b p:=⟨hx.cellS h.k1,hx.cellS h.k2⟩
end Go.Proofs.YtnddllipjippnaaGreatDoor
namespace Go.Proofs.YtnddllipjippnaaGreatDoor
end Go.Proofs.YtnddllipjippnaaGreatDoor
namespace Go.Proofs.YtnddllipjippnaaGreatDoor
open Go.RowKit Kl
theorem Kp{q:Rat}{k:Nat}(h:Sz k q)(hk:0<k)(hk2:k<=200):Du (R q):=
 ⟨q,rfl,AsA (II hk h.num) hk2,AsA (II hk h.den) hk2⟩
theorem MO{q:Rat}{k:Nat}(h:Sz k q)(hk:0<k)(hk2:k<=7):(R q).length<=17:=by have:=Nm hk h;omega
def Lo(p:Pt):Bs×Bs:=(R p.x,R p.y)
theorem Qz{w:World}{b:Nat}{a0 a1 a2 a3:Value}{t:TypeId}(v0 v1 v2 v3:Value)(h:w.heap[b]?=some (.cells #[a0,a1,a2,a3] t)) :
  ((((w.setCell ⟨b,0,none⟩ v0).setCell ⟨b,1,none⟩ v1).setCell ⟨b,2,none⟩ v2).setCell ⟨b,3,none⟩ v3).heap[b]?=some (.cells #[v0,v1,v2,v3] t):=by
 simp only [World.setCell,Array.getElem?_modify,h];simp
end Go.Proofs.YtnddllipjippnaaGreatDoor
namespace Go.Proofs.YtnddllipjippnaaGreatDoor
end Go.Proofs.YtnddllipjippnaaGreatDoor
namespace Go.Proofs.YtnddllipjippnaaGreatDoor
open Go.RowKit Kl
theorem Aoh{P:Program}{w:World}(ts:Array TypeId)(t:TypeId)(k:IntKind)(a b c d e:Int):(Builtin.max_ ts t #[.int k a,.int k b,.int k c,.int k d,.int k e]).run P w=.ok (.int k (max (max (max (max a b) c) d) e)) w:=by
 have m:∀x y:Int,(if y>x then y else x)=max x y:=(by intro x y;split<;>omega);simp only [Builtin.max_,List.foldlM_cons,List.foldlM_nil,Builtin.max2];simp [m]
attribute [local go_sem] Aoh
theorem Qy{w:World}{b:Nat}{a0 a1:Value}{t:TypeId}(v0 v1:Value)(h:w.heap[b]?=some (.cells #[a0,a1] t)) :
  ((w.setCell ⟨b,0,none⟩ v0).setCell ⟨b,1,none⟩ v1).heap[b]?=some (.cells #[v0,v1] t):=by
 simp only [World.setCell,Array.getElem?_modify,h];simp
end Go.Proofs.YtnddllipjippnaaGreatDoor
namespace Go.Proofs.YtnddllipjippnaaGreatDoor
end Go.Proofs.YtnddllipjippnaaGreatDoor
namespace Go.Proofs.YtnddllipjippnaaGreatDoor
open Go.RowKit Kl
theorem Aby(z:Int)(h0:-9223372036854775808<=z)(h1:z<=9223372036854775807)(w:World)(hw:Aj w):Calls Tryz.prog 109 #[.int .i64 z] w (BW (I z) w):=by
 have hi:=RJ z h0 h1 w hw;clear h0 h1;go_enter Tryz.func109,Tryz.ntmps109;(go_wp2_with fail);(with_reducible refine hi.mono ?_);rintro e w1 ⟨rfl,hx1⟩;go_wp2;go_ret;exact⟨rfl,hx1⟩
structure Low(n:Int)(d g:Nat)(n':Int)(d':Nat):Prop where
 R:R (mkRat n d)=Gm n' d'
 e1:n.tdiv (g:Int)=n'
 e2:(d:Int)/(g:Int)=(d':Int)
 g0:0<g
 gd:g<=d
 b1:n'.natAbs<=n.natAbs
 b2:d'<=d
theorem Al4(n:Int){d:Nat}(hd:0<d):∃n' d',Low n d (Nat.gcd n.natAbs d) n' d':=by
 have hgn:((Nat.gcd n.natAbs d:Nat):Int)∣n:=Int.natAbs_dvd_natAbs.1 (by rw [As2];exact Nat.gcd_dvd_left ..);refine⟨n/(Nat.gcd n.natAbs d:Nat),d/Nat.gcd n.natAbs d,tW n hd,Int.tdiv_eq_ediv_of_dvd hgn,by simp,Nat.gcd_pos_of_pos_right _ hd,Nat.gcd_le_right _ hd,nX _ _ hgn,Nat.div_le_self _ _⟩
theorem AnK(n:Int)(d:Nat)(hd:0<d)(Jl:-9000000000000000000<=n)(Ci:n<=9000000000000000000)(Hv:d<=9000000000000000000)(w:World)(hw:Aj w) :
  Calls Tryz.prog 156 #[S (I n),S (I (d:Int))] w (BW (R (mkRat n d)) w):=by
 obtain⟨n',d',UN⟩:=Al4 n hd;obtain⟨g,hg⟩:=Asw (Nat.gcd n.natAbs d);rw [←hg]at UN;obtain⟨hR,e1,e2,hg0,hgd,b1,b2⟩:=UN;have ln:(I n').length<=20:=OJ (z:=n') (k:=19) (by omega) (by omega);have ld:(D d').length<=19:=II (by omega) (by omega);have dH:=dI n (by omega) (by omega);have at2:=dI (d:Int) (by omega) (by omega);have HR:=Asx hR;have HG:=Asx hg;have H1:=Asx e1;have H2:=Asx e2;have i1:=fun W hW=>RJ n' (by omega) (by omega) W hW;have i2:=fun W hW=>RJ (d':Int) (by omega) (by omega) W hW;rw [Gd]at i2;obtain⟨na,qf⟩:=Asw (n.natAbs:Nat);have Aj8:na<=9000000000000000000:=(by omega);have aY:=Asx qf;clear hR hg e1 e2 qf;by_cases Ld:n<0
 case' pos=>have Aj9:-n=(na:Int):=(by have:=aY.out;omega);go_enter Tryz.func156,Tryz.ntmps156;(go_wp2_with fail);(with_reducible refine(dH _).mono ?_);rintro e w1 ⟨rfl,hx⟩;(go_wp2_with fail);(with_reducible refine(at2 _).mono ?_);rintro e w2 ⟨rfl,hx2⟩;have hE:=hx.trans hx2;go_wp2;clear Aj9
 case' neg=>obtain⟨m,hm⟩:=Int.eq_ofNat_of_zero_le (show 0<=n by omega);obtain rfl:m=na:=(by have:=aY.out;omega);subst hm;go_enter Tryz.func156,Tryz.ntmps156;(go_wp2_with fail);(with_reducible refine(dH _).mono ?_);rintro e w1 ⟨rfl,hx⟩;(go_wp2_with fail);(with_reducible refine(at2 _).mono ?_);rintro e w2 ⟨rfl,hx2⟩;have hE:=hx.trans hx2;go_wp2
 all_goals
  clear dH at2 hx hx2
  go_loopw [9,10] (fun x y wr=>∃a b:Nat,x=.int .i64 (a:Nat)/\y=.int .i64 (b:Nat)/\Nat.gcd a b=g/\a<=9000000000000000000/\b<=9000000000000000000/\Ab w wr) (fun _ y _=>(intOf y).natAbs)
  case atStart=>exact⟨_,d,rfl,rfl,by rw [HG.out,←aY.out],Aj8,Hv,hE⟩
  case round=>
   obtain⟨a,b,rfl,rfl,Hy,ha,hb,Ae⟩:=hrel;by_cases hb0:b=0
   ·subst hb0;obtain rfl:a=g:=(by rw [←Hy];simp);clear Hy;have e1:=H1.out;have e2:=H2.out;have NR:(0:Int)<(a:Int):=(by omega);have Yz:((a:Int) == 0)=false:=(by rw [beq_eq_false_iff_ne];omega);by_cases GM:d'=1
    ·subst GM;have HF:Hid (R (mkRat _ d)=I n'):=Asx (by rw [HR.out];rfl);(go_wp2_with fail)
     go_quiet (fail)
     (go_wp2_with fail);(with_reducible refine(i1 _ (hw.ext (Ae.drewN _))).mono ?_);rintro e w3 ⟨rfl,hx3⟩;go_wp2;go_ret;exact⟨Ie (by rw [HF.out]),(Ae.drewN _).trans hx3⟩
    ·have HF:Hid (R (mkRat _ d)=I n'++47::D d'):=Asx (by rw [HR.out];exact if_neg GM);have kz:((d':Int) == 1)=false:=(by rw [beq_eq_false_iff_ne];omega);clear GM;(go_wp2_with fail)
     go_quiet (fail)
     (go_wp2_with fail);(with_reducible refine(i1 _ (hw.ext (Ae.drewN _))).mono ?_);rintro e w3 ⟨rfl,hx3⟩;have hx3:=(Ae.drewN _).trans hx3;(go_wp2_with fail);(with_reducible refine(i2 _ (hw.ext hx3)).mono ?_);rintro e w4 ⟨rfl,Ao⟩;go_wp2;go_ret;exact⟨Ie (by rw [HF.out];apply ByteArray.ext;simp),hx3.trans Ao⟩
   ·have hlt:a%b<b:=Nat.mod_lt _ (by omega);have NM:((b:Int) != 0)=true:=(by rw [bne_iff_ne];omega);have A7:((b:Int) == 0)=false:=(by rw [beq_eq_false_iff_ne];omega);have Ap:(0:Int)<(b:Int):=(by omega);have MZ:Hid (Nat.gcd b (a%b)=g):=Asx (by rw [←Hy,Nat.gcd_comm b,←Nat.gcd_rec,Nat.gcd_comm]);clear Hy;(go_wp2_with fail)
    go_quiet (fail)
    go_wp2;go_roundw
    case rel=>exact⟨b,a%b,rfl,by go_num,MZ.out,hb,by omega,Ae.drewN _⟩
    case measure=>simp [intOf];omega
theorem AnJ(n:Int)(d:Nat)(hd:0<d)(l1:(I n).length<=9)(l2:(I (d:Int)).length<=9)(w:World)(hw:Aj w) :
  Calls Tryz.prog 108 #[S (I n),S (I (d:Int))] w (BW (R (mkRat n d)) w):=by
 have b1:=ZM l1;have b2:=ZM l2;have e9:(10:Nat)^9=1000000000:=(by decide);rw [e9]at b1 b2;have sm:=AnK n d hd (by omega) (by omega) (by omega);have i1:decide (((I n).length:Int)<=9)=true:=(by rw [decide_eq_true_eq];omega);have i2:decide (((I (d:Int)).length:Int)<=9)=true:=(by rw [decide_eq_true_eq];omega);have l1':((I n).length:Int)<=9:=(by omega);have l2':((I (d:Int)).length:Int)<=9:=(by omega);clear b1 b2 e9 hd l1 l2;go_enter Tryz.func108,Tryz.ntmps108;(go_wp2_with fail);(with_reducible refine(sm _ hw).mono ?_);rintro e w3 ⟨rfl,hx3⟩;go_wp2;go_ret;exact⟨rfl,hx3⟩
theorem Abz(n:Int)(d:Nat)(hd:0<d)(h1:n.natAbs<10000000)(h2:d<10000000)(w:World)(hw:Aj w) :
  Calls Tryz.prog 54 #[.int .i64 n,.int .i64 (d:Nat)] w (BW (R (mkRat n d)) w):=by
 have e7:(10:Nat)^7=10000000:=(by decide);have l1:(I n).length<=9:=AsA (OJ (k:=7) (by omega) (by omega)) (by omega);have l2:(I (d:Int)).length<=9:=AsA (OJ (z:=(d:Int)) (k:=7) (by omega) (by rw [As2];omega)) (by omega);have o1:=Aby n (by omega) (by omega);have o2:=Aby (d:Int) (by omega) (by omega);have fr:=AnJ n d hd l1 l2;clear e7 l1 l2 hd h1 h2;go_enter Tryz.func54,Tryz.ntmps54;(go_wp2_with fail);(with_reducible refine(o1 _ hw).mono ?_);rintro e w1 ⟨rfl,hx⟩;(go_wp2_with fail);(with_reducible refine(o2 _ (hw.ext hx)).mono ?_);rintro e w2 ⟨rfl,hx2⟩;replace hx:=hx.trans hx2;(go_wp2_with fail);(with_reducible refine(fr _ (hw.ext hx)).mono ?_);rintro e w3 ⟨rfl,hx3⟩;go_wp2;go_ret;exact⟨rfl,hx.trans hx3⟩
end Go.Proofs.YtnddllipjippnaaGreatDoor
namespace Go.Proofs.YtnddllipjippnaaGreatDoor
end Go.Proofs.YtnddllipjippnaaGreatDoor
namespace Go.Proofs.YtnddllipjippnaaGreatDoor
open Go.RowKit Kl
theorem Aaj(x:Int):mkRat x 1=(x:Rat):=by
 apply Rat.ext
 ·rw [Rat.num_mkRat];simp
 ·rw [Rat.den_mkRat];simp
end Go.Proofs.YtnddllipjippnaaGreatDoor
namespace Go.Proofs.YtnddllipjippnaaGreatDoor
end Go.Proofs.YtnddllipjippnaaGreatDoor
