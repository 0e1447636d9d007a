/- K10: ShInt8 ShIntA ShIntG ShInt9 ShIntC ShR1 ShR2 ShR3 ShR4 ShR5 ShR6 ShG1 ShG2 ShG3 ShG4 ShG5 ShG6 ShG7 ShG8A ShG9 ShG10 ShG11 ShF1 ShF2 ShF3 ShF4 ShH1. -/
import Derived.Deep.DeepCutAuto
import Derived.RangeFuncNested
import Derived.RangeFuncBound
import Derived.Shelf.RegionOpen
import Derived.OwnWalkIn
import Derived.LoopNIn
import Derived.LoopIn
import Derived.StillTailTactics
import Derived.Deep.RegionHeld3
import Derived.Test.YtgnejnampofhoaaGreatDoorK05
set_option maxRecDepth 100000
set_option maxHeartbeats 2000000
namespace Go.Proofs.YtgnejnampofhoaaGreatDoor
open Go.RowKit Kl
theorem xZ{z:Int}{k:Nat}(h:(I z).length<=k):Sl z k=.tuple #[.int .i64 z,.bool true]:=if_pos h
theorem xY(z:Int)(w:World):Calls Tryz.prog 297 #[S (I z),.int .i64 18] w (Bp (Sl z 18) w):=AeS z 18 (by omega) w
theorem Vw{z:Int}{k:Nat}(h:(I z).length<=k):z.natAbs<10^k:=by
 rcases DD z with⟨n,rfl,e⟩|⟨n,hn,rfl,e⟩
 ·rw [e]at h;simpa using NA (n:=n) (k:=k) (by omega)
 ·rw [e,List.length_cons]at h;simpa using NA (n:=n) (k:=k) (by omega)
theorem NI{x y:Int}(hx:x.natAbs<1000000000)(hy:y.natAbs<1000000000):IntKind.i64.wrap (x*y)=x*y:=by
 have h:=vP hx hy;rw [←Int.natAbs_mul]at h;exact Aj5 _ (by omega)
theorem Aa{W:World}{b o:Nat}{cs:Array Value}{t:TypeId}{fz:Nat×Nat}{v:Value}(h:W.heap[b]?=some (.cells cs t fz))(hv:cs[o]?=some v):W.cell? ⟨b,o,none⟩=some v:=by
 unfold World.cell?;simp [h,hv]
theorem Aj{W:World}{b o:Nat}{cs:Array Value}{t:TypeId}(h:W.heap[b]?=some (.cells cs t)):W.frozen? ⟨b,o,none⟩=false:=by unfold World.frozen?;simp [h]
theorem mM(a b:Int):Int.gcd b (a.tmod b)=Int.gcd a b:=by
 unfold Int.gcd;rw [Int.natAbs_tmod,Nat.gcd_comm b.natAbs,←Nat.gcd_rec,Nat.gcd_comm]
theorem vQ(a:Int){b:Int}(h:b≠0):(a.tmod b).natAbs<b.natAbs:=by
 rw [Int.natAbs_tmod];exact Nat.mod_lt _ (by omega)
theorem Acx(x y:Int)(hx:(I x).length<=18)(hy:(I y).length<=18)(w:World)(hw:Ao w) :
  Calls Tryz.prog 294 #[S (I x),S (I y)] w (Cc (D (Int.gcd x y)) w):=by
 have q1:=xY x;have q2:=xY y;rw [xZ hx]at q1;rw [xZ hy]at q2;have b1:=Vw hx;have b2:=Vw hy;have e18:(10:Nat)^18=1000000000000000000:=(by decide);rw [e18]at b1 b2;obtain⟨g,hg⟩:=Ajv (Int.gcd x y);rw [←hg];have HG:=Ajw hg.symm;clear hx hy e18 hg;go_enter Tryz.func294,Tryz.ntmps294;(go_wp2_with fail);(with_reducible refine(q1 _).mono ?_);rintro e w1 ⟨rfl,hx1⟩;(go_wp2_with fail);(with_reducible refine(q2 _).mono ?_);rintro e w2 ⟨rfl,hx2⟩;have hx:=hx1.trans hx2;clear hx1 hx2 q1 q2;go_wp2
 go_loopw [5,7] (fun u v wr=>∃a b:Int,u=.int .i64 a/\v=.int .i64 b/\Int.gcd a b=g/\a.natAbs<1000000000000000000/\b.natAbs<1000000000000000000/\Ac w wr) (fun _ v _=>(intOf v).natAbs)
 case atStart=>exact⟨x,y,rfl,rfl,HG.out,b1,b2,hx⟩
 case round=>
  obtain⟨a,b,rfl,rfl,Gr,ha,hb,Ag⟩:=hrel;by_cases hb0:b=0
  ·subst hb0;have OD:a.natAbs=g:=(by rw [←Gr];simp);have hmx:max a (-a)=(g:Int):=(by omega);have ho:=fun W hW=>Acy (g:Int) (by omega) (by omega) W hW;have Bf:((0:Int) != 0)=false:=(by rfl);clear OD Gr;rw [ER]at ho;have Mk:IntKind.i64.wrap (-a) = -a:=Aj5 _ (by omega);(go_wp2_with fail);(with_reducible refine(ho _ (hw.ext Ag)).mono ?_);rintro e w3 ⟨rfl,hx3⟩;go_wp2;go_ret;exact⟨rfl,Ag.trans hx3⟩
  ·have hlt:=vQ a hb0;have OI:(a.tmod b).natAbs<1000000000000000000:=Nat.lt_trans hlt hb;have H7:=mM a b;have QU:(b != 0)=true:=(by rw [bne_iff_ne];exact hb0);have AB:(b == 0)=false:=(by rw [beq_eq_false_iff_ne];exact hb0);have Ln:=Ajw (H7.trans Gr);clear H7 Gr;(go_wp2_with fail)
   go_quiet (fail)
   go_wp2;go_roundw
   case rel=>exact⟨b,a.tmod b,rfl,rfl,Ln.out,hb,OI,Ag.drewN _⟩
   case measure=>exact hlt
theorem Acw(x y:Int)(hx:(I x).length<=18)(hy:(I y).length<=18)(w:World)(hw:Ao w):Calls Tryz.prog 294 #[S (I x),S (I y)] w (Cc (D (Int.gcd x y)) w):=Acx x y hx hy w hw
def DZ(x y:Int):Int:=if x<y then -1 else if x=y then 0 else 1
theorem kF{x y:Int}(h:x<y):DZ x y = -1:=by unfold DZ;rw [if_pos h]
theorem Xg{x y:Int}(h:y<x):DZ x y=1:=by unfold DZ;rw [if_neg (by omega),if_neg (by omega)]
theorem uz{x y:Int}(h:x=y):DZ x y=0:=by unfold DZ;rw [if_neg (by omega),if_pos h]
theorem kJ:∀(l k:Bs),C4 l→C4 k→l.length=k.length→Lib.compareBytes l k=Ho (val l) (val k)
 | [],[],_,_,_=>by simp [Lib.compareBytes,Ho]
 | [],_::_,_,_,h=>by simp at h
 | _::_,[],_,_,h=>by simp at h
 | a::l,b::k,ha,hb,h=>by
  rw [Tq]at ha hb;simp only [List.length_cons,Nat.add_right_cancel_iff]at h;have ih:=kJ l k ha.2 hb.2 h;have hl:=M9 ha.2;have hk:=M9 hb.2;rw [Sw,Sw,Lib.compareBytes,h];rw [h]at hl;have hda:=ha.1.1;have qI:=hb.1.1;generalize 10^k.length=p at *
  rcases Nat.lt_trichotomy (dv a) (dv b)with hd|hd|hd
  ·have h1:a<b:=(by rw [UInt8.lt_iff_toNat_lt];unfold dv at hd;omega);have h2:dv a*p+p<=dv b*p:=(by rw [←Nat.succ_mul];exact Nat.mul_le_mul_right _ hd);rw [if_pos h1,kE (by omega)]
  ·have h1:a=b:=by have:a.toNat=b.toNat:=(by unfold dv at hd;omega);exact UInt8.toNat_inj.1 this
   subst h1;rw [if_neg (by rw [UInt8.lt_iff_toNat_lt];omega),if_neg (by rw [UInt8.lt_iff_toNat_lt];omega),ih];unfold Ho;simp only [Nat.add_lt_add_iff_left,Nat.add_left_cancel_iff]
  ·have h1:b<a:=(by rw [UInt8.lt_iff_toNat_lt];unfold dv at hd;omega);have h0:¬a<b:=(by rw [UInt8.lt_iff_toNat_lt]at h1 ⊢;omega);have h2:dv b*p+p<=dv a*p:=(by rw [←Nat.succ_mul];exact Nat.mul_le_mul_right _ hd);rw [if_neg h0,if_pos h1,kD (by omega)]
theorem eC{m n:Nat}(h:(D m).length<(D n).length):m<n:=by
 rcases Nat.eq_zero_or_pos n with rfl|hn
 ·have e:(D 0).length=1:=(by rw [Fz (by omega)];rfl);have:=S8 m;omega
 ·have h1:=vG m;have h2:=xQ n hn;have h3:10^(D m).length<=10^((D n).length-1):=Nat.pow_le_pow_right (by omega) (by omega);omega
theorem zI(z:Int):-1<=EN z/\EN z<=1:=by unfold EN;split<;>(try split)<;>omega
theorem zD{x y:Int}(h:EN x<EN y):x<y:=by
 unfold EN at h;split at h<;>split at h<;>(try split at h)<;>(try split at h)<;>omega
theorem zF(z:Int):EN z*(z.natAbs:Int)=z:=by
 unfold EN
 split
 ·omega
 ·split<;>omega
theorem Acu(x y:Int)(hx:BG x)(hy:BG y)(w:World):Calls Tryz.prog 237 #[S (I x),S (I y)] w (AK (DZ x y) w):=by
 have s1:=RN x;have s2:=RN y;have r1:=zI x;have r2:=zI y;have t1:=dN (I x) [45];have t2:=dN (I y) [45];rw [ak]at t1 t2;have c1:=vn (D x.natAbs) (D y.natAbs);have l1:=hx.len;have l2:=hy.len
 have hcl:(D x.natAbs).length=(D y.natAbs).length→Lib.compareBytes (D x.natAbs) (D y.natAbs)=Ho x.natAbs y.natAbs:=fun h=>by
  have:=kJ _ _ (E0 x.natAbs) (E0 y.natAbs) h
  rwa [Le,Le]at this
 have k1:(D x.natAbs).length<(D y.natAbs).length→x.natAbs<y.natAbs:=eC;have k2:(D y.natAbs).length<(D x.natAbs).length→y.natAbs<x.natAbs:=eC;have a1:=zF x;have a2:=zF y;have I8:=@zD x y;have hlt2:=@zD y x;obtain⟨s,hs⟩:=Ajv (EN x);obtain⟨t,ht⟩:=Ajv (EN y);rw [←hs]at s1 r1 a1 I8 hlt2;rw [←ht]at s2 r2 a2 I8 hlt2;clear hs ht
 rcases Int.lt_trichotomy s t with h|h|h
 ·have HR:=Ajw (kF (I8 h));have hne:(s != t)=true:=(by rw [bne_iff_ne];omega);clear a1 a2 I8 hlt2 t1 t2 c1 hcl k1 k2;go_enter Tryz.func237,Tryz.ntmps237;(go_wp2_with fail);(with_reducible refine(s1 _).mono ?_);rintro e w1 ⟨rfl,hx1⟩;(go_wp2_with fail);(with_reducible refine(s2 _).mono ?_);rintro e w2 ⟨rfl,hx2⟩;go_wp2;go_ret;exact⟨EM HR.out,hx1.trans hx2⟩
 ·subst h;have hne:(s != s)=false:=by simp
  have hyl:(D y.natAbs).length<=4001:=by
   rcases DD y with⟨n,rfl,e⟩|⟨n,hn,rfl,e⟩
   ·rw [e]at l2;simpa using l2
   ·rw [e,List.length_cons]at l2;rw [show (-(n:Int)).natAbs=n by omega];omega
  have hxl:(D x.natAbs).length<=4001:=by
   rcases DD x with⟨n,rfl,e⟩|⟨n,hn,rfl,e⟩
   ·rw [e]at l1;simpa using l1
   ·rw [e,List.length_cons]at l1;rw [show (-(n:Int)).natAbs=n by omega];omega
  obtain⟨cb,hcb⟩:=Ajv (Lib.compareBytes (D x.natAbs) (D y.natAbs));rw [←hcb]at c1 hcl;have Mp:s=0∨s=1∨s = -1:=by omega
  have hcm:∀{m n:Nat},x=s*m→y=s*n→s*Ho m n=DZ x y:=by
   intro m n e1 e2;rw [e1,e2]
   rcases Mp with rfl|rfl|rfl
   ·simp [DZ]
   ·unfold Ho DZ;simp only [Int.one_mul];split<;>split<;>(try split)<;>omega
   ·unfold Ho DZ;split<;>split<;>(try split)<;>(try split)<;>omega
  have HC:=Ajw (@hcm x.natAbs y.natAbs a1.symm a2.symm);obtain⟨A,hA⟩:=Ajv (D x.natAbs);obtain⟨B,hB⟩:=Ajv (D y.natAbs);rw [←hA]at t1 c1 hcl k1 k2 hxl;rw [←hB]at t2 c1 hcl k1 k2 hyl
  rcases Nat.lt_trichotomy A.length B.length with hl|hl|hl
  ·have hk:=k1 hl
   have HR:Hid (DZ x y=IntKind.i64.wrap (-s)):=Ajw (by
    rw [←HC.out,kE hk,Aj5 (-s) (by omega)];omega)
   have tN:IntKind.i64.wrap (-s) = -s:=Aj5 _ (by omega);have Ia:((A.length:Int) != (B.length:Int))=true:=(by rw [bne_iff_ne];omega);have hR2:Hid (-s=DZ x y):=Ajw (by rw [HR.out,tN]);clear a1 a2 I8 hlt2 c1 hcl k1 k2 hcb hA hB HC HR Mp hcm hk l1 l2;go_enter Tryz.func237,Tryz.ntmps237;(go_wp2_with fail);(with_reducible refine(s1 _).mono ?_);rintro e w1 ⟨rfl,hx1⟩;(go_wp2_with fail);(with_reducible refine(s2 _).mono ?_);rintro e w2 ⟨rfl,hx2⟩;(go_wp2_with fail);(with_reducible refine(t1 _).mono ?_);rintro e w3 ⟨rfl,hx3⟩;(go_wp2_with fail);(with_reducible refine(t2 _).mono ?_);rintro e w4 ⟨rfl,Aq⟩;go_wp2;go_ret;exact⟨EM hR2.out.symm,((hx1.trans hx2).trans hx3).trans Aq⟩
  ·have hq:=hcl hl;have hcr:-1<=cb/\cb<=1:=by rw [hq];unfold Ho;split<;>(try split)<;>omega
   have hsc:-1<=s*cb/\s*cb<=1:=by rcases Mp with rfl|rfl|rfl<;>omega
   have hR2:Hid (s*cb=DZ x y):=Ajw (by rw [hq];exact HC.out);have tN:IntKind.i64.wrap (s*cb)=s*cb:=Aj5 _ (by omega);have Ia:((A.length:Int) != (B.length:Int))=false:=(by rw [hl];simp);clear a1 a2 I8 hlt2 hcl k1 k2 hcb hA hB HC Mp hcm hq l1 l2 hsc;have HL:=Ajw hl;clear hl;go_enter Tryz.func237,Tryz.ntmps237;(go_wp2_with fail);(with_reducible refine(s1 _).mono ?_);rintro e w1 ⟨rfl,hx1⟩;(go_wp2_with fail);(with_reducible refine(s2 _).mono ?_);rintro e w2 ⟨rfl,hx2⟩;(go_wp2_with fail);(with_reducible refine(t1 _).mono ?_);rintro e w3 ⟨rfl,hx3⟩;(go_wp2_with fail);(with_reducible refine(t2 _).mono ?_);rintro e w4 ⟨rfl,Aq⟩;(go_wp2_with fail);(with_reducible refine(c1 _).mono ?_);rintro e w5 ⟨rfl,AE⟩;go_wp2;go_ret;exact⟨EM hR2.out.symm,(((hx1.trans hx2).trans hx3).trans Aq).trans AE⟩
  ·have hk:=k2 hl;have hR2:Hid (s=DZ x y):=Ajw (by rw [←HC.out,kD hk];omega);have Ia:((A.length:Int) != (B.length:Int))=true:=(by rw [bne_iff_ne];omega);have hnl:¬A.length<B.length:=(by omega);clear a1 a2 I8 hlt2 c1 hcl k1 k2 hcb hA hB HC Mp hcm hk l1 l2;go_enter Tryz.func237,Tryz.ntmps237;(go_wp2_with fail);(with_reducible refine(s1 _).mono ?_);rintro e w1 ⟨rfl,hx1⟩;(go_wp2_with fail);(with_reducible refine(s2 _).mono ?_);rintro e w2 ⟨rfl,hx2⟩;(go_wp2_with fail);(with_reducible refine(t1 _).mono ?_);rintro e w3 ⟨rfl,hx3⟩;(go_wp2_with fail);(with_reducible refine(t2 _).mono ?_);rintro e w4 ⟨rfl,Aq⟩;go_wp2;go_ret;exact⟨EM hR2.out.symm,((hx1.trans hx2).trans hx3).trans Aq⟩
 ·have HR:=Ajw (Xg (hlt2 h));have hne:(s != t)=true:=(by rw [bne_iff_ne];omega);have hnl:¬s<t:=(by omega);clear a1 a2 I8 hlt2 t1 t2 c1 hcl k1 k2;go_enter Tryz.func237,Tryz.ntmps237;(go_wp2_with fail);(with_reducible refine(s1 _).mono ?_);rintro e w1 ⟨rfl,hx1⟩;(go_wp2_with fail);(with_reducible refine(s2 _).mono ?_);rintro e w2 ⟨rfl,hx2⟩;go_wp2;go_ret;exact⟨EM HR.out,hx1.trans hx2⟩
/-! ### Check -/
theorem qy(s:ByteArray):∀(k i:Nat) (r:List UInt8),s.size-i=k→r.length<=(ByteArray.toList.loop s i r).length:=by
 intro k
 induction k with
 | zero=>intro i r h;unfold ByteArray.toList.loop;rw [if_neg (by omega)];simp
 | succ k ih=>
  intro i r h;unfold ByteArray.toList.loop
  split
  ·have:=ih (i+1) (s.get! i::r) (by omega);simp only [List.length_cons]at this;omega
  ·simp
theorem WT{s:ByteArray}(h:0<s.size):¬s.toList = []:=by
 intro e;unfold ByteArray.toList ByteArray.toList.loop at e;rw [if_pos h]at e;have:=qy s _ 1 [s.get! 0] rfl;rw [show 0+1=1 from rfl]at e;rw [e]at this;simp at this
open Classical in
theorem um(t:Bs)(mn:Bool):¬VF t mn↔t = []∨200<t.length∨(∃m,t=48::m/\(m≠[]∨mn=true))∨∃j,∃h:j<t.length,¬ES t[j]:=by
 constructor
 ·intro h;by_cases h1:t = []
  ·exact .inl h1
  ·by_cases h2:200<t.length
   ·exact .inr (.inl h2)
   ·by_cases h3:∃m,t=48::m/\(m≠[]∨mn=true)
    ·exact .inr (.inr (.inl h3))
    ·refine .inr (.inr (.inr (Classical.byContradiction fun h4=>h ⟨h1,by omega,fun m e=>?_,fun c hc=>?_⟩)))
     ·constructor
      ·exact Classical.byContradiction fun h5=>h3 ⟨m,e,.inl h5⟩
      ·cases mn
       ·rfl
       ·exact absurd ⟨m,e,.inr rfl⟩ h3
     ·obtain⟨j,hj,e⟩:=List.mem_iff_getElem.1 hc;exact Classical.byContradiction fun h5=>h4 ⟨j,hj,by rw [e];exact h5⟩
 ·rintro(h|h|⟨m,e,h⟩|⟨j,hj,h⟩) hc
  ·exact hc.ne h
  ·have:=hc.len;omega
  ·have:=hc.zero m e
   rcases h with h|h
   ·exact h this.1
   ·rw [this.2]at h;cases h
  ·exact h (hc.all _ (Aj0 hj))
def Fa(b:Bool):Int:=if b then 0 else 2
theorem GI:Fa true=0:=rfl
theorem L9:Fa false=2:=rfl
theorem tq(l:Bs)(ht:Lib.trimPrefix l [45] = [])(w:World):Calls Tryz.prog 293 #[S l] w (AK 2 w):=by
 have hc:=T8 l [45];rw [ht]at hc;go_enter Tryz.func293,Tryz.ntmps293;(go_wp2_with fail);(with_reducible refine(hc _).mono ?_);rintro e w1 ⟨rfl,hx1⟩;go_wp2;go_ret;exact⟨rfl,hx1⟩
theorem tu(l t:Bs)(ht:Lib.trimPrefix l [45]=t)(h2:200<t.length)(w:World):Calls Tryz.prog 293 #[S l] w (AK 2 w):=by
 have hc:=T8 l [45];rw [ht]at hc;have hne:(t == [])=false:=(by rw [beq_eq_false_iff_ne];rintro rfl;simp at h2);have h2i:(200:Int)<(t.length:Int):=(by omega);clear ht;go_enter Tryz.func293,Tryz.ntmps293;(go_wp2_with fail);(with_reducible refine(hc _).mono ?_);rintro e w1 ⟨rfl,hx1⟩;go_wp2;go_ret;exact⟨rfl,hx1⟩
theorem jT(l m:Bs)(mn:Bool)(ht:Lib.trimPrefix l [45]=48::m)(hmn:[45].isPrefixOf l=mn)(h2:(48::m).length<=200)(h3:m≠[]∨mn=true)(w:World):Calls Tryz.prog 293 #[S l] w (AK 2 w):=by
 have hc:=T8 l [45];rw [ht,hmn]at hc;obtain⟨s,hs⟩:=Ajv (⟨(48::m).toArray⟩:ByteArray);have hsz:s.size=m.length+1:=(by rw [hs,EY];rfl);obtain⟨c,Ul⟩:=Ajv (48:UInt8);have hs0:0<s.size:=(by omega);have e0:s[0]=c:=(by rw [Ul];subst hs;rw [Qi];rfl);have hce:((c.toNat:Int) == 48)=true:=(by rw [Ul];rfl);have hsm:(s.size:Int)<=200:=(by simp only [List.length_cons]at h2;omega);have AiK:¬(200:Int)<(s.size:Int):=(by omega);have hc:∀w,Calls Tryz.prog 343 #[S l,S [45]] w (Bp (.tuple #[.string s,.bool mn]) w):=(by rw [hs];exact hc);have hne:=WT hs0
 rcases h3 with h3|h3
 ·have h1:(1:Int)<(s.size:Int):=(by have:=List.length_pos_iff.2 h3;omega);clear ht hmn hs hsz Ul h3;go_enter Tryz.func293,Tryz.ntmps293;(go_wp2_with fail);(with_reducible refine(hc _).mono ?_);rintro e w1 ⟨rfl,hx1⟩;go_wp2;go_ret;exact⟨rfl,hx1⟩
 ·subst h3;clear ht hmn hs Ul
  rcases Nat.lt_or_ge 1 s.size with h1|h1
  all_goals
   go_enter Tryz.func293,Tryz.ntmps293;(go_wp2_with fail);(with_reducible refine(hc _).mono ?_);rintro e w1 ⟨rfl,hx1⟩;go_wp2;go_ret;exact⟨rfl,hx1⟩
theorem tz(l t:Bs)(mn:Bool)(s:ByteArray)(hc:∀w,Calls Tryz.prog 343 #[S l,S [45]] w (Bp (.tuple #[.string s,.bool mn]) w))(Iq:Hid (s.size=t.length))(hs0:0<s.size)(hsm:(s.size:Int)<=200)
  (HG:Hid (∀(j:Nat) (h:j<s.size) (h':j<t.length),s[j]=t[j])) (c:UInt8) (e0:s[0]=c) (b:Bool) (HB:Hid (b=true↔C4 t)) (hf:((c.toNat:Int) == 48)=false) (w:World):Calls Tryz.prog 293 #[S l] w (AK (Fa b) w):=by
 have hne:=WT hs0
 have Ia:s.toList.isEmpty=false:=by cases h:s.toList with|nil=>exact absurd h hne|cons _ _=>rfl
 have YM:decide ((200:Int)<(s.size:Int))=false:=(by rw [decide_eq_false_iff_not];omega);go_enter Tryz.func293,Tryz.ntmps293;(go_wp2_with fail);(with_reducible refine(hc _).mono ?_);rintro e w1 ⟨rfl,hx1⟩;go_wp2;clear hc hne Ia YM hf e0
 go_loop [33] (fun i=>∃j:Nat,j<=s.size/\i=.int .i64 (j:Nat)/\C4 (t.take j)) (fun i=>s.size-(intOf i).toNat)
 case atStart=>exact⟨0,by omega,rfl,by simp [iC]⟩
 case round=>
  obtain⟨j,hj,rfl,hall⟩:=hrel;by_cases hlt:j<s.size
  ·have Nv:j<t.length:=(by rw [←Iq.out];exact hlt);obtain⟨d,hd⟩:∃d,s[j]=d:=⟨_,rfl⟩;have Kn:t[j]=d:=(by rw [←hd,HG.out j hlt Nv]);have HD:=Ajw Kn;clear Kn;by_cases I5:ES d
   ·have d1:=I5.1;have d2:=I5.2;have c1:¬(d.toNat:Int)<48:=(by omega);have c2:¬(57:Int)<(d.toNat:Int):=(by omega);clear d1 d2;go_wp2
    go_round
    case rel=>exact⟨j+1,by omega,by go_num,by rw [Aj2 Nv,HD.out];exact Tp.2 ⟨hall,by intro x hx;simp only [AjB]at hx;rw [hx];exact I5⟩⟩
    case measure=>simp [intOf];omega
   ·have Nm:b=false:=by
     cases b
     ·rfl
     ·exact absurd (HB.out.1 rfl _ (Aj0 Nv)) (by rw [HD.out];exact I5)
    subst Nm;rw [L9];by_cases c1:(d.toNat:Int)<48
    ·go_wp2;go_ret;exact⟨rfl,hx1⟩
    ·have c2:(57:Int)<(d.toNat:Int):=by refine Classical.byContradiction fun h=>I5 ⟨by omega,by omega⟩
     go_wp2;go_ret;exact⟨rfl,hx1⟩
  ·have FK:b=true:=HB.out.2 (by rw [Aj7 (by rw [←Iq.out];omega)]at hall;exact hall);subst FK;rw [GI];have hle:(s.size:Int)<=(j:Int):=(by omega);go_wp2;go_ret;exact⟨rfl,hx1⟩
theorem ua(l t:Bs)(mn:Bool)(s:ByteArray)(hc:∀w,Calls Tryz.prog 343 #[S l,S [45]] w (Bp (.tuple #[.string s,.bool mn]) w))(Iq:Hid (s.size=t.length))(hs0:0<s.size)(hsm:(s.size:Int)<=200)
  (HG:Hid (∀(j:Nat) (h:j<s.size) (h':j<t.length),s[j]=t[j])) (c:UInt8) (e0:s[0]=c) (b:Bool) (HB:Hid (b=true↔C4 t)) (hf:((c.toNat:Int) == 48)=true) (hs1:s.size=1) (hmn:mn=false) (w:World):Calls Tryz.prog 293 #[S l] w (AK (Fa b) w):=by
 have hne:=WT hs0
 have Ia:s.toList.isEmpty=false:=by cases h:s.toList with|nil=>exact absurd h hne|cons _ _=>rfl
 have YM:decide ((200:Int)<(s.size:Int))=false:=(by rw [decide_eq_false_iff_not];omega);have h1:decide ((1:Int)<(s.size:Int))=false:=(by rw [decide_eq_false_iff_not];omega);subst hmn;clear hs1;go_enter Tryz.func293,Tryz.ntmps293;(go_wp2_with fail);(with_reducible refine(hc _).mono ?_);rintro e w1 ⟨rfl,hx1⟩;go_wp2;clear hc hne Ia YM hf e0
 go_loop [33] (fun i=>∃j:Nat,j<=s.size/\i=.int .i64 (j:Nat)/\C4 (t.take j)) (fun i=>s.size-(intOf i).toNat)
 case atStart=>exact⟨0,by omega,rfl,by simp [iC]⟩
 case round=>
  obtain⟨j,hj,rfl,hall⟩:=hrel;by_cases hlt:j<s.size
  ·have Nv:j<t.length:=(by rw [←Iq.out];exact hlt);obtain⟨d,hd⟩:∃d,s[j]=d:=⟨_,rfl⟩;have Kn:t[j]=d:=(by rw [←hd,HG.out j hlt Nv]);have HD:=Ajw Kn;clear Kn;by_cases I5:ES d
   ·have d1:=I5.1;have d2:=I5.2;have c1:¬(d.toNat:Int)<48:=(by omega);have c2:¬(57:Int)<(d.toNat:Int):=(by omega);clear d1 d2;go_wp2
    go_round
    case rel=>exact⟨j+1,by omega,by go_num,by rw [Aj2 Nv,HD.out];exact Tp.2 ⟨hall,by intro x hx;simp only [AjB]at hx;rw [hx];exact I5⟩⟩
    case measure=>simp [intOf];omega
   ·have Nm:b=false:=by
     cases b
     ·rfl
     ·exact absurd (HB.out.1 rfl _ (Aj0 Nv)) (by rw [HD.out];exact I5)
    subst Nm;rw [L9];by_cases c1:(d.toNat:Int)<48
    ·go_wp2;go_ret;exact⟨rfl,hx1⟩
    ·have c2:(57:Int)<(d.toNat:Int):=by refine Classical.byContradiction fun h=>I5 ⟨by omega,by omega⟩
     go_wp2;go_ret;exact⟨rfl,hx1⟩
  ·have FK:b=true:=HB.out.2 (by rw [Aj7 (by rw [←Iq.out];omega)]at hall;exact hall);subst FK;rw [GI];have hle:(s.size:Int)<=(j:Int):=(by omega);go_wp2;go_ret;exact⟨rfl,hx1⟩
theorem jS(l t:Bs)(mn:Bool)(ht:Lib.trimPrefix l [45]=t)(hmn:[45].isPrefixOf l=mn)(h0:t≠[])(h2:t.length<=200)(h3:∀m,t=48::m→m = []/\mn=false)
  (b:Bool) (hb:b=true↔C4 t) (w:World):Calls Tryz.prog 293 #[S l] w (AK (Fa b) w):=by
 have hc0:=T8 l [45];rw [ht,hmn]at hc0;obtain⟨s,hs⟩:=Ajv (⟨t.toArray⟩:ByteArray);have hsz:s.size=t.length:=(by rw [hs,EY]);have hs0:0<s.size:=by have:=List.length_pos_iff.2 h0;omega
 have Ec:∀(j:Nat) (h:j<s.size) (h':j<t.length),s[j]=t[j]:=by intro j h h';subst hs;rw [Qi];simp [List.getD,h']
 have hsm:(s.size:Int)<=200:=(by omega);have hc:∀w,Calls Tryz.prog 343 #[S l,S [45]] w (Bp (.tuple #[.string s,.bool mn]) w):=(by rw [hs];exact hc0);clear hc0;by_cases h:s[0]=48
 ·match t,h0,Ec,h3,hsz,hb with
  | d::m,_,Ec,h3,hsz,hb=>have:=Ec 0 hs0 (by simp);rw [h]at this;simp only [List.getElem_cons_zero]at this;obtain⟨hm,hf⟩:=h3 m (by rw [this]);exact ua l _ mn s hc (Ajw hsz) hs0 hsm (Ajw Ec) _ rfl b (Ajw hb) (by rw [h];rfl) (by rw [hsz,hm];rfl) hf w
 ·refine tz l _ mn s hc (Ajw hsz) hs0 hsm (Ajw Ec) _ rfl b (Ajw hb) ?_ w;rw [beq_eq_false_iff_ne];intro e;exact h (UInt8.toNat_inj.1 (by simp;omega))
open Classical in
theorem RL(l:Bs)(w:World):Calls Tryz.prog 293 #[S l] w (AK (if JI l then 0 else 2) w):=by
 by_cases h:VF (Lib.trimPrefix l [45]) ([45].isPrefixOf l)
 ·rw [if_pos ((jW l).2 h)];exact jS l _ _ rfl rfl h.ne h.len h.zero true ⟨fun _=>h.all,fun _=>rfl⟩ w
 ·rw [if_neg (fun k=>h ((jW l).1 k))];by_cases h1:Lib.trimPrefix l [45] = []
  ·exact tq l h1 w
  ·by_cases h2:200<(Lib.trimPrefix l [45]).length
   ·exact tu l _ rfl h2 w
   ·rcases(um _ _).1 h with h3|h3|⟨m,e,h3⟩|⟨j,hj,h3⟩
    ·exact absurd h3 h1
    ·exact absurd h3 h2
    ·exact jT l m _ e rfl (by rw [←e];omega) h3 w
    ·by_cases h4:∀m,Lib.trimPrefix l [45]=48::m→m = []/\[45].isPrefixOf l=false
     ·exact jS l _ _ rfl rfl h1 (by omega) h4 false (Iff.intro (fun k=>by cases k) (fun k=>absurd (k _ (Aj0 hj)) h3)) w
     ·obtain⟨m,e⟩:∃m,Lib.trimPrefix l [45]=48::m/\(m≠[]∨[45].isPrefixOf l=true):=by
       refine Classical.byContradiction fun k=>h4 fun m e=>?_;constructor
       ·exact Classical.byContradiction fun q=>k ⟨m,e,.inl q⟩
       ·rcases hq:[45].isPrefixOf l with _|_
        ·rfl
        ·exact absurd ⟨m,e,.inr hq⟩ k
      exact jT l m _ e.1 rfl (by rw [←e.1];omega) e.2 w
theorem yD(n:Int)(d:Nat)(hd:0<d)(GV:-9000000000000000000<=n)(BM:n<=9000000000000000000)(Gp:d<=9000000000000000000)(w:World)(hw:Ao w) :
  Calls Tryz.prog 317 #[.int .i64 n,.int .i64 (d:Nat)] w (Cc (R (mkRat n d)) w):=by
 obtain⟨g,hg⟩:=Ajv (Nat.gcd n.natAbs d);have hg0:0<g:=(by rw [hg];exact Nat.gcd_pos_of_pos_right _ hd);obtain⟨n',hn'⟩:=Ajv (n/(g:Nat):Int);obtain⟨d',C9⟩:=Ajv (d/g:Nat);have hR:R (mkRat n d)=FG n' d':=(by rw [fX n hd,←hg,←hn',←C9]);have hgn:((g:Nat):Int)∣n:=Int.natAbs_dvd_natAbs.1 (by rw [Aj1,hg];exact Nat.gcd_dvd_left ..);have e1:n.tdiv (g:Int)=n':=(by rw [hn',Int.tdiv_eq_ediv_of_dvd hgn]);have e2:(d:Int)/(g:Int)=(d':Int):=(by rw [C9];simp);have b1:n'.natAbs<=n.natAbs:=(by rw [hn'];exact aR _ _ hgn);have b2:d'<=d:=(by rw [C9];exact Nat.div_le_self _ _);have hgd:g<=d:=(by rw [hg];exact Nat.gcd_le_right _ hd);have ln:(I n').length<=20:=MJ (z:=n') (k:=19) (by omega) (by omega);have ld:(D d').length<=19:=Hf (by omega) (by omega);have HR:=Ajw hR;have HG:=Ajw hg;have H1:=Ajw e1;have H2:=Ajw e2;have i1:=fun W hW=>OW n' (by omega) (by omega) W hW;have i2:=fun W hW=>OW (d':Int) (by omega) (by omega) W hW;clear hR hg e1 e2 hn' C9 hgn;go_enter Tryz.func317,Tryz.ntmps317;go_wp2
 go_loopw [5,6] (fun x y wr=>∃a b:Int,x=.int .i64 a/\y=.int .i64 b/\Int.gcd a b=g/\a.natAbs<=9000000000000000000/\b.natAbs<=9000000000000000000/\Ac w wr) (fun _ y _=>(intOf y).natAbs)
 case atStart=>exact⟨n,d,rfl,rfl,by rw [HG.out];rfl,by omega,by omega,Ac.refl _⟩
 case round=>
  obtain⟨a,b,rfl,rfl,Gr,ha,hb,Ag⟩:=hrel;by_cases hb0:b=0
  ·subst hb0;have OD:a.natAbs=g:=(by rw [←Gr];simp);by_cases Mk:a<0
   case' pos=>obtain rfl:a = -(g:Int):=by omega
   case' neg=>obtain rfl:a=(g:Int):=by omega
   all_goals
    clear OD Gr;have e1:=H1.out;have e2:=H2.out;have Mb:(0:Int)<(g:Int):=(by omega);have hgz:((g:Int) == 0)=false:=(by rw [beq_eq_false_iff_ne];omega);by_cases H9:d'=1
    ·subst H9;have HF:Hid (R (mkRat n d)=I n'):=Ajw (by rw [HR.out];rfl);(go_wp2_with fail)
     go_quiet (fail)
     (go_wp2_with fail);(with_reducible refine(i1 _ (hw.ext (Ag.drewN _))).mono ?_);rintro e w3 ⟨rfl,hx3⟩;go_wp2;go_ret;exact⟨J6 (by rw [HF.out]),(Ag.drewN _).trans hx3⟩
    ·have HF:Hid (R (mkRat n d)=I n'++47::D d'):=Ajw (by rw [HR.out];exact if_neg H9);have qI:((d':Int) == 1)=false:=(by rw [beq_eq_false_iff_ne];omega);rw [ER]at i2;clear H9;(go_wp2_with fail)
     go_quiet (fail)
     (go_wp2_with fail);(with_reducible refine(i1 _ (hw.ext (Ag.drewN _))).mono ?_);rintro e w3 ⟨rfl,hx3⟩;have hx3:=(Ag.drewN _).trans hx3;(go_wp2_with fail);(with_reducible refine(i2 _ (hw.ext hx3)).mono ?_);rintro e w4 ⟨rfl,Aq⟩;go_wp2;go_ret;exact⟨J6 (by rw [HF.out];apply ByteArray.ext;simp),hx3.trans Aq⟩
  ·have hlt:=vQ a hb0;have OI:(a.tmod b).natAbs<=9000000000000000000:=Aj9 (Nat.le_of_lt hlt) hb;have H7:=mM a b;have QU:(b != 0)=true:=(by rw [bne_iff_ne];exact hb0);have AB:(b == 0)=false:=(by rw [beq_eq_false_iff_ne];exact hb0);have Ln:=Ajw (H7.trans Gr);clear H7 Gr;(go_wp2_with fail)
   go_quiet (fail)
   go_wp2;go_roundw
   case rel=>exact⟨b,a.tmod b,rfl,rfl,Ln.out,hb,OI,Ag.drewN _⟩
   case measure=>exact hlt
theorem jD(l:Bs)(j:Nat)(h:j<(⟨l.toArray⟩:ByteArray).size):(⟨l.toArray⟩:ByteArray)[j]=l[j]'(by rw [EY]at h;exact h):=by
 rw [ByteArray.getElem_eq_getElem_data];simp
attribute [local go_sem] jD
def AM(q:Rat):Int:=if q=0 then 0 else if q<0 then -1 else 1
theorem yZ{q:Rat}(h:q<0):AM q = -1:=by unfold AM;rw [if_neg (by rintro rfl;exact Rat.lt_irrefl h),if_pos h]
theorem dC{q:Rat}(h:0<q):AM q=1:=by
 unfold AM;rw [if_neg (by rintro rfl;exact Rat.lt_irrefl h),if_neg (by grind)]
theorem Hk{q:Rat}(h:q≠0):(R q == [48])=false:=by rw [beq_eq_false_iff_ne];exact fun e=>h (fW.1 e)
theorem Wy{q:Rat}(h:q≠1):(R q == [49])=false:=by rw [beq_eq_false_iff_ne];exact fun e=>h (l8.1 e)
theorem Lx{k:Nat}{q:Rat}(hk:0<k)(h:Sz k q):(R q).length<=2*k+2:=by
 have h1:=MJ hk h.num;have h2:=Hf hk h.den;rw [MM];unfold FG
 split
 ·omega
 ·rw [List.length_append,List.length_cons];omega
theorem Pq(q:Rat)(w:World):Calls Tryz.prog 139 #[S (R q)] w (AK (AM q) w):=by
 by_cases h0:q=0
 ·subst h0;rw [JJ];go_enter Tryz.func139,Tryz.ntmps139;go_wp2;go_ret;exact⟨rfl,Ac.refl _⟩
 ·have h1:=Hk h0
  rcases Wx q with⟨hn,e⟩|⟨hp,c,l,e,hd,hc⟩
  ·have HS:=Ajw (yZ hn);obtain⟨c,hc⟩:=Ajv (45:UInt8);have hl:0<(R q).length:=(by rw [e];simp);have hg:(R q)[0]'hl=c:=(by rw [List.getElem_of_eq e hl,hc];rfl);have hcb:((c.toNat:Int) == 45)=true:=(by rw [hc];rfl);clear e hc hn;go_enter Tryz.func139,Tryz.ntmps139;go_wp2;go_ret;exact⟨EM HS.out,Ac.refl _⟩
  ·have HS:=Ajw (dC (q:=q) (by grind));have hl:0<(R q).length:=(by rw [e];simp);have hg:(R q)[0]'hl=c:=(by rw [List.getElem_of_eq e hl];rfl);have hcb:((c.toNat:Int) == 45)=false:=(by rw [beq_eq_false_iff_ne];intro k;exact hc (UInt8.toNat_inj.1 (by simp;omega)));clear e hc hp hd;go_enter Tryz.func139,Tryz.ntmps139;go_wp2;go_ret;exact⟨EM HS.out,Ac.refl _⟩
theorem Afh(q:Rat){k:Nat}(hk:0<k)(hk2:k<=100000)(hz:Sz k q)(w:World):Calls Tryz.prog 316 #[S (R q)] w (Cc (R (-q)) w):=by
 have hlen:=Lx hk hz;by_cases h0:q=0
 ·subst h0;rw [Rat.neg_zero,JJ];go_enter Tryz.func316,Tryz.ntmps316;go_wp2;go_ret;exact⟨rfl,Ac.refl _⟩
 ·have h1:=Hk h0
  rcases Wx q with⟨hn,e⟩|⟨hp,c,l,e,hd,hc⟩
  ·obtain⟨c,hc⟩:=Ajv (45:UInt8);have hl:0<(R q).length:=(by rw [e];simp);have hg:(R q)[0]'hl=c:=(by rw [List.getElem_of_eq e hl,hc];rfl);have hcb:((c.toNat:Int) == 45)=true:=(by rw [hc];rfl);have HD:Hid ((R q).drop 1=R (-q)):=Ajw (by rw [e];rfl);have H9:(1:Int)<=((R q).length:Int):=(by omega);clear e hc hn;go_enter Tryz.func316,Tryz.ntmps316;go_wp2;go_ret;exact⟨J6 (by rw [←HD.out];first|exact ze _ _|(rw [TC];simp)),Ac.refl _⟩
  ·have HD:Hid (R (-q)=45::R q):=Ajw (by
    have:=fY (q:=-q) (by grind)
    rw [this,Rat.neg_neg])
   have hl:0<(R q).length:=(by rw [e];simp);have hg:(R q)[0]'hl=c:=(by rw [List.getElem_of_eq e hl];rfl);have hcb:((c.toNat:Int) == 45)=false:=(by rw [beq_eq_false_iff_ne];intro k;exact hc (UInt8.toNat_inj.1 (by simp;omega)));clear e hc hp hd;go_enter Tryz.func316,Tryz.ntmps316;go_wp2;go_ret;exact⟨J6 (by rw [HD.out];apply ByteArray.ext;simp),Ac.refl _⟩
theorem Aff(n:Int)(d:Nat)(hn:BG n)(hd:d<Big)(w:World):Calls Tryz.prog 315 #[S (I n),S (D d)] w (Cc (FG n d) w):=by
 have ln:=hn.len;have ld:(D d).length<=4000:=Hf (k:=WV) (by decide) hd;by_cases h:d=1
 ·subst h;have HF:Hid (FG n 1=I n):=Ajw (if_pos rfl);rw [S9];go_enter Tryz.func315,Tryz.ntmps315;go_wp2;go_ret;exact⟨J6 (by rw [HF.out]),Ac.refl _⟩
 ·have HF:Hid (FG n d=I n++47::D d):=Ajw (if_neg h);have hb:(D d == [49])=false:=(by rw [beq_eq_false_iff_ne,←S9];exact fun e=>h (S7 e));clear h;go_enter Tryz.func315,Tryz.ntmps315;go_wp2;go_ret;exact⟨J6 (by rw [HF.out];apply ByteArray.ext;simp),Ac.refl _⟩
def Pk(q:Rat):Value:=.tuple #[S (I q.num),S (D q.den)]
theorem yC(q:Rat){k:Nat}(hk:0<k)(hk2:k<=100000)(hz:Sz k q)(w:World)(hw:Ao w):Calls Tryz.prog 236 #[S (R q)] w (Bp (Pk q) w):=by
 have hlen:=Lx hk hz;have hc:=cut_c (R q) [47] w hw (by omega);rw [Tf]at hc;by_cases h:q.den=1
 ·rw [if_pos h]at hc;have HP:Hid (Pk q=.tuple #[S (I q.num),S [49]]):=Ajw (by unfold Pk;rw [h,S9]);clear h;go_enter Tryz.func236,Tryz.ntmps236;(go_wp2_with fail);(with_reducible refine hc.mono ?_);rintro e w1 ⟨rfl,hx1⟩;go_wp2;go_ret2;exact⟨Ij HP.out,hx1⟩
 ·rw [if_neg h]at hc;have HP:Hid (Pk q=.tuple #[S (I q.num),S (D q.den)]):=Ajw rfl;clear h;go_enter Tryz.func236,Tryz.ntmps236;(go_wp2_with fail);(with_reducible refine hc.mono ?_);rintro e w1 ⟨rfl,hx1⟩;go_wp2;go_ret2;exact⟨Ij HP.out,hx1⟩
end Go.Proofs.YtgnejnampofhoaaGreatDoor
namespace Go.Proofs.YtgnejnampofhoaaGreatDoor
open Go.RowKit Kl
theorem yB(n m:Int)(hm:0<m)(hn:BG n)(hd:BG m)(w:World):Calls Tryz.prog 315 #[S (I n),S (I m)] w (Cc (FG n m.toNat) w):=by
 obtain⟨d,rfl⟩:=Int.eq_ofNat_of_zero_le (Int.le_of_lt hm);rw [ER];exact Aff n d hn hd w
theorem Acv(x y:Int)(hx:(I x).length<=18)(hy:(I y).length<=18)(w:World)(hw:Ao w):Calls Tryz.prog 294 #[S (I x),S (I y)] w (Cc (I (Int.gcd x y:Nat)) w):=by
 rw [ER];exact Acw x y hx hy w hw
theorem BG.of{z:Int}{k:Nat}(h:z.natAbs<10^k)(hk:k<=4000):BG z:=Aj8 h (Nat.pow_le_pow_right (by omega) hk)
theorem Afi(q:Rat){k:Nat}(hk:0<k)(hk2:k<=100000)(hz:Sz k q)(w:World)(hw:Ao w):Calls Tryz.prog 236 #[S (R q)] w (Bp (.tuple #[S (I q.num),S (I (q.den:Int))]) w):=by
 have h:=yC q hk hk2 hz w hw;unfold Pk at h;rw [ER];exact h
structure Rm(a b:Nat)(p q:Rat):Prop where
 p:Sz a p
 q:Sz b q
 a0:0<a
 b0:0<b
 le:a<=9/\b<=9
section
variable {a b : Nat} {p q : Rat}
theorem Rm.lp(h:Rm a b p q):(R p).length<=100000:=by have:=Lx h.a0 h.p;have:=h.le;omega
theorem Rm.lq(h:Rm a b p q):(R q).length<=100000:=by have:=Lx h.b0 h.q;have:=h.le;omega
theorem Rm.bn(h:Rm a b p q):BG p.num:=BG.of h.p.num (by have:=h.le;omega)
theorem Rm.bd(h:Rm a b p q):BG (p.den:Int):=BG.of (k:=a) (by rw [Aj1];exact h.p.den) (by have:=h.le;omega)
theorem Rm.bm(h:Rm a b p q):BG q.num:=BG.of h.q.num (by have:=h.le;omega)
theorem Rm.be(h:Rm a b p q):BG (q.den:Int):=BG.of (k:=b) (by rw [Aj1];exact h.q.den) (by have:=h.le;omega)
theorem Rm.ne'(h:Rm a b p q):(p.num*(q.den:Int)).natAbs<10^(a+b):=by rw [Int.natAbs_mul,Aj1];exact KI h.p.num h.q.den
theorem Rm.md'(h:Rm a b p q):(q.num*(p.den:Int)).natAbs<10^(a+b):=by rw [Int.natAbs_mul,Aj1,Nat.add_comm];exact KI h.q.num h.p.den
theorem Rm.ne(h:Rm a b p q):BG (p.num*(q.den:Int)):=BG.of h.ne' (by have:=h.le;omega)
theorem Rm.md(h:Rm a b p q):BG (q.num*(p.den:Int)):=BG.of h.md' (by have:=h.le;omega)
theorem Rm.nm(h:Rm a b p q):BG (p.num*q.num):=BG.of (k:=a+b) (by rw [Int.natAbs_mul];exact KI h.p.num h.q.num) (by have:=h.le;omega)
theorem Rm.de(h:Rm a b p q):BG ((p.den:Int)*(q.den:Int)):=BG.of (k:=a+b) (by rw [Int.natAbs_mul,Aj1,Aj1];exact KI h.p.den h.q.den) (by have:=h.le;omega)
end
def FY(q:Rat):Prop:=(D q.num.natAbs).length<=9/\(D q.den).length<=9
theorem ae{k:Nat}{q:Rat}(h:Sz k q)(hk:k<=9):FY q:=⟨Hf (by omega) (h.mono hk).num,Hf (by omega) (h.mono hk).den⟩
theorem Rm.s1{a b:Nat}{p q:Rat}(h:Rm a b p q):FY p:=ae h.p h.le.1
theorem Rm.s2{a b:Nat}{p q:Rat}(h:Rm a b p q):FY q:=ae h.q h.le.2
theorem Pn{q:Rat}(h:FY q):Sm q=.tuple #[.int .i64 q.num,.int .i64 q.den,.bool true]:=if_pos h
theorem FY.num{q:Rat}(h:FY q):q.num.natAbs<1000000000:=NA (k:=9) h.1
theorem FY.den{q:Rat}(h:FY q):q.den<1000000000:=NA (k:=9) h.2
theorem Pp(q:Rat)(hl:(R q).length<=100000)(w:World):Calls Tryz.prog 235 #[S (R q)] w (fun e w'=>e=.returned (Sm q)/\w=w'):=Afj q hl w
theorem Qd{x y:Int}(hx:x.natAbs<1000000000)(hy:y.natAbs<1000000000):(x*y).natAbs<=999999998000000001:=by
 rw [Int.natAbs_mul];exact vP hx hy
theorem AeX(p q:Rat){a b:Nat}(hr:Rm a b p q)(CQ:p≠0)(Bc:q≠0)(h1:FY p)(h2:FY q)(w:World)(hw:Ao w):Calls Tryz.prog 291 #[S (R p),S (R q)] w (Cc (R (p+q)) w):=by
 have q1:=Pp p hr.lp;have q2:=Pp q hr.lq;rw [Pn h1]at q1;rw [Pn h2]at q2;have n1:=Hk CQ;have n2:=Hk Bc;clear CQ Bc;have w1:=NI (x:=p.num) (y:=(q.den:Int)) h1.num (by rw [Aj1];exact h2.den);have w2:=NI (x:=q.num) (y:=(p.den:Int)) h2.num (by rw [Aj1];exact h1.den);have w3:=NI (x:=(p.den:Int)) (y:=(q.den:Int)) (by rw [Aj1];exact h1.den) (by rw [Aj1];exact h2.den);have b1:=Qd (x:=p.num) (y:=(q.den:Int)) h1.num (by rw [Aj1];exact h2.den);have b2:=Qd (x:=q.num) (y:=(p.den:Int)) h2.num (by rw [Aj1];exact h1.den);have b3:=Qd (x:=(p.den:Int)) (y:=(q.den:Int)) (by rw [Aj1];exact h1.den) (by rw [Aj1];exact h2.den);have w4:IntKind.i64.wrap (p.num*(q.den:Int)+q.num*(p.den:Int))=p.num*(q.den:Int)+q.num*(p.den:Int):=Aj5 _ (by omega);have sm:=yD (p.num*(q.den:Int)+q.num*(p.den:Int)) (p.den*q.den) (Nat.mul_pos p.den_pos q.den_pos) (by omega) (by omega) (by rw [←Int.natCast_mul,Aj1]at b3;omega);rw [Int.natCast_mul,←Rat.add_def']at sm;clear b1 b2 b3;have hx:=Ac.refl w;clear h1 h2 hr;go_enter Tryz.func291,Tryz.ntmps291;(go_wp2_with fail);(with_reducible refine(q1 _).mono ?_);rintro e w1 ⟨rfl,rfl⟩;(go_wp2_with fail);(with_reducible refine(q2 _).mono ?_);rintro e w2 ⟨rfl,rfl⟩;(go_wp2_with fail);(with_reducible refine(sm _ hw).mono ?_);rintro e w3 ⟨rfl,hx3⟩;go_wp2;go_ret;exact⟨rfl,hx3⟩
theorem Vm(p q:Rat){a b:Nat}(hr:Rm a b p q)(w:World)(hw:Ao w):Calls Tryz.prog 291 #[S (R p),S (R q)] w (Cc (R (p+q)) w):=by
 by_cases CQ:p=0
 ·subst CQ;rw [Rat.zero_add,JJ];clear hr;go_enter Tryz.func291,Tryz.ntmps291;go_wp2;go_ret;exact⟨rfl,Ac.refl _⟩
 ·by_cases Bc:q=0
  ·subst Bc;rw [Rat.add_zero,JJ];have n1:=Hk CQ;clear hr CQ;go_enter Tryz.func291,Tryz.ntmps291;go_wp2;go_ret;exact⟨rfl,Ac.refl _⟩
  ·exact AeX p q hr CQ Bc hr.s1 hr.s2 w hw
theorem Afg(p q:Rat){a b:Nat}(hr:Rm a b p q)(CQ:p≠0)(Bc:q≠0)(K1:p≠1)(Bu:q≠1)(h1:FY p)(h2:FY q)(w:World)(hw:Ao w):Calls Tryz.prog 276 #[S (R p),S (R q)] w (Cc (R (p*q)) w):=by
 have q1:=Pp p hr.lp;have q2:=Pp q hr.lq;rw [Pn h1]at q1;rw [Pn h2]at q2;have n1:=Hk CQ;have n2:=Hk Bc;have n3:=Wy K1;have n4:=Wy Bu;clear CQ Bc K1 Bu;have w1:=NI (x:=p.num) (y:=q.num) h1.num h2.num;have w3:=NI (x:=(p.den:Int)) (y:=(q.den:Int)) (by rw [Aj1];exact h1.den) (by rw [Aj1];exact h2.den);have b1:=Qd (x:=p.num) (y:=q.num) h1.num h2.num;have b3:=Qd (x:=(p.den:Int)) (y:=(q.den:Int)) (by rw [Aj1];exact h1.den) (by rw [Aj1];exact h2.den);have sm:=yD (p.num*q.num) (p.den*q.den) (Nat.mul_pos p.den_pos q.den_pos) (by omega) (by omega) (by rw [←Int.natCast_mul,Aj1]at b3;omega);rw [Int.natCast_mul,←Rat.mul_def']at sm;clear b1 b3;have hx:=Ac.refl w;clear h1 h2 hr;go_enter Tryz.func276,Tryz.ntmps276;(go_wp2_with fail);(with_reducible refine(q1 _).mono ?_);rintro e w1 ⟨rfl,rfl⟩;(go_wp2_with fail);(with_reducible refine(q2 _).mono ?_);rintro e w2 ⟨rfl,rfl⟩;(go_wp2_with fail);(with_reducible refine(sm _ hw).mono ?_);rintro e w3 ⟨rfl,hx3⟩;go_wp2;go_ret;exact⟨rfl,hx3⟩
theorem NE(p q:Rat){a b:Nat}(hr:Rm a b p q)(w:World)(hw:Ao w):Calls Tryz.prog 276 #[S (R p),S (R q)] w (Cc (R (p*q)) w):=by
 by_cases CQ:p=0
 ·subst CQ;rw [Rat.zero_mul,JJ];clear hr;go_enter Tryz.func276,Tryz.ntmps276;go_wp2;go_ret;exact⟨rfl,Ac.refl _⟩
 by_cases Bc:q=0
 ·subst Bc;rw [Rat.mul_zero,JJ];have n1:=Hk CQ;clear hr CQ;go_enter Tryz.func276,Tryz.ntmps276;go_wp2;go_ret;exact⟨rfl,Ac.refl _⟩
 by_cases K1:p=1
 ·subst K1;rw [Rat.one_mul,Tj];have n1:=Hk Bc;clear hr Bc CQ;go_enter Tryz.func276,Tryz.ntmps276;go_wp2;go_ret;exact⟨rfl,Ac.refl _⟩
 by_cases Bu:q=1
 ·subst Bu;rw [Rat.mul_one,Tj];have n1:=Hk CQ;have n2:=Wy K1;clear hr Bc CQ K1;go_enter Tryz.func276,Tryz.ntmps276;go_wp2;go_ret;exact⟨rfl,Ac.refl _⟩
 exact Afg p q hr CQ Bc K1 Bu hr.s1 hr.s2 w hw
def AY(p q:Rat):Int:=if p<q then -1 else if p=q then 0 else 1
theorem uv{p q:Rat}(h:p=q):AY p q=0:=by unfold AY;rw [if_neg (by rw [h];exact Rat.lt_irrefl),if_pos h]
theorem uu(p q:Rat):DZ (p.num*(q.den:Int)) (q.num*(p.den:Int))=AY p q:=by
 unfold DZ AY;by_cases h:p<q
 ·rw [if_pos (Rat.lt_iff _ _ |>.1 h),if_pos h]
 ·rw [if_neg (fun k=>h (Rat.lt_iff _ _ |>.2 k)),if_neg h];by_cases e:p=q
  ·rw [if_pos (Rat.eq_iff_mul_eq_mul.1 e),if_pos e]
  ·rw [if_neg (fun k=>e (Rat.eq_iff_mul_eq_mul.2 k)),if_neg e]
theorem Afd(p q:Rat){a b:Nat}(hr:Rm a b p q)(hne:p≠q)(h1:FY p)(h2:FY q)(w:World):Calls Tryz.prog 140 #[S (R p),S (R q)] w (AK (AY p q) w):=by
 have q1:=Pp p hr.lp;have q2:=Pp q hr.lq;rw [Pn h1]at q1;rw [Pn h2]at q2;have n1:(R p == R q)=false:=(by rw [beq_eq_false_iff_ne];exact fun e=>hne (Ti e));have w1:=NI (x:=p.num) (y:=(q.den:Int)) h1.num (by rw [Aj1];exact h2.den);have w2:=NI (x:=q.num) (y:=(p.den:Int)) h2.num (by rw [Aj1];exact h1.den);have hc:=uu p q;obtain⟨x,hx⟩:=Ajv (p.num*(q.den:Int));obtain⟨y,hy⟩:=Ajv (q.num*(p.den:Int));rw [←hx]at w1 hc;rw [←hy]at w2 hc;rw [hx]at w1;rw [hy]at w2;have w1':IntKind.i64.wrap (p.num*(q.den:Int))=x:=(by rw [hx];exact w1);have w2':IntKind.i64.wrap (q.num*(p.den:Int))=y:=(by rw [hy];exact w2);have HC:=Ajw hc;clear h1 h2 hr hne w1 w2 hx hy hc
 rcases Int.lt_trichotomy x y with h|h|h
 ·have HR:=Ajw (kF h);go_enter Tryz.func140,Tryz.ntmps140;(go_wp2_with fail);(with_reducible refine(q1 _).mono ?_);rintro e w1 ⟨rfl,rfl⟩;(go_wp2_with fail);(with_reducible refine(q2 _).mono ?_);rintro e w2 ⟨rfl,rfl⟩;go_wp2;go_ret;exact⟨EM (by rw [←HC.out,HR.out]),Ac.refl _⟩
 ·have HR:=Ajw (uz h);have h1:¬x<y:=(by omega);have h2:¬y<x:=(by omega);clear h;go_enter Tryz.func140,Tryz.ntmps140;(go_wp2_with fail);(with_reducible refine(q1 _).mono ?_);rintro e w1 ⟨rfl,rfl⟩;(go_wp2_with fail);(with_reducible refine(q2 _).mono ?_);rintro e w2 ⟨rfl,rfl⟩;go_wp2;go_ret;exact⟨EM (by rw [←HC.out,HR.out]),Ac.refl _⟩
 ·have HR:=Ajw (Xg h);have h1:¬x<y:=(by omega);go_enter Tryz.func140,Tryz.ntmps140;(go_wp2_with fail);(with_reducible refine(q1 _).mono ?_);rintro e w1 ⟨rfl,rfl⟩;(go_wp2_with fail);(with_reducible refine(q2 _).mono ?_);rintro e w2 ⟨rfl,rfl⟩;go_wp2;go_ret;exact⟨EM (by rw [←HC.out,HR.out]),Ac.refl _⟩
theorem J2(p q:Rat){a b:Nat}(hr:Rm a b p q)(w:World)(_:Ao w):Calls Tryz.prog 140 #[S (R p),S (R q)] w (AK (AY p q) w):=by
 by_cases OM:p=q
 ·subst OM;have HR:=Ajw (uv (rfl:p=p));have n1:(R p == R p)=true:=(by simp);clear hr;go_enter Tryz.func140,Tryz.ntmps140;go_wp2;go_ret;exact⟨EM HR.out,Ac.refl _⟩
 exact Afd p q hr OM hr.s1 hr.s2 w
theorem G1(p q:Rat){a b:Nat}(hr:Rm a b p q)(w:World)(hw:Ao w):Calls Tryz.prog 274 #[S (R p),S (R q)] w (Cc (R (p-q)) w):=by
 have hn:=Afh q hr.b0 (by have:=hr.le;omega) hr.q;have ha:=Vm p (-q) (a:=a) (b:=b) ⟨hr.p,hr.q.neg,hr.a0,hr.b0,hr.le⟩;rw [←Rat.sub_eq_add_neg]at ha;clear hr;go_enter Tryz.func274,Tryz.ntmps274;(go_wp2_with fail);(with_reducible refine(hn _).mono ?_);rintro e w1 ⟨rfl,hx1⟩;(go_wp2_with fail);(with_reducible refine(ha _ (hw.ext hx1)).mono ?_);rintro e w2 ⟨rfl,hx2⟩;go_wp2;go_ret;exact⟨rfl,hx1.trans hx2⟩
theorem mf{q:Rat}(h:0<q):R q⁻¹=FG (q.den:Int) q.num.toNat:=by
 have hn:0<q.num:=vZ.2 h;rw [MM,Rat.num_inv,Rat.den_inv,if_neg (by omega),Int.sign_eq_one_of_pos hn,Int.one_mul,show q.num.natAbs=q.num.toNat by omega]
theorem ma{q:Rat}(h:q<0):R q⁻¹=FG (-(q.den:Int)) (-q.num).toNat:=by
 have hn:q.num<0:=II.2 h;rw [MM,Rat.num_inv,Rat.den_inv,if_neg (by omega),Int.sign_eq_neg_one_of_neg hn,Int.neg_one_mul,show q.num.natAbs=(-q.num).toNat by omega]
theorem BG.neg{z:Int}(h:BG z):BG (-z):=by unfold BG at h ⊢;rw [Int.natAbs_neg];exact h
def Vo(q:Rat):Value:=.tuple #[S (R q),.int .i64 0]
attribute [local go_sem] jD
theorem Afe(p q:Rat)(Bc:q≠0){a b:Nat}(hr:Rm a b p q)(w:World)(hw:Ao w):Calls Tryz.prog 273 #[S (R p),S (R q)] w (Bp (Vo (p/q)) w):=by
 have n1:=Hk Bc;have pb:=Afi q hr.b0 (by have:=hr.le;omega) hr.q;have hm:=NE p q⁻¹ (a:=a) (b:=b) ⟨hr.p,hr.q.inv hr.b0,hr.a0,hr.b0,hr.le⟩;rw [←Rat.div_def]at hm
 rcases Wx q with⟨hn,e⟩|⟨hp,c,l,e,hd,hc⟩
 ·rw [ma hn]at hm;have ne1:=tY q.num hr.bm;have ne2:=tY (q.den:Int) hr.be;have hj:=yB (-(q.den:Int)) (-q.num) (by have:=II.2 hn;omega) hr.be.neg hr.bm.neg;obtain⟨c,hc⟩:=Ajv (45:UInt8);have hl:0<(R q).length:=(by rw [e];simp);have hg:(R q)[0]'hl=c:=(by rw [List.getElem_of_eq e hl,hc];rfl);have hcb:((c.toNat:Int) == 45)=true:=(by rw [hc];rfl);clear e hc hn hr Bc;unfold Vo;go_enter Tryz.func273,Tryz.ntmps273;(go_wp2_with fail);(with_reducible refine(pb _ hw).mono ?_);rintro e w1 ⟨rfl,hx⟩;(go_wp2_with fail);(with_reducible refine(ne1 _).mono ?_);rintro e w2 ⟨rfl,hx2⟩;replace hx:=hx.trans hx2;(go_wp2_with fail);(with_reducible refine(ne2 _).mono ?_);rintro e w3 ⟨rfl,hx3⟩;replace hx:=hx.trans hx3;(go_wp2_with fail);(with_reducible refine(hj _).mono ?_);rintro e w4 ⟨rfl,Aq⟩;replace hx:=hx.trans Aq;(go_wp2_with fail);(with_reducible refine(hm _ (hw.ext hx)).mono ?_);rintro e w5 ⟨rfl,AE⟩;replace hx:=hx.trans AE;go_wp2;go_ret2;exact⟨rfl,hx⟩
 ·have hp:0<q:=(by grind);rw [mf hp]at hm;have hj:=yB (q.den:Int) q.num (vZ.2 hp) hr.be hr.bm;have hl:0<(R q).length:=(by rw [e];simp);have hg:(R q)[0]'hl=c:=(by rw [List.getElem_of_eq e hl];rfl);have hcb:((c.toNat:Int) == 45)=false:=(by rw [beq_eq_false_iff_ne];intro k;exact hc (UInt8.toNat_inj.1 (by simp;omega)));clear e hc hp hd hr Bc;unfold Vo;go_enter Tryz.func273,Tryz.ntmps273;(go_wp2_with fail);(with_reducible refine(pb _ hw).mono ?_);rintro e w1 ⟨rfl,hx⟩;(go_wp2_with fail);(with_reducible refine(hj _).mono ?_);rintro e w4 ⟨rfl,Aq⟩;replace hx:=hx.trans Aq;(go_wp2_with fail);(with_reducible refine(hm _ (hw.ext hx)).mono ?_);rintro e w5 ⟨rfl,AE⟩;replace hx:=hx.trans AE;go_wp2;go_ret2;exact⟨rfl,hx⟩
end Go.Proofs.YtgnejnampofhoaaGreatDoor
namespace Go.Proofs.YtgnejnampofhoaaGreatDoor
open Go.RowKit Kl
theorem BG.of_len{z:Int}{k:Nat}(h:(D z.natAbs).length<=k)(hk:k<=4000):BG z:=BG.of (NA h) hk
section
variable {l n d : Bs}
theorem Afc(hl:l.length<100000)(hn:(47:UInt8)∉l)(b:Bool)(hb:∀W,Calls Tryz.prog 293 #[S l] W (AK (Fa b) W))(w:World)(hw:Ao w) :
  Calls Tryz.prog 233 #[S l] w (AK (Fa b) w):=by
 have hc:=cut_c l [47] w hw (by omega);rw [Xk hn]at hc
 cases b
 ·rw [L9]at hb ⊢;go_enter Tryz.func233,Tryz.ntmps233;(go_wp2_with fail);(with_reducible refine hc.mono ?_);rintro e w1 ⟨rfl,hx⟩;(go_wp2_with fail);(with_reducible refine(hb _).mono ?_);rintro e w2 ⟨rfl,hx2⟩;go_wp2;go_ret;exact⟨rfl,hx.trans hx2⟩
 ·rw [GI]at hb ⊢;go_enter Tryz.func233,Tryz.ntmps233;(go_wp2_with fail);(with_reducible refine hc.mono ?_);rintro e w1 ⟨rfl,hx⟩;(go_wp2_with fail);(with_reducible refine(hb _).mono ?_);rintro e w2 ⟨rfl,hx2⟩;go_wp2;go_ret;exact⟨rfl,hx.trans hx2⟩
theorem Afb(hl:(n++47::d).length<100000)(hn:(47:UInt8)∉n)(hb:∀W,Calls Tryz.prog 293 #[S n] W (AK 2 W))(w:World)(hw:Ao w) :
  Calls Tryz.prog 233 #[S (n++47::d)] w (AK 2 w):=by
 have hc:=cut_c (n++47::d) [47] w hw (by omega);rw [Oj hn]at hc;go_enter Tryz.func233,Tryz.ntmps233;(go_wp2_with fail);(with_reducible refine hc.mono ?_);rintro e w1 ⟨rfl,hx⟩;(go_wp2_with fail);(with_reducible refine(hb _).mono ?_);rintro e w2 ⟨rfl,hx2⟩;go_wp2;go_ret;exact⟨rfl,hx.trans hx2⟩
theorem Afa(hl:(n++47::d).length<100000)(hn:(47:UInt8)∉n)(ha:∀W,Calls Tryz.prog 293 #[S n] W (AK 0 W))(hb:∀W,Calls Tryz.prog 293 #[S d] W (AK 2 W))(w:World)(hw:Ao w) :
  Calls Tryz.prog 233 #[S (n++47::d)] w (AK 2 w):=by
 have hc:=cut_c (n++47::d) [47] w hw (by omega);rw [Oj hn]at hc;go_enter Tryz.func233,Tryz.ntmps233;(go_wp2_with fail);(with_reducible refine hc.mono ?_);rintro e w1 ⟨rfl,hx⟩;(go_wp2_with fail);(with_reducible refine(ha _).mono ?_);rintro e w2 ⟨rfl,hx2⟩;replace hx:=hx.trans hx2;(go_wp2_with fail);(with_reducible refine(hb _).mono ?_);rintro e w3 ⟨rfl,hx3⟩;replace hx:=hx.trans hx3;go_wp2;go_ret;exact⟨rfl,hx⟩
end
theorem fR{z:Int}(h:(D z.natAbs).length<=17):(I z).length<=18:=by
 rcases DD z with⟨n,rfl,e⟩|⟨n,hn,rfl,e⟩
 ·rw [e];simp only [Aj1]at h;omega
 ·rw [e,List.length_cons];simp only [Int.natAbs_neg,Aj1]at h;omega
theorem eB(z:Int):(D z.natAbs).length<=(I z).length:=by
 rcases DD z with⟨n,rfl,e⟩|⟨n,hn,rfl,e⟩
 ·rw [e,Aj1];exact Ajz _
 ·rw [e,List.length_cons,Int.natAbs_neg,Aj1];omega
def La(a b:Int):Bool:=decide (1<b)&&decide (a≠0)&&decide (Int.gcd a b=1)
theorem AeY(a b:Int)(Zj:(D a.natAbs).length<=17)(Uy:(D b.natAbs).length<=17)(w:World)(hw:Ao w) :
  Calls Tryz.prog 233 #[S (I a++47::I b)] w (AK (Fa (La a b)) w):=by
 have ba:=BG.of_len Zj (by omega);have bb:=BG.of_len Uy (by omega);have l1:=ba.len;have l2:=bb.len;have hc:=cut_c (I a++47::I b) [47] w hw (by rw [List.length_append,List.length_cons];omega);rw [Oj (Wu a)]at hc;have ca:=RL (I a);have cb:=RL (I b);rw [if_pos ⟨a,rfl,by omega⟩]at ca;rw [if_pos ⟨b,rfl,by omega⟩]at cb;have hb1:BG 1:=BG.of (k:=1) (by decide) (by omega);have cp:=Acu b 1 bb hb1;rw [Tb]at cp;have gc:=Acv a b (fR Zj) (fR Uy);have hlen:(I a++47::I b).length<10000:=(by rw [List.length_append,List.length_cons];omega);obtain⟨l,hl⟩:=Ajv (I a++47::I b);rw [←hl]at hc ⊢;clear hl Zj Uy ba bb hlen;by_cases h1:1<b
 ·rw [Xg h1]at cp;by_cases h2:a=0
  ·have HV:Hid (Fa (La a b)=2):=Ajw (by unfold La;rw [decide_eq_false (p:=a≠0) (by simpa using h2)];simp;rfl);have hz:(I a == [48])=true:=(by rw [h2,Tc];rfl);clear gc h2;go_enter Tryz.func233,Tryz.ntmps233;(go_wp2_with fail);(with_reducible refine hc.mono ?_);rintro e w1 ⟨rfl,hx⟩;(go_wp2_with fail);(with_reducible refine(ca _).mono ?_);rintro e w2 ⟨rfl,hx2⟩;replace hx:=hx.trans hx2;(go_wp2_with fail);(with_reducible refine(cb _).mono ?_);rintro e w3 ⟨rfl,hx3⟩;replace hx:=hx.trans hx3;(go_wp2_with fail);(with_reducible refine(cp _).mono ?_);rintro e w4 ⟨rfl,Aq⟩;replace hx:=hx.trans Aq;go_wp2;go_ret;exact⟨EM HV.out,hx⟩
  ·have hz:=fS h2
   have HV:Hid (Fa (La a b)=if Int.gcd a b=1 then 0 else 2):=Ajw (by
    unfold La;rw [decide_eq_true h1,decide_eq_true (p:=a≠0) h2];by_cases h:Int.gcd a b=1
    ·rw [if_pos h,decide_eq_true h];rfl
    ·rw [if_neg h,decide_eq_false h];rfl)
   by_cases h3:Int.gcd a b=1
   ·rw [if_pos h3]at HV;have hg1:(I (Int.gcd a b:Nat) == [49])=true:=(by rw [h3];rw [show ((1:Nat):Int)=1 from rfl,Tb];rfl);clear h3 h2;go_enter Tryz.func233,Tryz.ntmps233;(go_wp2_with fail);(with_reducible refine hc.mono ?_);rintro e w1 ⟨rfl,hx⟩;(go_wp2_with fail);(with_reducible refine(ca _).mono ?_);rintro e w2 ⟨rfl,hx2⟩;replace hx:=hx.trans hx2;(go_wp2_with fail);(with_reducible refine(cb _).mono ?_);rintro e w3 ⟨rfl,hx3⟩;replace hx:=hx.trans hx3;(go_wp2_with fail);(with_reducible refine(cp _).mono ?_);rintro e w4 ⟨rfl,Aq⟩;replace hx:=hx.trans Aq;(go_wp2_with fail);(with_reducible refine(gc _ (hw.ext hx)).mono ?_);rintro e w5 ⟨rfl,AE⟩;replace hx:=hx.trans AE;go_wp2;go_ret;exact⟨EM HV.out,hx⟩
   ·rw [if_neg h3]at HV;have hg1:(I (Int.gcd a b:Nat) == [49])=false:=lj (by omega);clear h3 h2;go_enter Tryz.func233,Tryz.ntmps233;(go_wp2_with fail);(with_reducible refine hc.mono ?_);rintro e w1 ⟨rfl,hx⟩;(go_wp2_with fail);(with_reducible refine(ca _).mono ?_);rintro e w2 ⟨rfl,hx2⟩;replace hx:=hx.trans hx2;(go_wp2_with fail);(with_reducible refine(cb _).mono ?_);rintro e w3 ⟨rfl,hx3⟩;replace hx:=hx.trans hx3;(go_wp2_with fail);(with_reducible refine(cp _).mono ?_);rintro e w4 ⟨rfl,Aq⟩;replace hx:=hx.trans Aq;(go_wp2_with fail);(with_reducible refine(gc _ (hw.ext hx)).mono ?_);rintro e w5 ⟨rfl,AE⟩;replace hx:=hx.trans AE;go_wp2;go_ret;exact⟨EM HV.out,hx⟩
 ·have HV:Hid (Fa (La a b)=2):=Ajw (by unfold La;rw [decide_eq_false h1];rfl);obtain⟨s,hs,hs0⟩:∃s:Int,s=DZ b 1/\s<=0:=⟨_,rfl,by unfold DZ;split<;>(try split)<;>omega⟩;rw [←hs]at cp;clear hs gc h1;go_enter Tryz.func233,Tryz.ntmps233;(go_wp2_with fail);(with_reducible refine hc.mono ?_);rintro e w1 ⟨rfl,hx⟩;(go_wp2_with fail);(with_reducible refine(ca _).mono ?_);rintro e w2 ⟨rfl,hx2⟩;replace hx:=hx.trans hx2;(go_wp2_with fail);(with_reducible refine(cb _).mono ?_);rintro e w3 ⟨rfl,hx3⟩;replace hx:=hx.trans hx3;(go_wp2_with fail);(with_reducible refine(cp _).mono ?_);rintro e w4 ⟨rfl,Aq⟩;replace hx:=hx.trans Aq;go_wp2;go_ret;exact⟨EM HV.out,hx⟩
open Classical in
theorem uj(l:Bs):(if JI l then (0:Int)else 2)=Fa (decide (JI l)):=by
 by_cases h:JI l
 ·rw [if_pos h,decide_eq_true h];rfl
 ·rw [if_neg h,decide_eq_false h];rfl
open Classical in
theorem AeZ(l:Bs)(hl9:l.length<=17)(w:World)(hw:Ao w):Calls Tryz.prog 233 #[S l] w (AK (Fa (decide (CH l))) w):=by
 have hl:l.length<100000:=by omega
 rcases vz l with⟨n,d,rfl,hn,-⟩|⟨hn,-⟩
 ·have ca:=RL n;have cb:=RL d;by_cases h1:JI n
  ·rw [if_pos h1]at ca;by_cases h2:JI d
   ·obtain⟨a,rfl,ha⟩:=h1;obtain⟨b,rfl,hb⟩:=h2;rw [List.length_append,List.length_cons]at hl9;have:=eB a;have:=eB b;have h:=AeY a b (by omega) (by omega) w hw
    have e:La a b=decide (CH (I a++47::I b)):=by
     rw [Bool.eq_iff_iff,decide_eq_true_eq,bG hn];unfold La;simp only [Bool.and_eq_true,decide_eq_true_eq];constructor
     ·rintro⟨⟨x1,x2⟩,x3⟩;exact⟨a,b,rfl,rfl,ha,hb,x1,x2,x3⟩
     ·rintro⟨a',b',e1,e2,_,_,x1,x2,x3⟩;obtain rfl:=NW e1;obtain rfl:=NW e2;exact⟨⟨x1,x2⟩,x3⟩
    rw [←e];exact h
   ·rw [if_neg h2]at cb
    have e:decide (CH (n++47::d))=false:=by rw [decide_eq_false_iff_not,bG hn];rintro⟨a,b,_,e2,_,hb,_⟩;exact h2 ⟨b,e2,hb⟩
    rw [e];exact Afa hl hn ca cb w hw
  ·rw [if_neg h1]at ca
   have e:decide (CH (n++47::d))=false:=by rw [decide_eq_false_iff_not,bG hn];rintro⟨a,b,e1,_,ha,_⟩;exact h1 ⟨a,e1,ha⟩
   rw [e];exact Afb hl hn ca w hw
 ·have ca:=RL l;simp only [uj]at ca;have e:decide (CH l)=decide (JI l):=(by rw [Bool.eq_iff_iff,decide_eq_true_eq,decide_eq_true_eq];exact Ael hn);rw [e];exact Afc hl hn _ ca w hw
structure Ae(w:World)(A:Option Addr)(cs:List Value):Prop where
 ad:0<cs.length→∃b o,A=some ⟨b,o,none⟩/\∀j (h:j<cs.length),w.cell? ⟨b,o+j,none⟩=some cs[j]
theorem Ae.ext{w w':World}{A:Option Addr}{cs:List Value}(h:Ae w A cs)(hx:Ac w w'):Ae w' A cs:=
 ⟨fun h0=>by
  obtain⟨b,o,e,hc⟩:=h.ad h0
  exact⟨b,o,e,fun j hj=>hx.cellS (hc j hj)⟩⟩
theorem Ae.lit(w:World)(cs:Array Value)(t:TypeId):Ae (w.alloc (.cells cs t)) (some ⟨w.heap.size,0,none⟩) cs.toList:=
 ⟨fun _=>⟨w.heap.size,0,rfl,fun j hj=>by
  refine Aa (Ajy w _) ?_
  rw [Nat.zero_add,←Array.getElem?_toList,Aj4 hj]⟩⟩
def Vd(l:List Bs):Prop:=∀x∈l,CH x
theorem AdZ{x y:Bs} : Vd [x,y]↔CH x/\CH y:=by unfold Vd;simp
open Classical in
theorem wA(l:List Bs)(ok:Bool)(Ap:ok=true↔Vd l)(A:Option Addr)(c:Nat)(w:World)(hw:Ao w)(hr:Ae w A (l.map S))(_:l.length<=c)(_:c<=9223372036854775807)(hl:l.length<=100000)(hlen:∀x∈l,x.length<=17) :
  Calls Tryz.prog 186 #[.slice A l.length c] w (AK (Fa ok) w):=by
 have HV:=Ajw Ap;have HL:=Ajw hlen;clear Ap hlen;go_enter Tryz.func186,Tryz.ntmps186;go_wp2
 go_loopw [8] (fun i wr=>∃j:Nat,i=.int .i64 (j:Nat)/\j<=l.length/\(∀x∈l.take j,CH x)/\Ac w wr) (fun i _=>l.length-(intOf i).toNat)
 case atStart=>exact⟨0,rfl,by omega,by simp,Ac.refl _⟩
 case round=>
  obtain⟨j,rfl,hj,Ap,Ag⟩:=hrel;have HO:=Ajw Ap;clear Ap;by_cases hlt:j<l.length
  ·obtain⟨b,o,rfl,hcs⟩:=(hr.ext Ag).ad (by simp;omega);have hg:=hcs j (by simp;omega);rw [List.getElem_map]at hg;clear hcs;obtain⟨x,hx⟩:=Ajv (l[j]);rw [←hx]at hg;have hmem:x∈l:=(by rw [hx];exact Aj0 hlt);have ck:=AeZ x (HL.out x hmem) wr (hw.ext Ag);have HX:=Ajw hx;clear hx;have hj0:(0:Int)<=(j:Int):=(by omega);have AP:(j:Int)<(l.length:Int):=(by omega);by_cases hx:CH x
   ·rw [decide_eq_true hx,GI]at ck;(go_wp2_with fail);(with_reducible refine ck.mono ?_);rintro e w2 ⟨rfl,hx2⟩;go_wp2;go_roundw
    case rel=>
     refine⟨j+1,by go_num,hlt,?_,Ag.trans hx2⟩;intro y hy;rw [Aj2 hlt,←HX.out]at hy
     rcases List.mem_append.1 hy with h|h
     ·exact HO.out y h
     ·simp only [AjB]at h;rw [h];exact hx
    case measure=>simp [intOf];omega
   ·rw [decide_eq_false hx,L9]at ck
    have hv:ok=false:=by
     cases ok
     ·rfl
     ·exact absurd (HV.out.1 rfl x hmem) hx
    subst hv;rw [L9];(go_wp2_with fail);(with_reducible refine ck.mono ?_);rintro e w2 ⟨rfl,hx2⟩;go_wp2;go_ret;exact⟨rfl,Ag.trans hx2⟩
  ·have hv:ok=true:=HV.out.2 (by
    have:=HO.out
    rwa [Aj7 (by omega)]at this)
   subst hv;rw [GI];go_wp2;go_ret;exact⟨rfl,Ag⟩
theorem MO(x y:Bs)(ok:Bool)(Ap:ok=true↔CH x/\CH y)(hx:x.length<=17)(hy:y.length<=17)(w:World)(hw:Ao w) :
  Calls Tryz.prog 102 #[.agg #[S x,S y]] w (AK (Fa ok) w):=by
 have e1:=(Ac.refl w).alloc (.cells #[S x,S y] 27);have e2:=e1.alloc (.cells #[S x,S y] 25);have hr:=Ae.lit (w.alloc (.cells #[S x,S y] 27)) #[S x,S y] 25;have nm:=wA [x,y] ok (by rw [Ap,AdZ]) _ 2 _ (hw.ext e2) hr (by simp) (by omega) (by simp) (by intro z hz;simp only [List.mem_cons,AjA,or_false]at hz;rcases hz with rfl|rfl<;>assumption);simp only [List.length_cons,List.length_nil,Nat.zero_add,Nat.reduceAdd,Aj6]at nm;clear hr Ap;go_enter Tryz.func102,Tryz.ntmps102;(go_wp2_with fail);(with_reducible refine nm.mono ?_);rintro e w2 ⟨rfl,hx2⟩;go_wp2;go_ret;exact⟨rfl,e2.trans hx2⟩
def flat(l:List (Bs×Bs)):List Value:=l.flatMap fun p=>[S p.1,S p.2]
theorem flat_length(l:List (Bs×Bs)):(flat l).length=l.length*2:=by
 induction l with
 | nil=>rfl
 | cons p l ih=>unfold flat at *;simp only [List.flatMap_cons,List.length_append,List.length_cons,List.length_nil];omega
theorem flat_get:∀(l:List (Bs×Bs)) (j:Nat) (h:j<l.length),(flat l)[j*2]?=some (S l[j].1)/\(flat l)[j*2+1]?=some (S l[j].2)
 | p::l,0,_=>⟨rfl,rfl⟩
 | p::l,j+1,h=>by have ih:=flat_get l j (by simpa using h);have e:flat (p::l)=S p.1::S p.2::flat l:=rfl;rw [e,show (j+1)*2=j*2+1+1 by omega];exact ih
end Go.Proofs.YtgnejnampofhoaaGreatDoor
namespace Go.Proofs.YtgnejnampofhoaaGreatDoor
end Go.Proofs.YtgnejnampofhoaaGreatDoor
namespace Go.Proofs.YtgnejnampofhoaaGreatDoor
open Go.RowKit Kl
theorem MN(w:World)(o1 o2 o3:Obj):∃W,W=((w.alloc o1).alloc o2).alloc o3/\Ac w W/\W.heap[w.heap.size]?=some o1/\W.heap[w.heap.size+1]?=some o2/\W.heap[w.heap.size+1+1]?=some o3:=by
 have h2:=Ajy (w.alloc o1) o2;have h3:=Ajy ((w.alloc o1).alloc o2) o3;rw [Aj6]at h2;rw [Aj6,Aj6]at h3;refine⟨_,rfl,(((Ac.refl _).alloc _).alloc _).alloc _,?_,?_,h3⟩
 ·exact(Below.heap_alloc _ _ _ (by simp;omega)).trans ((Below.heap_alloc _ _ _ (by simp)).trans (Ajy w o1))
 ·exact(Below.heap_alloc _ _ _ (by simp)).trans h2
theorem set2{w:World}{b:Nat}{a0 a1:Value}(v0 v1:Value)(g1:w.cell? ⟨b,0,none⟩=some a0)(g2:w.cell? ⟨b,1,none⟩=some a1) :
  ((w.setCell ⟨b,0,none⟩ v0).setCell ⟨b,1,none⟩ v1).cell? ⟨b,0,none⟩=some v0/\((w.setCell ⟨b,0,none⟩ v0).setCell ⟨b,1,none⟩ v1).cell? ⟨b,1,none⟩=some v1:=by
 refine⟨(World.cell?_setCell_other _ _ _ _ (by simp)).trans (World.cell?_setCell_same _ _ _ g1),?_⟩;exact World.cell?_setCell_same _ _ _ ((World.cell?_setCell_other _ _ _ _ (by simp)).trans g2)
def Ak(p:Pt):Value:=.agg #[S (R p.x),S (R p.y)]
def AC(s:Sg):Value:=.agg #[S (R s.a.x),S (R s.a.y),S (R s.b.x),S (R s.b.y)]
structure Az(k:Nat)(p:Pt):Prop where
 x:Sz k p.x
 y:Sz k p.y
structure EW(k:Nat)(s:Sg):Prop where
 a:Az k s.a
 b:Az k s.b
theorem ai{i j m:Nat}{x y k:Rat}(hx:Sz i x)(hy:Sz j y)(hk:Sz m k):Sz (2*i+j+m+2) (JC x y k):=
 (hx.add (hk.mul (hy.sub hx))).mono (by omega)
structure IQ(W:World)(b:Nat)(p:Pt):Prop where
 k1:W.cell? ⟨b,0,none⟩=some (S (R p.x))
 k2:W.cell? ⟨b,1,none⟩=some (S (R p.y))
theorem IQ.ext{W V:World}{b:Nat}{p:Pt}(h:IQ W b p)(hx:Ac W V):IQ V b p:=⟨hx.cellS h.k1,hx.cellS h.k2⟩
end Go.Proofs.YtgnejnampofhoaaGreatDoor
namespace Go.Proofs.YtgnejnampofhoaaGreatDoor
end Go.Proofs.YtgnejnampofhoaaGreatDoor
namespace Go.Proofs.YtgnejnampofhoaaGreatDoor
open Go.RowKit Kl
theorem KO{q:Rat}{k:Nat}(h:Sz k q)(hk:0<k)(hk2:k<=200):CH (R q):=
 ⟨q,rfl,Aj9 (Hf hk h.num) hk2,Aj9 (Hf hk h.den) hk2⟩
theorem P0{q:Rat}{k:Nat}(h:Sz k q)(hk:0<k)(hk2:k<=7):(R q).length<=17:=by have:=Lx hk h;omega
def KR(p:Pt):Bs×Bs:=(R p.x,R p.y)
theorem Oc{w:World}{b:Nat}{a0 a1 a2 a3:Value}{t:TypeId}(v0 v1 v2 v3:Value)(h:w.heap[b]?=some (.cells #[a0,a1,a2,a3] t)) :
  ((((w.setCell ⟨b,0,none⟩ v0).setCell ⟨b,1,none⟩ v1).setCell ⟨b,2,none⟩ v2).setCell ⟨b,3,none⟩ v3).heap[b]?=some (.cells #[v0,v1,v2,v3] t):=by
 simp only [World.setCell,Array.getElem?_modify,h];simp
end Go.Proofs.YtgnejnampofhoaaGreatDoor
namespace Go.Proofs.YtgnejnampofhoaaGreatDoor
end Go.Proofs.YtgnejnampofhoaaGreatDoor
namespace Go.Proofs.YtgnejnampofhoaaGreatDoor
open Go.RowKit Kl
theorem iY{w:World}{b:Nat}{a0 a1:Value}{t:TypeId}(v0 v1:Value)(h:w.heap[b]?=some (.cells #[a0,a1] t)) :
  ((w.setCell ⟨b,0,none⟩ v0).setCell ⟨b,1,none⟩ v1).heap[b]?=some (.cells #[v0,v1] t):=by
 simp only [World.setCell,Array.getElem?_modify,h];simp
end Go.Proofs.YtgnejnampofhoaaGreatDoor
namespace Go.Proofs.YtgnejnampofhoaaGreatDoor
end Go.Proofs.YtgnejnampofhoaaGreatDoor
namespace Go.Proofs.YtgnejnampofhoaaGreatDoor
open Go.RowKit Kl
theorem yG(z:Int)(h0:-9223372036854775808<=z)(h1:z<=9223372036854775807)(w:World)(hw:Ao w):Calls Tryz.prog 101 #[.int .i64 z] w (Cc (I z) w):=by
 have hi:=OW z h0 h1 w hw;clear h0 h1;go_enter Tryz.func101,Tryz.ntmps101;(go_wp2_with fail);(with_reducible refine hi.mono ?_);rintro e w1 ⟨rfl,hx1⟩;go_wp2;go_ret;exact⟨rfl,hx1⟩
structure lz(n:Int)(d g:Nat)(n':Int)(d':Nat):Prop where
 R:R (mkRat n d)=FG n' d'
 e1:n.tdiv (g:Int)=n'
 e2:(d:Int)/(g:Int)=(d':Int)
 g0:0<g
 gd:g<=d
 b1:n'.natAbs<=n.natAbs
 b2:d'<=d
theorem Adw(n:Int){d:Nat}(hd:0<d):∃n' d',lz n d (Nat.gcd n.natAbs d) n' d':=by
 have hgn:((Nat.gcd n.natAbs d:Nat):Int)∣n:=Int.natAbs_dvd_natAbs.1 (by rw [Aj1];exact Nat.gcd_dvd_left ..);refine⟨n/(Nat.gcd n.natAbs d:Nat),d/Nat.gcd n.natAbs d,fX n hd,Int.tdiv_eq_ediv_of_dvd hgn,by simp,Nat.gcd_pos_of_pos_right _ hd,Nat.gcd_le_right _ hd,aR _ _ hgn,Nat.div_le_self _ _⟩
theorem Afs(n:Int)(d:Nat)(hd:0<d)(GV:-9000000000000000000<=n)(BM:n<=9000000000000000000)(Gp:d<=9000000000000000000)(w:World)(hw:Ao w) :
  Calls Tryz.prog 180 #[S (I n),S (I (d:Int))] w (Cc (R (mkRat n d)) w):=by
 obtain⟨n',d',Rr⟩:=Adw n hd;obtain⟨g,hg⟩:=Ajv (Nat.gcd n.natAbs d);rw [←hg]at Rr;obtain⟨hR,e1,e2,hg0,hgd,b1,b2⟩:=Rr;have ln:(I n').length<=20:=MJ (z:=n') (k:=19) (by omega) (by omega);have ld:(D d').length<=19:=Hf (by omega) (by omega);have WR:=WS n (by omega) (by omega);have at2:=WS (d:Int) (by omega) (by omega);have HR:=Ajw hR;have HG:=Ajw hg;have H1:=Ajw e1;have H2:=Ajw e2;have i1:=fun W hW=>OW n' (by omega) (by omega) W hW;have i2:=fun W hW=>OW (d':Int) (by omega) (by omega) W hW;rw [ER]at i2;obtain⟨na,rT⟩:=Ajv (n.natAbs:Nat);have Ab5:na<=9000000000000000000:=(by omega);have VY:=Ajw rT;clear hR hg e1 e2 rT;by_cases Mk:n<0
 case' pos=>have Ab7:-n=(na:Int):=(by have:=VY.out;omega);go_enter Tryz.func180,Tryz.ntmps180;(go_wp2_with fail);(with_reducible refine(WR _).mono ?_);rintro e w1 ⟨rfl,hx⟩;(go_wp2_with fail);(with_reducible refine(at2 _).mono ?_);rintro e w2 ⟨rfl,hx2⟩;have hE:=hx.trans hx2;go_wp2;clear Ab7
 case' neg=>obtain⟨m,hm⟩:=Int.eq_ofNat_of_zero_le (show 0<=n by omega);obtain rfl:m=na:=(by have:=VY.out;omega);subst hm;go_enter Tryz.func180,Tryz.ntmps180;(go_wp2_with fail);(with_reducible refine(WR _).mono ?_);rintro e w1 ⟨rfl,hx⟩;(go_wp2_with fail);(with_reducible refine(at2 _).mono ?_);rintro e w2 ⟨rfl,hx2⟩;have hE:=hx.trans hx2;go_wp2
 all_goals
  clear WR at2 hx hx2
  go_loopw [9,10] (fun x y wr=>∃a b:Nat,x=.int .i64 (a:Nat)/\y=.int .i64 (b:Nat)/\Nat.gcd a b=g/\a<=9000000000000000000/\b<=9000000000000000000/\Ac w wr) (fun _ y _=>(intOf y).natAbs)
  case atStart=>exact⟨_,d,rfl,rfl,by rw [HG.out,←VY.out],Ab5,Gp,hE⟩
  case round=>
   obtain⟨a,b,rfl,rfl,Gr,ha,hb,Ag⟩:=hrel;by_cases hb0:b=0
   ·subst hb0;obtain rfl:a=g:=(by rw [←Gr];simp);clear Gr;have e1:=H1.out;have e2:=H2.out;have Mb:(0:Int)<(a:Int):=(by omega);have hgz:((a:Int) == 0)=false:=(by rw [beq_eq_false_iff_ne];omega);by_cases H9:d'=1
    ·subst H9;have HF:Hid (R (mkRat _ d)=I n'):=Ajw (by rw [HR.out];rfl);(go_wp2_with fail)
     go_quiet (fail)
     (go_wp2_with fail);(with_reducible refine(i1 _ (hw.ext (Ag.drewN _))).mono ?_);rintro e w3 ⟨rfl,hx3⟩;go_wp2;go_ret;exact⟨J6 (by rw [HF.out]),(Ag.drewN _).trans hx3⟩
    ·have HF:Hid (R (mkRat _ d)=I n'++47::D d'):=Ajw (by rw [HR.out];exact if_neg H9);have qI:((d':Int) == 1)=false:=(by rw [beq_eq_false_iff_ne];omega);clear H9;(go_wp2_with fail)
     go_quiet (fail)
     (go_wp2_with fail);(with_reducible refine(i1 _ (hw.ext (Ag.drewN _))).mono ?_);rintro e w3 ⟨rfl,hx3⟩;have hx3:=(Ag.drewN _).trans hx3;(go_wp2_with fail);(with_reducible refine(i2 _ (hw.ext hx3)).mono ?_);rintro e w4 ⟨rfl,Aq⟩;go_wp2;go_ret;exact⟨J6 (by rw [HF.out];apply ByteArray.ext;simp),hx3.trans Aq⟩
   ·have hlt:a%b<b:=Nat.mod_lt _ (by omega);have QU:((b:Int) != 0)=true:=(by rw [bne_iff_ne];omega);have AB:((b:Int) == 0)=false:=(by rw [beq_eq_false_iff_ne];omega);have Aw:(0:Int)<(b:Int):=(by omega);have Ln:Hid (Nat.gcd b (a%b)=g):=Ajw (by rw [←Gr,Nat.gcd_comm b,←Nat.gcd_rec,Nat.gcd_comm]);clear Gr;(go_wp2_with fail)
    go_quiet (fail)
    go_wp2;go_roundw
    case rel=>exact⟨b,a%b,rfl,by go_num,Ln.out,hb,by omega,Ag.drewN _⟩
    case measure=>simp [intOf];omega
theorem Afr(n:Int)(d:Nat)(hd:0<d)(l1:(I n).length<=9)(l2:(I (d:Int)).length<=9)(w:World)(hw:Ao w) :
  Calls Tryz.prog 100 #[S (I n),S (I (d:Int))] w (Cc (R (mkRat n d)) w):=by
 have b1:=Vw l1;have b2:=Vw l2;have e9:(10:Nat)^9=1000000000:=(by decide);rw [e9]at b1 b2;have sm:=Afs n d hd (by omega) (by omega) (by omega);have i1:decide (((I n).length:Int)<=9)=true:=(by rw [decide_eq_true_eq];omega);have i2:decide (((I (d:Int)).length:Int)<=9)=true:=(by rw [decide_eq_true_eq];omega);have l1':((I n).length:Int)<=9:=(by omega);have l2':((I (d:Int)).length:Int)<=9:=(by omega);clear b1 b2 e9 hd l1 l2;go_enter Tryz.func100,Tryz.ntmps100;(go_wp2_with fail);(with_reducible refine(sm _ hw).mono ?_);rintro e w3 ⟨rfl,hx3⟩;go_wp2;go_ret;exact⟨rfl,hx3⟩
theorem yH(n:Int)(d:Nat)(hd:0<d)(h1:n.natAbs<10000000)(h2:d<10000000)(w:World)(hw:Ao w) :
  Calls Tryz.prog 47 #[.int .i64 n,.int .i64 (d:Nat)] w (Cc (R (mkRat n d)) w):=by
 have e7:(10:Nat)^7=10000000:=(by decide);have l1:(I n).length<=9:=Aj9 (MJ (k:=7) (by omega) (by omega)) (by omega);have l2:(I (d:Int)).length<=9:=Aj9 (MJ (z:=(d:Int)) (k:=7) (by omega) (by rw [Aj1];omega)) (by omega);have o1:=yG n (by omega) (by omega);have o2:=yG (d:Int) (by omega) (by omega);have fr:=Afr n d hd l1 l2;clear e7 l1 l2 hd h1 h2;go_enter Tryz.func47,Tryz.ntmps47;(go_wp2_with fail);(with_reducible refine(o1 _ hw).mono ?_);rintro e w1 ⟨rfl,hx⟩;(go_wp2_with fail);(with_reducible refine(o2 _ (hw.ext hx)).mono ?_);rintro e w2 ⟨rfl,hx2⟩;replace hx:=hx.trans hx2;(go_wp2_with fail);(with_reducible refine(fr _ (hw.ext hx)).mono ?_);rintro e w3 ⟨rfl,hx3⟩;go_wp2;go_ret;exact⟨rfl,hx.trans hx3⟩
end Go.Proofs.YtgnejnampofhoaaGreatDoor
namespace Go.Proofs.YtgnejnampofhoaaGreatDoor
end Go.Proofs.YtgnejnampofhoaaGreatDoor
namespace Go.Proofs.YtgnejnampofhoaaGreatDoor
open Go.RowKit Kl
theorem vK(x:Int):mkRat x 1=(x:Rat):=by
 apply Rat.ext
 ·rw [Rat.num_mkRat];simp
 ·rw [Rat.den_mkRat];simp
end Go.Proofs.YtgnejnampofhoaaGreatDoor
namespace Go.Proofs.YtgnejnampofhoaaGreatDoor
end Go.Proofs.YtgnejnampofhoaaGreatDoor
