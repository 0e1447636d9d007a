/- W11. -/
import Derived.Test.YtnfedbopbcegjaaGreatDoorW05
import Derived.Deep.DeepCutAuto
import Derived.RangeFuncNested
import Derived.RangeFuncBound
import Derived.Shelf.RegionOpen
import Derived.OwnWalkIn
import Derived.LoopNIn
import Derived.LoopIn
import Derived.StillTailTactics
import Derived.Deep.RegionHeld3
set_option maxRecDepth 100000
set_option maxHeartbeats 2000000
namespace Go.Proofs.YtnfedbopbcegjaaGreatDoor
open Go.RowKit Kl
theorem xJ{z:Int}{k:Nat}(h:(I z).length<=k):Rj z k=.tuple #[.int .i64 z,.bool true]:=if_pos h
theorem xI(z:Int)(w:World):Calls Tryz.prog 107 #[S (I z),.int .i64 18] w (Cp (Rj z 18) w):=AfB z 18 (by omega) w
theorem yY{z:Int}{k:Nat}(h:(I z).length<=k):z.natAbs<10^k:=by
 rcases Ds z with⟨n,rfl,e⟩|⟨n,hn,rfl,e⟩
 ·rw [e]at h;simpa using MS (n:=n) (k:=k) (by omega)
 ·rw [e,List.length_cons]at h;simpa using MS (n:=n) (k:=k) (by omega)
theorem Nh{x y:Int}(hx:x.natAbs<1000000000)(hy:y.natAbs<1000000000):IntKind.i64.wrap (x*y)=x*y:=by
 have h:=uW hx hy;rw [←Int.natAbs_mul]at h;exact AjT _ (by omega)
theorem Ab{W:World}{b o:Nat}{cs:Array Value}{t:TypeId}{fz:Nat×Nat}{v:Value}(h:W.heap[b]?=some (.cells cs t fz))(hv:cs[o]?=some v):W.cell? ⟨b,o,none⟩=some v:=by
 unfold World.cell?;simp [h,hv]
theorem Ao{W:World}{b o:Nat}{cs:Array Value}{t:TypeId}(h:W.heap[b]?=some (.cells cs t)):W.frozen? ⟨b,o,none⟩=false:=by unfold World.frozen?;simp [h]
theorem jW(a b:Int):Int.gcd b (a.tmod b)=Int.gcd a b:=by
 unfold Int.gcd;rw [Int.natAbs_tmod,Nat.gcd_comm b.natAbs,←Nat.gcd_rec,Nat.gcd_comm]
theorem vB(a:Int){b:Int}(h:b≠0):(a.tmod b).natAbs<b.natAbs:=by
 rw [Int.natAbs_tmod];exact Nat.mod_lt _ (by omega)
theorem Adc(x y:Int)(hx:(I x).length<=18)(hy:(I y).length<=18)(w:World)(hw:Ak w) :
  Calls Tryz.prog 69 #[S (I x),S (I y)] w (BK (D (Int.gcd x y)) w):=by
 have q1:=xI x;have q2:=xI y;rw [xJ hx]at q1;rw [xJ hy]at q2;have b1:=yY hx;have b2:=yY hy;have e18:(10:Nat)^18=1000000000000000000:=(by decide);rw [e18]at b1 b2;obtain⟨g,hg⟩:=AjJ (Int.gcd x y);rw [←hg];have HG:=AjK hg.symm;clear hx hy e18 hg;go_enter Tryz.func69,Tryz.ntmps69;(go_wp2_with fail);(with_reducible refine(q1 _).mono ?_);rintro e w1 ⟨rfl,hx1⟩;(go_wp2_with fail);(with_reducible refine(q2 _).mono ?_);rintro e w2 ⟨rfl,hx2⟩;have hx:=hx1.trans hx2;clear hx1 hx2 q1 q2;go_wp2
 go_loopw [5,7] (fun u v wr=>∃a b:Int,u=.int .i64 a/\v=.int .i64 b/\Int.gcd a b=g/\a.natAbs<1000000000000000000/\b.natAbs<1000000000000000000/\Aa w wr) (fun _ v _=>(intOf v).natAbs)
 case atStart=>exact⟨x,y,rfl,rfl,HG.out,b1,b2,hx⟩
 case round=>
  obtain⟨a,b,rfl,rfl,JR,ha,hb,Ae⟩:=hrel;by_cases hb0:b=0
  ·subst hb0;have Ob:a.natAbs=g:=(by rw [←JR];simp);have hmx:max a (-a)=(g:Int):=(by omega);have ho:=fun W hW=>tH (g:Int) (by omega) (by omega) W hW;have BH:((0:Int) != 0)=false:=(by rfl);clear Ob JR;rw [EX]at ho;have MI:IntKind.i64.wrap (-a) = -a:=AjT _ (by omega);(go_wp2_with fail);(with_reducible refine(ho _ (hw.ext Ae)).mono ?_);rintro e w3 ⟨rfl,hx3⟩;go_wp2;go_ret;exact⟨rfl,Ae.trans hx3⟩
  ·have hlt:=vB a hb0;have Ol:(a.tmod b).natAbs<1000000000000000000:=Nat.lt_trans hlt hb;have Oh:=jW a b;have M5:(b != 0)=true:=(by rw [bne_iff_ne];exact hb0);have Di:(b == 0)=false:=(by rw [beq_eq_false_iff_ne];exact hb0);have Vx:=AjK (Oh.trans JR);clear Oh JR;(go_wp2_with fail)
   go_quiet (fail)
   go_wp2;go_roundw
   case rel=>exact⟨b,a.tmod b,rfl,rfl,Vx.out,hb,Ol,Ae.drewN _⟩
   case measure=>exact hlt
theorem Adb(x y:Int)(hx:(I x).length<=18)(hy:(I y).length<=18)(w:World)(hw:Ak w):Calls Tryz.prog 69 #[S (I x),S (I y)] w (BK (D (Int.gcd x y)) w):=Adc x y hx hy w hw
def DG(x y:Int):Int:=if x<y then -1 else if x=y then 0 else 1
theorem iE{x y:Int}(h:x<y):DG x y = -1:=by unfold DG;rw [if_pos h]
theorem Wj{x y:Int}(h:y<x):DG x y=1:=by unfold DG;rw [if_neg (by omega),if_neg (by omega)]
theorem wm{x y:Int}(h:x=y):DG x y=0:=by unfold DG;rw [if_neg (by omega),if_pos h]
theorem iJ:∀(l k:Bs),Cy l→Cy k→l.length=k.length→Lib.compareBytes l k=GG (val l) (val k)
 | [],[],_,_,_=>by simp [Lib.compareBytes,GG]
 | [],_::_,_,_,h=>by simp at h
 | _::_,[],_,_,h=>by simp at h
 | a::l,b::k,ha,hb,h=>by
  rw [Sq]at ha hb;simp only [List.length_cons,Nat.add_right_cancel_iff]at h;have ih:=iJ l k ha.2 hb.2 h;have hl:=LU ha.2;have hk:=LU hb.2;rw [Ry,Ry,Lib.compareBytes,h];rw [h]at hl;have hda:=ha.1.1;have hdb:=hb.1.1;generalize 10^k.length=p at *
  rcases Nat.lt_trichotomy (dv a) (dv b)with hd|hd|hd
  ·have h1:a<b:=(by rw [UInt8.lt_iff_toNat_lt];unfold dv at hd;omega);have h2:dv a*p+p<=dv b*p:=(by rw [←Nat.succ_mul];exact Nat.mul_le_mul_right _ hd);rw [if_pos h1,hZ (by omega)]
  ·have h1:a=b:=by have:a.toNat=b.toNat:=(by unfold dv at hd;omega);exact UInt8.toNat_inj.1 this
   subst h1;rw [if_neg (by rw [UInt8.lt_iff_toNat_lt];omega),if_neg (by rw [UInt8.lt_iff_toNat_lt];omega),ih];unfold GG;simp only [Nat.add_lt_add_iff_left,Nat.add_left_cancel_iff]
  ·have h1:b<a:=(by rw [UInt8.lt_iff_toNat_lt];unfold dv at hd;omega);have h0:¬a<b:=(by rw [UInt8.lt_iff_toNat_lt]at h1 ⊢;omega);have h2:dv b*p+p<=dv a*p:=(by rw [←Nat.succ_mul];exact Nat.mul_le_mul_right _ hd);rw [if_neg h0,if_pos h1,gY (by omega)]
theorem cI{m n:Nat}(h:(D m).length<(D n).length):m<n:=by
 rcases Nat.eq_zero_or_pos n with rfl|hn
 ·have e:(D 0).length=1:=(by rw [EG (by omega)];rfl);have:=R7 m;omega
 ·have h1:=uS m;have h2:=wV n hn;have h3:10^(D m).length<=10^((D n).length-1):=Nat.pow_le_pow_right (by omega) (by omega);omega
theorem yW(z:Int):-1<=EF z/\EF z<=1:=by unfold EF;split<;>(try split)<;>omega
theorem yR{x y:Int}(h:EF x<EF y):x<y:=by
 unfold EF at h;split at h<;>split at h<;>(try split at h)<;>(try split at h)<;>omega
theorem yT(z:Int):EF z*(z.natAbs:Int)=z:=by
 unfold EF
 split
 ·omega
 ·split<;>omega
theorem AcZ(x y:Int)(hx:BJ x)(hy:BJ y)(w:World):Calls Tryz.prog 68 #[S (I x),S (I y)] w (AB (DG x y) w):=by
 have s1:=QQ x;have s2:=QQ y;have r1:=yW x;have r2:=yW y;have t1:=bE (I x) [45];have t2:=bE (I y) [45];rw [cd]at t1 t2;have c1:=wu (D x.natAbs) (D y.natAbs);have l1:=hx.len;have l2:=hy.len
 have hcl:(D x.natAbs).length=(D y.natAbs).length→Lib.compareBytes (D x.natAbs) (D y.natAbs)=GG x.natAbs y.natAbs:=fun h=>by
  have:=iJ _ _ (Ev x.natAbs) (Ev y.natAbs) h
  rwa [Ky,Ky]at this
 have k1:(D x.natAbs).length<(D y.natAbs).length→x.natAbs<y.natAbs:=cI;have k2:(D y.natAbs).length<(D x.natAbs).length→y.natAbs<x.natAbs:=cI;have a1:=yT x;have a2:=yT y;have JX:=@yR x y;have hlt2:=@yR y x;obtain⟨s,hs⟩:=AjJ (EF x);obtain⟨t,ht⟩:=AjJ (EF y);rw [←hs]at s1 r1 a1 JX hlt2;rw [←ht]at s2 r2 a2 JX hlt2;clear hs ht
 rcases Int.lt_trichotomy s t with h|h|h
 ·have HR:=AjK (iE (JX h));have hne:(s != t)=true:=(by rw [bne_iff_ne];omega);clear a1 a2 JX hlt2 t1 t2 c1 hcl k1 k2;go_enter Tryz.func68,Tryz.ntmps68;(go_wp2_with fail);(with_reducible refine(s1 _).mono ?_);rintro e w1 ⟨rfl,hx1⟩;(go_wp2_with fail);(with_reducible refine(s2 _).mono ?_);rintro e w2 ⟨rfl,hx2⟩;go_wp2;go_ret;exact⟨EE HR.out,hx1.trans hx2⟩
 ·subst h;have hne:(s != s)=false:=by simp
  have QM:(D y.natAbs).length<=4001:=by
   rcases Ds y with⟨n,rfl,e⟩|⟨n,hn,rfl,e⟩
   ·rw [e]at l2;simpa using l2
   ·rw [e,List.length_cons]at l2;rw [show (-(n:Int)).natAbs=n by omega];omega
  have Ih:(D x.natAbs).length<=4001:=by
   rcases Ds x with⟨n,rfl,e⟩|⟨n,hn,rfl,e⟩
   ·rw [e]at l1;simpa using l1
   ·rw [e,List.length_cons]at l1;rw [show (-(n:Int)).natAbs=n by omega];omega
  obtain⟨cb,hcb⟩:=AjJ (Lib.compareBytes (D x.natAbs) (D y.natAbs));rw [←hcb]at c1 hcl;have QF:s=0∨s=1∨s = -1:=by omega
  have hcm:∀{m n:Nat},x=s*m→y=s*n→s*GG m n=DG x y:=by
   intro m n e1 e2;rw [e1,e2]
   rcases QF with rfl|rfl|rfl
   ·simp [DG]
   ·unfold GG DG;simp only [Int.one_mul];split<;>split<;>(try split)<;>omega
   ·unfold GG DG;split<;>split<;>(try split)<;>(try split)<;>omega
  have HC:=AjK (@hcm x.natAbs y.natAbs a1.symm a2.symm);obtain⟨A,hA⟩:=AjJ (D x.natAbs);obtain⟨B,hB⟩:=AjJ (D y.natAbs);rw [←hA]at t1 c1 hcl k1 k2 Ih;rw [←hB]at t2 c1 hcl k1 k2 QM
  rcases Nat.lt_trichotomy A.length B.length with hl|hl|hl
  ·have hk:=k1 hl
   have HR:Hid (DG x y=IntKind.i64.wrap (-s)):=AjK (by
    rw [←HC.out,hZ hk,AjT (-s) (by omega)];omega)
   have sQ:IntKind.i64.wrap (-s) = -s:=AjT _ (by omega);have GR:((A.length:Int) != (B.length:Int))=true:=(by rw [bne_iff_ne];omega);have hR2:Hid (-s=DG x y):=AjK (by rw [HR.out,sQ]);clear a1 a2 JX hlt2 c1 hcl k1 k2 hcb hA hB HC HR QF hcm hk l1 l2;go_enter Tryz.func68,Tryz.ntmps68;(go_wp2_with fail);(with_reducible refine(s1 _).mono ?_);rintro e w1 ⟨rfl,hx1⟩;(go_wp2_with fail);(with_reducible refine(s2 _).mono ?_);rintro e w2 ⟨rfl,hx2⟩;(go_wp2_with fail);(with_reducible refine(t1 _).mono ?_);rintro e w3 ⟨rfl,hx3⟩;(go_wp2_with fail);(with_reducible refine(t2 _).mono ?_);rintro e w4 ⟨rfl,Aj⟩;go_wp2;go_ret;exact⟨EE hR2.out.symm,((hx1.trans hx2).trans hx3).trans Aj⟩
  ·have hq:=hcl hl;have hcr:-1<=cb/\cb<=1:=by rw [hq];unfold GG;split<;>(try split)<;>omega
   have hsc:-1<=s*cb/\s*cb<=1:=by rcases QF with rfl|rfl|rfl<;>omega
   have hR2:Hid (s*cb=DG x y):=AjK (by rw [hq];exact HC.out);have sQ:IntKind.i64.wrap (s*cb)=s*cb:=AjT _ (by omega);have GR:((A.length:Int) != (B.length:Int))=false:=(by rw [hl];simp);clear a1 a2 JX hlt2 hcl k1 k2 hcb hA hB HC QF hcm hq l1 l2 hsc;have HL:=AjK hl;clear hl;go_enter Tryz.func68,Tryz.ntmps68;(go_wp2_with fail);(with_reducible refine(s1 _).mono ?_);rintro e w1 ⟨rfl,hx1⟩;(go_wp2_with fail);(with_reducible refine(s2 _).mono ?_);rintro e w2 ⟨rfl,hx2⟩;(go_wp2_with fail);(with_reducible refine(t1 _).mono ?_);rintro e w3 ⟨rfl,hx3⟩;(go_wp2_with fail);(with_reducible refine(t2 _).mono ?_);rintro e w4 ⟨rfl,Aj⟩;(go_wp2_with fail);(with_reducible refine(c1 _).mono ?_);rintro e w5 ⟨rfl,An⟩;go_wp2;go_ret;exact⟨EE hR2.out.symm,(((hx1.trans hx2).trans hx3).trans Aj).trans An⟩
  ·have hk:=k2 hl;have hR2:Hid (s=DG x y):=AjK (by rw [←HC.out,gY hk];omega);have GR:((A.length:Int) != (B.length:Int))=true:=(by rw [bne_iff_ne];omega);have hnl:¬A.length<B.length:=(by omega);clear a1 a2 JX hlt2 c1 hcl k1 k2 hcb hA hB HC QF hcm hk l1 l2;go_enter Tryz.func68,Tryz.ntmps68;(go_wp2_with fail);(with_reducible refine(s1 _).mono ?_);rintro e w1 ⟨rfl,hx1⟩;(go_wp2_with fail);(with_reducible refine(s2 _).mono ?_);rintro e w2 ⟨rfl,hx2⟩;(go_wp2_with fail);(with_reducible refine(t1 _).mono ?_);rintro e w3 ⟨rfl,hx3⟩;(go_wp2_with fail);(with_reducible refine(t2 _).mono ?_);rintro e w4 ⟨rfl,Aj⟩;go_wp2;go_ret;exact⟨EE hR2.out.symm,((hx1.trans hx2).trans hx3).trans Aj⟩
 ·have HR:=AjK (Wj (hlt2 h));have hne:(s != t)=true:=(by rw [bne_iff_ne];omega);have hnl:¬s<t:=(by omega);clear a1 a2 JX hlt2 t1 t2 c1 hcl k1 k2;go_enter Tryz.func68,Tryz.ntmps68;(go_wp2_with fail);(with_reducible refine(s1 _).mono ?_);rintro e w1 ⟨rfl,hx1⟩;(go_wp2_with fail);(with_reducible refine(s2 _).mono ?_);rintro e w2 ⟨rfl,hx2⟩;go_wp2;go_ret;exact⟨EE HR.out,hx1.trans hx2⟩
/-! ### Check -/
theorem rk(s:ByteArray):∀(k i:Nat) (r:List UInt8),s.size-i=k→r.length<=(ByteArray.toList.loop s i r).length:=by
 intro k
 induction k with
 | zero=>intro i r h;unfold ByteArray.toList.loop;rw [if_neg (by omega)];simp
 | succ k ih=>
  intro i r h;unfold ByteArray.toList.loop
  split
  ·have:=ih (i+1) (s.get! i::r) (by omega);simp only [List.length_cons]at this;omega
  ·simp
theorem VU{s:ByteArray}(h:0<s.size):¬s.toList = []:=by
 intro e;unfold ByteArray.toList ByteArray.toList.loop at e;rw [if_pos h]at e;have:=rk s _ 1 [s.get! 0] rfl;rw [show 0+1=1 from rfl]at e;rw [e]at this;simp at this
open Classical in
theorem vu(t:Bs)(mn:Bool):¬Vk t mn↔t = []∨200<t.length∨(∃m,t=48::m/\(m≠[]∨mn=true))∨∃j,∃h:j<t.length,¬EH t[j]:=by
 constructor
 ·intro h;by_cases h1:t = []
  ·exact .inl h1
  ·by_cases h2:200<t.length
   ·exact .inr (.inl h2)
   ·by_cases h3:∃m,t=48::m/\(m≠[]∨mn=true)
    ·exact .inr (.inr (.inl h3))
    ·refine .inr (.inr (.inr (Classical.byContradiction fun h4=>h ⟨h1,by omega,fun m e=>?_,fun c hc=>?_⟩)))
     ·constructor
      ·exact Classical.byContradiction fun h5=>h3 ⟨m,e,.inl h5⟩
      ·cases mn
       ·rfl
       ·exact absurd ⟨m,e,.inr rfl⟩ h3
     ·obtain⟨j,hj,e⟩:=List.mem_iff_getElem.1 hc;exact Classical.byContradiction fun h5=>h4 ⟨j,hj,by rw [e];exact h5⟩
 ·rintro(h|h|⟨m,e,h⟩|⟨j,hj,h⟩) hc
  ·exact hc.ne h
  ·have:=hc.len;omega
  ·have:=hc.zero m e
   rcases h with h|h
   ·exact h this.1
   ·rw [this.2]at h;cases h
  ·exact h (hc.all _ (AjO hj))
def EM(b:Bool):Int:=if b then 0 else 2
theorem Gg:EM true=0:=rfl
theorem N2:EM false=2:=rfl
theorem vd(l:Bs)(ht:Lib.trimPrefix l [45] = [])(w:World):Calls Tryz.prog 67 #[S l] w (AB 2 w):=by
 have hc:=S8 l [45];rw [ht]at hc;go_enter Tryz.func67,Tryz.ntmps67;(go_wp2_with fail);(with_reducible refine(hc _).mono ?_);rintro e w1 ⟨rfl,hx1⟩;go_wp2;go_ret;exact⟨rfl,hx1⟩
theorem ve(l t:Bs)(ht:Lib.trimPrefix l [45]=t)(h2:200<t.length)(w:World):Calls Tryz.prog 67 #[S l] w (AB 2 w):=by
 have hc:=S8 l [45];rw [ht]at hc;have hne:(t == [])=false:=(by rw [beq_eq_false_iff_ne];rintro rfl;simp at h2);have kB:(200:Int)<(t.length:Int):=(by omega);clear ht;go_enter Tryz.func67,Tryz.ntmps67;(go_wp2_with fail);(with_reducible refine(hc _).mono ?_);rintro e w1 ⟨rfl,hx1⟩;go_wp2;go_ret;exact⟨rfl,hx1⟩
theorem gQ(l m:Bs)(mn:Bool)(ht:Lib.trimPrefix l [45]=48::m)(hmn:[45].isPrefixOf l=mn)(h2:(48::m).length<=200)(h3:m≠[]∨mn=true)(w:World):Calls Tryz.prog 67 #[S l] w (AB 2 w):=by
 have hc:=S8 l [45];rw [ht,hmn]at hc;obtain⟨s,hs⟩:=AjJ (⟨(48::m).toArray⟩:ByteArray);have hsz:s.size=m.length+1:=(by rw [hs,EL];rfl);obtain⟨c,TL⟩:=AjJ (48:UInt8);have hs0:0<s.size:=(by omega);have e0:s[0]=c:=(by rw [TL];subst hs;rw [P5];rfl);have hce:((c.toNat:Int) == 48)=true:=(by rw [TL];rfl);have hsm:(s.size:Int)<=200:=(by simp only [List.length_cons]at h2;omega);have Ajf:¬(200:Int)<(s.size:Int):=(by omega);have hc:∀w,Calls Tryz.prog 116 #[S l,S [45]] w (Cp (.tuple #[.string s,.bool mn]) w):=(by rw [hs];exact hc);have hne:=VU hs0
 rcases h3 with h3|h3
 ·have h1:(1:Int)<(s.size:Int):=(by have:=List.length_pos_iff.2 h3;omega);clear ht hmn hs hsz TL h3;go_enter Tryz.func67,Tryz.ntmps67;(go_wp2_with fail);(with_reducible refine(hc _).mono ?_);rintro e w1 ⟨rfl,hx1⟩;go_wp2;go_ret;exact⟨rfl,hx1⟩
 ·subst h3;clear ht hmn hs TL
  rcases Nat.lt_or_ge 1 s.size with h1|h1
  all_goals
   go_enter Tryz.func67,Tryz.ntmps67;(go_wp2_with fail);(with_reducible refine(hc _).mono ?_);rintro e w1 ⟨rfl,hx1⟩;go_wp2;go_ret;exact⟨rfl,hx1⟩
theorem vg(l t:Bs)(mn:Bool)(s:ByteArray)(hc:∀w,Calls Tryz.prog 116 #[S l,S [45]] w (Cp (.tuple #[.string s,.bool mn]) w))(Pi:Hid (s.size=t.length))(hs0:0<s.size)(hsm:(s.size:Int)<=200)
  (HG:Hid (∀(j:Nat) (h:j<s.size) (h':j<t.length),s[j]=t[j])) (c:UInt8) (e0:s[0]=c) (b:Bool) (HB:Hid (b=true↔Cy t)) (hf:((c.toNat:Int) == 48)=false) (w:World):Calls Tryz.prog 67 #[S l] w (AB (EM b) w):=by
 have hne:=VU hs0
 have GR:s.toList.isEmpty=false:=by cases h:s.toList with|nil=>exact absurd h hne|cons _ _=>rfl
 have XW:decide ((200:Int)<(s.size:Int))=false:=(by rw [decide_eq_false_iff_not];omega);go_enter Tryz.func67,Tryz.ntmps67;(go_wp2_with fail);(with_reducible refine(hc _).mono ?_);rintro e w1 ⟨rfl,hx1⟩;go_wp2;clear hc hne GR XW hf e0
 go_loop [33] (fun i=>∃j:Nat,j<=s.size/\i=.int .i64 (j:Nat)/\Cy (t.take j)) (fun i=>s.size-(intOf i).toNat)
 case atStart=>exact⟨0,by omega,rfl,by simp [eV]⟩
 case round=>
  obtain⟨j,hj,rfl,hall⟩:=hrel;by_cases hlt:j<s.size
  ·have ME:j<t.length:=(by rw [←Pi.out];exact hlt);obtain⟨d,hd⟩:∃d,s[j]=d:=⟨_,rfl⟩;have JQ:t[j]=d:=(by rw [←hd,HG.out j hlt ME]);have HD:=AjK JQ;clear JQ;by_cases Hz:EH d
   ·have d1:=Hz.1;have d2:=Hz.2;have c1:¬(d.toNat:Int)<48:=(by omega);have c2:¬(57:Int)<(d.toNat:Int):=(by omega);clear d1 d2;go_wp2
    go_round
    case rel=>exact⟨j+1,by omega,by go_num,by rw [AjQ ME,HD.out];exact Sp.2 ⟨hall,by intro x hx;simp only [AjZ]at hx;rw [hx];exact Hz⟩⟩
    case measure=>simp [intOf];omega
   ·have Gk:b=false:=by
     cases b
     ·rfl
     ·exact absurd (HB.out.1 rfl _ (AjO ME)) (by rw [HD.out];exact Hz)
    subst Gk;rw [N2];by_cases c1:(d.toNat:Int)<48
    ·go_wp2;go_ret;exact⟨rfl,hx1⟩
    ·have c2:(57:Int)<(d.toNat:Int):=by refine Classical.byContradiction fun h=>Hz ⟨by omega,by omega⟩
     go_wp2;go_ret;exact⟨rfl,hx1⟩
  ·have JO:b=true:=HB.out.2 (by rw [AjV (by rw [←Pi.out];omega)]at hall;exact hall);subst JO;rw [Gg];have hle:(s.size:Int)<=(j:Int):=(by omega);go_wp2;go_ret;exact⟨rfl,hx1⟩
theorem vh(l t:Bs)(mn:Bool)(s:ByteArray)(hc:∀w,Calls Tryz.prog 116 #[S l,S [45]] w (Cp (.tuple #[.string s,.bool mn]) w))(Pi:Hid (s.size=t.length))(hs0:0<s.size)(hsm:(s.size:Int)<=200)
  (HG:Hid (∀(j:Nat) (h:j<s.size) (h':j<t.length),s[j]=t[j])) (c:UInt8) (e0:s[0]=c) (b:Bool) (HB:Hid (b=true↔Cy t)) (hf:((c.toNat:Int) == 48)=true) (hs1:s.size=1) (hmn:mn=false) (w:World):Calls Tryz.prog 67 #[S l] w (AB (EM b) w):=by
 have hne:=VU hs0
 have GR:s.toList.isEmpty=false:=by cases h:s.toList with|nil=>exact absurd h hne|cons _ _=>rfl
 have XW:decide ((200:Int)<(s.size:Int))=false:=(by rw [decide_eq_false_iff_not];omega);have h1:decide ((1:Int)<(s.size:Int))=false:=(by rw [decide_eq_false_iff_not];omega);subst hmn;clear hs1;go_enter Tryz.func67,Tryz.ntmps67;(go_wp2_with fail);(with_reducible refine(hc _).mono ?_);rintro e w1 ⟨rfl,hx1⟩;go_wp2;clear hc hne GR XW hf e0
 go_loop [33] (fun i=>∃j:Nat,j<=s.size/\i=.int .i64 (j:Nat)/\Cy (t.take j)) (fun i=>s.size-(intOf i).toNat)
 case atStart=>exact⟨0,by omega,rfl,by simp [eV]⟩
 case round=>
  obtain⟨j,hj,rfl,hall⟩:=hrel;by_cases hlt:j<s.size
  ·have ME:j<t.length:=(by rw [←Pi.out];exact hlt);obtain⟨d,hd⟩:∃d,s[j]=d:=⟨_,rfl⟩;have JQ:t[j]=d:=(by rw [←hd,HG.out j hlt ME]);have HD:=AjK JQ;clear JQ;by_cases Hz:EH d
   ·have d1:=Hz.1;have d2:=Hz.2;have c1:¬(d.toNat:Int)<48:=(by omega);have c2:¬(57:Int)<(d.toNat:Int):=(by omega);clear d1 d2;go_wp2
    go_round
    case rel=>exact⟨j+1,by omega,by go_num,by rw [AjQ ME,HD.out];exact Sp.2 ⟨hall,by intro x hx;simp only [AjZ]at hx;rw [hx];exact Hz⟩⟩
    case measure=>simp [intOf];omega
   ·have Gk:b=false:=by
     cases b
     ·rfl
     ·exact absurd (HB.out.1 rfl _ (AjO ME)) (by rw [HD.out];exact Hz)
    subst Gk;rw [N2];by_cases c1:(d.toNat:Int)<48
    ·go_wp2;go_ret;exact⟨rfl,hx1⟩
    ·have c2:(57:Int)<(d.toNat:Int):=by refine Classical.byContradiction fun h=>Hz ⟨by omega,by omega⟩
     go_wp2;go_ret;exact⟨rfl,hx1⟩
  ·have JO:b=true:=HB.out.2 (by rw [AjV (by rw [←Pi.out];omega)]at hall;exact hall);subst JO;rw [Gg];have hle:(s.size:Int)<=(j:Int):=(by omega);go_wp2;go_ret;exact⟨rfl,hx1⟩
theorem gP(l t:Bs)(mn:Bool)(ht:Lib.trimPrefix l [45]=t)(hmn:[45].isPrefixOf l=mn)(h0:t≠[])(h2:t.length<=200)(h3:∀m,t=48::m→m = []/\mn=false)
  (b:Bool) (hb:b=true↔Cy t) (w:World):Calls Tryz.prog 67 #[S l] w (AB (EM b) w):=by
 have hc0:=S8 l [45];rw [ht,hmn]at hc0;obtain⟨s,hs⟩:=AjJ (⟨t.toArray⟩:ByteArray);have hsz:s.size=t.length:=(by rw [hs,EL]);have hs0:0<s.size:=by have:=List.length_pos_iff.2 h0;omega
 have DR:∀(j:Nat) (h:j<s.size) (h':j<t.length),s[j]=t[j]:=by intro j h h';subst hs;rw [P5];simp [List.getD,h']
 have hsm:(s.size:Int)<=200:=(by omega);have hc:∀w,Calls Tryz.prog 116 #[S l,S [45]] w (Cp (.tuple #[.string s,.bool mn]) w):=(by rw [hs];exact hc0);clear hc0;by_cases h:s[0]=48
 ·match t,h0,DR,h3,hsz,hb with
  | d::m,_,DR,h3,hsz,hb=>have:=DR 0 hs0 (by simp);rw [h]at this;simp only [List.getElem_cons_zero]at this;obtain⟨hm,hf⟩:=h3 m (by rw [this]);exact vh l _ mn s hc (AjK hsz) hs0 hsm (AjK DR) _ rfl b (AjK hb) (by rw [h];rfl) (by rw [hsz,hm];rfl) hf w
 ·refine vg l _ mn s hc (AjK hsz) hs0 hsm (AjK DR) _ rfl b (AjK hb) ?_ w;rw [beq_eq_false_iff_ne];intro e;exact h (UInt8.toNat_inj.1 (by simp;omega))
open Classical in
theorem QP(l:Bs)(w:World):Calls Tryz.prog 67 #[S l] w (AB (if Jy l then 0 else 2) w):=by
 by_cases h:Vk (Lib.trimPrefix l [45]) ([45].isPrefixOf l)
 ·rw [if_pos ((gV l).2 h)];exact gP l _ _ rfl rfl h.ne h.len h.zero true ⟨fun _=>h.all,fun _=>rfl⟩ w
 ·rw [if_neg (fun k=>h ((gV l).1 k))];by_cases h1:Lib.trimPrefix l [45] = []
  ·exact vd l h1 w
  ·by_cases h2:200<(Lib.trimPrefix l [45]).length
   ·exact ve l _ rfl h2 w
   ·rcases(vu _ _).1 h with h3|h3|⟨m,e,h3⟩|⟨j,hj,h3⟩
    ·exact absurd h3 h1
    ·exact absurd h3 h2
    ·exact gQ l m _ e rfl (by rw [←e];omega) h3 w
    ·by_cases h4:∀m,Lib.trimPrefix l [45]=48::m→m = []/\[45].isPrefixOf l=false
     ·exact gP l _ _ rfl rfl h1 (by omega) h4 false (Iff.intro (fun k=>by cases k) (fun k=>absurd (k _ (AjO hj)) h3)) w
     ·obtain⟨m,e⟩:∃m,Lib.trimPrefix l [45]=48::m/\(m≠[]∨[45].isPrefixOf l=true):=by
       refine Classical.byContradiction fun k=>h4 fun m e=>?_;constructor
       ·exact Classical.byContradiction fun q=>k ⟨m,e,.inl q⟩
       ·rcases hq:[45].isPrefixOf l with _|_
        ·rfl
        ·exact absurd ⟨m,e,.inr hq⟩ k
      exact gQ l m _ e.1 rfl (by rw [←e.1];omega) e.2 w
theorem xO(n:Int)(d:Nat)(hd:0<d)(MH:-9000000000000000000<=n)(CW:n<=9000000000000000000)(Ql:d<=9000000000000000000)(w:World)(hw:Ak w) :
  Calls Tryz.prog 60 #[.int .i64 n,.int .i64 (d:Nat)] w (BK (R (mkRat n d)) w):=by
 obtain⟨g,hg⟩:=AjJ (Nat.gcd n.natAbs d);have hg0:0<g:=(by rw [hg];exact Nat.gcd_pos_of_pos_right _ hd);obtain⟨n',hn'⟩:=AjJ (n/(g:Nat):Int);obtain⟨d',Gl⟩:=AjJ (d/g:Nat);have hR:R (mkRat n d)=Ff n' d':=(by rw [m6 n hd,←hg,←hn',←Gl]);have hgn:((g:Nat):Int)∣n:=Int.natAbs_dvd_natAbs.1 (by rw [AjP,hg];exact Nat.gcd_dvd_left ..);have e1:n.tdiv (g:Int)=n':=(by rw [hn',Int.tdiv_eq_ediv_of_dvd hgn]);have e2:(d:Int)/(g:Int)=(d':Int):=(by rw [Gl];simp);have b1:n'.natAbs<=n.natAbs:=(by rw [hn'];exact uZ _ _ hgn);have b2:d'<=d:=(by rw [Gl];exact Nat.div_le_self _ _);have hgd:g<=d:=(by rw [hg];exact Nat.gcd_le_right _ hd);have ln:(I n').length<=20:=RZ (z:=n') (k:=19) (by omega) (by omega);have ld:(D d').length<=19:=Hk (by omega) (by omega);have HR:=AjK hR;have HG:=AjK hg;have H1:=AjK e1;have H2:=AjK e2;have i1:=fun W hW=>Zs n' (by omega) (by omega) W hW;have i2:=fun W hW=>Zs (d':Int) (by omega) (by omega) W hW;clear hR hg e1 e2 hn' Gl hgn;go_enter Tryz.func60,Tryz.ntmps60;go_wp2
 go_loopw [5,6] (fun x y wr=>∃a b:Int,x=.int .i64 a/\y=.int .i64 b/\Int.gcd a b=g/\a.natAbs<=9000000000000000000/\b.natAbs<=9000000000000000000/\Aa w wr) (fun _ y _=>(intOf y).natAbs)
 case atStart=>exact⟨n,d,rfl,rfl,by rw [HG.out];rfl,by omega,by omega,Aa.refl _⟩
 case round=>
  obtain⟨a,b,rfl,rfl,JR,ha,hb,Ae⟩:=hrel;by_cases hb0:b=0
  ·subst hb0;have Ob:a.natAbs=g:=(by rw [←JR];simp);by_cases MI:a<0
   case' pos=>obtain rfl:a = -(g:Int):=by omega
   case' neg=>obtain rfl:a=(g:Int):=by omega
   all_goals
    clear Ob JR;have e1:=H1.out;have e2:=H2.out;have Yj:(0:Int)<(g:Int):=(by omega);have Yk:((g:Int) == 0)=false:=(by rw [beq_eq_false_iff_ne];omega);by_cases GQ:d'=1
    ·subst GQ;have HF:Hid (R (mkRat n d)=I n'):=AjK (by rw [HR.out];rfl);(go_wp2_with fail)
     go_quiet (fail)
     (go_wp2_with fail);(with_reducible refine(i1 _ (hw.ext (Ae.drewN _))).mono ?_);rintro e w3 ⟨rfl,hx3⟩;go_wp2;go_ret;exact⟨Hd (by rw [HF.out]),(Ae.drewN _).trans hx3⟩
    ·have HF:Hid (R (mkRat n d)=I n'++47::D d'):=AjK (by rw [HR.out];exact if_neg GQ);have hdb:((d':Int) == 1)=false:=(by rw [beq_eq_false_iff_ne];omega);rw [EX]at i2;clear GQ;(go_wp2_with fail)
     go_quiet (fail)
     (go_wp2_with fail);(with_reducible refine(i1 _ (hw.ext (Ae.drewN _))).mono ?_);rintro e w3 ⟨rfl,hx3⟩;have hx3:=(Ae.drewN _).trans hx3;(go_wp2_with fail);(with_reducible refine(i2 _ (hw.ext hx3)).mono ?_);rintro e w4 ⟨rfl,Aj⟩;go_wp2;go_ret;exact⟨Hd (by rw [HF.out];apply ByteArray.ext;simp),hx3.trans Aj⟩
  ·have hlt:=vB a hb0;have Ol:(a.tmod b).natAbs<=9000000000000000000:=AjX (Nat.le_of_lt hlt) hb;have Oh:=jW a b;have M5:(b != 0)=true:=(by rw [bne_iff_ne];exact hb0);have Di:(b == 0)=false:=(by rw [beq_eq_false_iff_ne];exact hb0);have Vx:=AjK (Oh.trans JR);clear Oh JR;(go_wp2_with fail)
   go_quiet (fail)
   go_wp2;go_roundw
   case rel=>exact⟨b,a.tmod b,rfl,rfl,Vx.out,hb,Ol,Ae.drewN _⟩
   case measure=>exact hlt
theorem fW(l:Bs)(j:Nat)(h:j<(⟨l.toArray⟩:ByteArray).size):(⟨l.toArray⟩:ByteArray)[j]=l[j]'(by rw [EL]at h;exact h):=by
 rw [ByteArray.getElem_eq_getElem_data];simp
attribute [local go_sem] fW
def AV(q:Rat):Int:=if q=0 then 0 else if q<0 then -1 else 1
theorem Ag6{q:Rat}(h:q<0):AV q = -1:=by unfold AV;rw [if_neg (by rintro rfl;exact Rat.lt_irrefl h),if_pos h]
theorem Ag9{q:Rat}(h:0<q):AV q=1:=by
 unfold AV;rw [if_neg (by rintro rfl;exact Rat.lt_irrefl h),if_neg (by grind)]
theorem G5{q:Rat}(h:q≠0):(R q == [48])=false:=by rw [beq_eq_false_iff_ne];exact fun e=>h (mr.1 e)
theorem VJ{q:Rat}(h:q≠1):(R q == [49])=false:=by rw [beq_eq_false_iff_ne];exact fun e=>h (mq.1 e)
theorem KF{k:Nat}{q:Rat}(hk:0<k)(h:Sz k q):(R q).length<=2*k+2:=by
 have h1:=RZ hk h.num;have h2:=Hk hk h.den;rw [KE];unfold Ff
 split
 ·omega
 ·rw [List.length_append,List.length_cons];omega
theorem aE(q:Rat)(w:World):Calls Tryz.prog 206 #[S (R q)] w (AB (AV q) w):=by
 by_cases h0:q=0
 ·subst h0;rw [Fa];go_enter Tryz.func206,Tryz.ntmps206;go_wp2;go_ret;exact⟨rfl,Aa.refl _⟩
 ·have h1:=G5 h0
  rcases VI q with⟨hn,e⟩|⟨hp,c,l,e,hd,hc⟩
  ·have HS:=AjK (Ag6 hn);obtain⟨c,hc⟩:=AjJ (45:UInt8);have hl:0<(R q).length:=(by rw [e];simp);have hg:(R q)[0]'hl=c:=(by rw [List.getElem_of_eq e hl,hc];rfl);have hcb:((c.toNat:Int) == 45)=true:=(by rw [hc];rfl);clear e hc hn;go_enter Tryz.func206,Tryz.ntmps206;go_wp2;go_ret;exact⟨EE HS.out,Aa.refl _⟩
  ·have HS:=AjK (Ag9 (q:=q) (by grind));have hl:0<(R q).length:=(by rw [e];simp);have hg:(R q)[0]'hl=c:=(by rw [List.getElem_of_eq e hl];rfl);have hcb:((c.toNat:Int) == 45)=false:=(by rw [beq_eq_false_iff_ne];intro k;exact hc (UInt8.toNat_inj.1 (by simp;omega)));clear e hc hp hd;go_enter Tryz.func206,Tryz.ntmps206;go_wp2;go_ret;exact⟨EE HS.out,Aa.refl _⟩
theorem xM(q:Rat){k:Nat}(hk:0<k)(hk2:k<=100000)(hz:Sz k q)(w:World):Calls Tryz.prog 34 #[S (R q)] w (BK (R (-q)) w):=by
 have hlen:=KF hk hz;by_cases h0:q=0
 ·subst h0;rw [Rat.neg_zero,Fa];go_enter Tryz.func34,Tryz.ntmps34;go_wp2;go_ret;exact⟨rfl,Aa.refl _⟩
 ·have h1:=G5 h0
  rcases VI q with⟨hn,e⟩|⟨hp,c,l,e,hd,hc⟩
  ·obtain⟨c,hc⟩:=AjJ (45:UInt8);have hl:0<(R q).length:=(by rw [e];simp);have hg:(R q)[0]'hl=c:=(by rw [List.getElem_of_eq e hl,hc];rfl);have hcb:((c.toNat:Int) == 45)=true:=(by rw [hc];rfl);have HD:Hid ((R q).drop 1=R (-q)):=AjK (by rw [e];rfl);have GQ:(1:Int)<=((R q).length:Int):=(by omega);clear e hc hn;go_enter Tryz.func34,Tryz.ntmps34;go_wp2;go_ret;exact⟨Hd (by rw [←HD.out];first|exact Aao _ _|(rw [SI];simp)),Aa.refl _⟩
  ·have HD:Hid (R (-q)=45::R q):=AjK (by
    have:=eJ (q:=-q) (by grind)
    rw [this,Rat.neg_neg])
   have hl:0<(R q).length:=(by rw [e];simp);have hg:(R q)[0]'hl=c:=(by rw [List.getElem_of_eq e hl];rfl);have hcb:((c.toNat:Int) == 45)=false:=(by rw [beq_eq_false_iff_ne];intro k;exact hc (UInt8.toNat_inj.1 (by simp;omega)));clear e hc hp hd;go_enter Tryz.func34,Tryz.ntmps34;go_wp2;go_ret;exact⟨Hd (by rw [HD.out];apply ByteArray.ext;simp),Aa.refl _⟩
theorem AfN(n:Int)(d:Nat)(hn:BJ n)(hd:d<Big)(w:World):Calls Tryz.prog 106 #[S (I n),S (D d)] w (BK (Ff n d) w):=by
 have ln:=hn.len;have ld:(D d).length<=4000:=Hk (k:=VW) (by decide) hd;by_cases h:d=1
 ·subst h;have HF:Hid (Ff n 1=I n):=AjK (if_pos rfl);rw [R9];go_enter Tryz.func106,Tryz.ntmps106;go_wp2;go_ret;exact⟨Hd (by rw [HF.out]),Aa.refl _⟩
 ·have HF:Hid (Ff n d=I n++47::D d):=AjK (if_neg h);have hb:(D d == [49])=false:=(by rw [beq_eq_false_iff_ne,←R9];exact fun e=>h (R2 e));clear h;go_enter Tryz.func106,Tryz.ntmps106;go_wp2;go_ret;exact⟨Hd (by rw [HF.out];apply ByteArray.ext;simp),Aa.refl _⟩
def O5(q:Rat):Value:=.tuple #[S (I q.num),S (D q.den)]
theorem xN(q:Rat){k:Nat}(hk:0<k)(hk2:k<=100000)(hz:Sz k q)(w:World)(hw:Ak w):Calls Tryz.prog 61 #[S (R q)] w (Cp (O5 q) w):=by
 have hlen:=KF hk hz;have hc:=cut_c (R q) [47] w hw (by omega);rw [Sc]at hc;by_cases h:q.den=1
 ·rw [if_pos h]at hc;have HP:Hid (O5 q=.tuple #[S (I q.num),S [49]]):=AjK (by unfold O5;rw [h,R9]);clear h;go_enter Tryz.func61,Tryz.ntmps61;(go_wp2_with fail);(with_reducible refine hc.mono ?_);rintro e w1 ⟨rfl,hx1⟩;go_wp2;go_ret2;exact⟨He HP.out,hx1⟩
 ·rw [if_neg h]at hc;have HP:Hid (O5 q=.tuple #[S (I q.num),S (D q.den)]):=AjK rfl;clear h;go_enter Tryz.func61,Tryz.ntmps61;(go_wp2_with fail);(with_reducible refine hc.mono ?_);rintro e w1 ⟨rfl,hx1⟩;go_wp2;go_ret2;exact⟨He HP.out,hx1⟩
end Go.Proofs.YtnfedbopbcegjaaGreatDoor
namespace Go.Proofs.YtnfedbopbcegjaaGreatDoor
open Go.RowKit Kl
theorem xK(n m:Int)(hm:0<m)(hn:BJ n)(hd:BJ m)(w:World):Calls Tryz.prog 106 #[S (I n),S (I m)] w (BK (Ff n m.toNat) w):=by
 obtain⟨d,rfl⟩:=Int.eq_ofNat_of_zero_le (Int.le_of_lt hm);rw [EX];exact AfN n d hn hd w
theorem Ada(x y:Int)(hx:(I x).length<=18)(hy:(I y).length<=18)(w:World)(hw:Ak w):Calls Tryz.prog 69 #[S (I x),S (I y)] w (BK (I (Int.gcd x y:Nat)) w):=by
 rw [EX];exact Adb x y hx hy w hw
theorem BJ.of{z:Int}{k:Nat}(h:z.natAbs<10^k)(hk:k<=4000):BJ z:=AjW h (Nat.pow_le_pow_right (by omega) hk)
theorem AfR(q:Rat){k:Nat}(hk:0<k)(hk2:k<=100000)(hz:Sz k q)(w:World)(hw:Ak w):Calls Tryz.prog 61 #[S (R q)] w (Cp (.tuple #[S (I q.num),S (I (q.den:Int))]) w):=by
 have h:=xN q hk hk2 hz w hw;unfold O5 at h;rw [EX];exact h
structure Rm(a b:Nat)(p q:Rat):Prop where
 p:Sz a p
 q:Sz b q
 a0:0<a
 b0:0<b
 le:a<=9/\b<=9
section
variable {a b : Nat} {p q : Rat}
theorem Rm.lp(h:Rm a b p q):(R p).length<=100000:=by have:=KF h.a0 h.p;have:=h.le;omega
theorem Rm.lq(h:Rm a b p q):(R q).length<=100000:=by have:=KF h.b0 h.q;have:=h.le;omega
theorem Rm.bn(h:Rm a b p q):BJ p.num:=BJ.of h.p.num (by have:=h.le;omega)
theorem Rm.bm(h:Rm a b p q):BJ q.num:=BJ.of h.q.num (by have:=h.le;omega)
theorem Rm.be(h:Rm a b p q):BJ (q.den:Int):=BJ.of (k:=b) (by rw [AjP];exact h.q.den) (by have:=h.le;omega)
theorem Rm.ne'(h:Rm a b p q):(p.num*(q.den:Int)).natAbs<10^(a+b):=by rw [Int.natAbs_mul,AjP];exact LG h.p.num h.q.den
theorem Rm.md'(h:Rm a b p q):(q.num*(p.den:Int)).natAbs<10^(a+b):=by rw [Int.natAbs_mul,AjP,Nat.add_comm];exact LG h.q.num h.p.den
theorem Rm.ne(h:Rm a b p q):BJ (p.num*(q.den:Int)):=BJ.of h.ne' (by have:=h.le;omega)
theorem Rm.md(h:Rm a b p q):BJ (q.num*(p.den:Int)):=BJ.of h.md' (by have:=h.le;omega)
theorem Rm.nm(h:Rm a b p q):BJ (p.num*q.num):=BJ.of (k:=a+b) (by rw [Int.natAbs_mul];exact LG h.p.num h.q.num) (by have:=h.le;omega)
end
def Fy(q:Rat):Prop:=(D q.num.natAbs).length<=9/\(D q.den).length<=9
theorem zZ{k:Nat}{q:Rat}(h:Sz k q)(hk:k<=9):Fy q:=⟨Hk (by omega) (h.mono hk).num,Hk (by omega) (h.mono hk).den⟩
theorem Rm.s1{a b:Nat}{p q:Rat}(h:Rm a b p q):Fy p:=zZ h.p h.le.1
theorem Rm.s2{a b:Nat}{p q:Rat}(h:Rm a b p q):Fy q:=zZ h.q h.le.2
theorem O9{q:Rat}(h:Fy q):Rk q=.tuple #[.int .i64 q.num,.int .i64 q.den,.bool true]:=if_pos h
theorem Fy.num{q:Rat}(h:Fy q):q.num.natAbs<1000000000:=MS (k:=9) h.1
theorem Fy.den{q:Rat}(h:Fy q):q.den<1000000000:=MS (k:=9) h.2
theorem OB(q:Rat)(hl:(R q).length<=100000)(w:World):Calls Tryz.prog 59 #[S (R q)] w (fun e w'=>e=.returned (Rk q)/\w=w'):=AfS q hl w
theorem P3{x y:Int}(hx:x.natAbs<1000000000)(hy:y.natAbs<1000000000):(x*y).natAbs<=999999998000000001:=by
 rw [Int.natAbs_mul];exact uW hx hy
theorem AfG(p q:Rat){a b:Nat}(hr:Rm a b p q)(CM:p≠0)(Ct:q≠0)(h1:Fy p)(h2:Fy q)(w:World)(hw:Ak w):Calls Tryz.prog 35 #[S (R p),S (R q)] w (BK (R (p+q)) w):=by
 have q1:=OB p hr.lp;have q2:=OB q hr.lq;rw [O9 h1]at q1;rw [O9 h2]at q2;have n1:=G5 CM;have n2:=G5 Ct;clear CM Ct;have w1:=Nh (x:=p.num) (y:=(q.den:Int)) h1.num (by rw [AjP];exact h2.den);have w2:=Nh (x:=q.num) (y:=(p.den:Int)) h2.num (by rw [AjP];exact h1.den);have w3:=Nh (x:=(p.den:Int)) (y:=(q.den:Int)) (by rw [AjP];exact h1.den) (by rw [AjP];exact h2.den);have b1:=P3 (x:=p.num) (y:=(q.den:Int)) h1.num (by rw [AjP];exact h2.den);have b2:=P3 (x:=q.num) (y:=(p.den:Int)) h2.num (by rw [AjP];exact h1.den);have b3:=P3 (x:=(p.den:Int)) (y:=(q.den:Int)) (by rw [AjP];exact h1.den) (by rw [AjP];exact h2.den);have w4:IntKind.i64.wrap (p.num*(q.den:Int)+q.num*(p.den:Int))=p.num*(q.den:Int)+q.num*(p.den:Int):=AjT _ (by omega);have sm:=xO (p.num*(q.den:Int)+q.num*(p.den:Int)) (p.den*q.den) (Nat.mul_pos p.den_pos q.den_pos) (by omega) (by omega) (by rw [←Int.natCast_mul,AjP]at b3;omega);rw [Int.natCast_mul,←Rat.add_def']at sm;clear b1 b2 b3;have hx:=Aa.refl w;clear h1 h2 hr;go_enter Tryz.func35,Tryz.ntmps35;(go_wp2_with fail);(with_reducible refine(q1 _).mono ?_);rintro e w1 ⟨rfl,rfl⟩;(go_wp2_with fail);(with_reducible refine(q2 _).mono ?_);rintro e w2 ⟨rfl,rfl⟩;(go_wp2_with fail);(with_reducible refine(sm _ hw).mono ?_);rintro e w3 ⟨rfl,hx3⟩;go_wp2;go_ret;exact⟨rfl,hx3⟩
theorem LP(p q:Rat){a b:Nat}(hr:Rm a b p q)(w:World)(hw:Ak w):Calls Tryz.prog 35 #[S (R p),S (R q)] w (BK (R (p+q)) w):=by
 by_cases CM:p=0
 ·subst CM;rw [Rat.zero_add,Fa];clear hr;go_enter Tryz.func35,Tryz.ntmps35;go_wp2;go_ret;exact⟨rfl,Aa.refl _⟩
 ·by_cases Ct:q=0
  ·subst Ct;rw [Rat.add_zero,Fa];have n1:=G5 CM;clear hr CM;go_enter Tryz.func35,Tryz.ntmps35;go_wp2;go_ret;exact⟨rfl,Aa.refl _⟩
  ·exact AfG p q hr CM Ct hr.s1 hr.s2 w hw
theorem AfQ(p q:Rat){a b:Nat}(hr:Rm a b p q)(CM:p≠0)(Ct:q≠0)(DT:p≠1)(D2:q≠1)(h1:Fy p)(h2:Fy q)(w:World)(hw:Ak w):Calls Tryz.prog 100 #[S (R p),S (R q)] w (BK (R (p*q)) w):=by
 have q1:=OB p hr.lp;have q2:=OB q hr.lq;rw [O9 h1]at q1;rw [O9 h2]at q2;have n1:=G5 CM;have n2:=G5 Ct;have n3:=VJ DT;have n4:=VJ D2;clear CM Ct DT D2;have w1:=Nh (x:=p.num) (y:=q.num) h1.num h2.num;have w3:=Nh (x:=(p.den:Int)) (y:=(q.den:Int)) (by rw [AjP];exact h1.den) (by rw [AjP];exact h2.den);have b1:=P3 (x:=p.num) (y:=q.num) h1.num h2.num;have b3:=P3 (x:=(p.den:Int)) (y:=(q.den:Int)) (by rw [AjP];exact h1.den) (by rw [AjP];exact h2.den);have sm:=xO (p.num*q.num) (p.den*q.den) (Nat.mul_pos p.den_pos q.den_pos) (by omega) (by omega) (by rw [←Int.natCast_mul,AjP]at b3;omega);rw [Int.natCast_mul,←Rat.mul_def']at sm;clear b1 b3;have hx:=Aa.refl w;clear h1 h2 hr;go_enter Tryz.func100,Tryz.ntmps100;(go_wp2_with fail);(with_reducible refine(q1 _).mono ?_);rintro e w1 ⟨rfl,rfl⟩;(go_wp2_with fail);(with_reducible refine(q2 _).mono ?_);rintro e w2 ⟨rfl,rfl⟩;(go_wp2_with fail);(with_reducible refine(sm _ hw).mono ?_);rintro e w3 ⟨rfl,hx3⟩;go_wp2;go_ret;exact⟨rfl,hx3⟩
theorem Kk(p q:Rat){a b:Nat}(hr:Rm a b p q)(w:World)(hw:Ak w):Calls Tryz.prog 100 #[S (R p),S (R q)] w (BK (R (p*q)) w):=by
 by_cases CM:p=0
 ·subst CM;rw [Rat.zero_mul,Fa];clear hr;go_enter Tryz.func100,Tryz.ntmps100;go_wp2;go_ret;exact⟨rfl,Aa.refl _⟩
 by_cases Ct:q=0
 ·subst Ct;rw [Rat.mul_zero,Fa];have n1:=G5 CM;clear hr CM;go_enter Tryz.func100,Tryz.ntmps100;go_wp2;go_ret;exact⟨rfl,Aa.refl _⟩
 by_cases DT:p=1
 ·subst DT;rw [Rat.one_mul,Si];have n1:=G5 Ct;clear hr Ct CM;go_enter Tryz.func100,Tryz.ntmps100;go_wp2;go_ret;exact⟨rfl,Aa.refl _⟩
 by_cases D2:q=1
 ·subst D2;rw [Rat.mul_one,Si];have n1:=G5 CM;have n2:=VJ DT;clear hr Ct CM DT;go_enter Tryz.func100,Tryz.ntmps100;go_wp2;go_ret;exact⟨rfl,Aa.refl _⟩
 exact AfQ p q hr CM Ct DT D2 hr.s1 hr.s2 w hw
def AC(p q:Rat):Int:=if p<q then -1 else if p=q then 0 else 1
theorem iD{p q:Rat}(h:p<q):AC p q = -1:=if_pos h
theorem Wh{p q:Rat}(h:p=q):AC p q=0:=by unfold AC;rw [if_neg (by rw [h];exact Rat.lt_irrefl),if_pos h]
theorem iC{p q:Rat}(h:q<p):AC p q=1:=by
 unfold AC;rw [if_neg (by grind),if_neg (by rintro rfl;exact Rat.lt_irrefl h)]
theorem wj(p q:Rat):DG (p.num*(q.den:Int)) (q.num*(p.den:Int))=AC p q:=by
 unfold DG AC;by_cases h:p<q
 ·rw [if_pos (Rat.lt_iff _ _ |>.1 h),if_pos h]
 ·rw [if_neg (fun k=>h (Rat.lt_iff _ _ |>.2 k)),if_neg h];by_cases e:p=q
  ·rw [if_pos (Rat.eq_iff_mul_eq_mul.1 e),if_pos e]
  ·rw [if_neg (fun k=>e (Rat.eq_iff_mul_eq_mul.2 k)),if_neg e]
theorem AfL(p q:Rat){a b:Nat}(hr:Rm a b p q)(hne:p≠q)(h1:Fy p)(h2:Fy q)(w:World):Calls Tryz.prog 197 #[S (R p),S (R q)] w (AB (AC p q) w):=by
 have q1:=OB p hr.lp;have q2:=OB q hr.lq;rw [O9 h1]at q1;rw [O9 h2]at q2;have n1:(R p == R q)=false:=(by rw [beq_eq_false_iff_ne];exact fun e=>hne (Sf e));have w1:=Nh (x:=p.num) (y:=(q.den:Int)) h1.num (by rw [AjP];exact h2.den);have w2:=Nh (x:=q.num) (y:=(p.den:Int)) h2.num (by rw [AjP];exact h1.den);have hc:=wj p q;obtain⟨x,hx⟩:=AjJ (p.num*(q.den:Int));obtain⟨y,hy⟩:=AjJ (q.num*(p.den:Int));rw [←hx]at w1 hc;rw [←hy]at w2 hc;rw [hx]at w1;rw [hy]at w2;have w1':IntKind.i64.wrap (p.num*(q.den:Int))=x:=(by rw [hx];exact w1);have w2':IntKind.i64.wrap (q.num*(p.den:Int))=y:=(by rw [hy];exact w2);have HC:=AjK hc;clear h1 h2 hr hne w1 w2 hx hy hc
 rcases Int.lt_trichotomy x y with h|h|h
 ·have HR:=AjK (iE h);go_enter Tryz.func197,Tryz.ntmps197;(go_wp2_with fail);(with_reducible refine(q1 _).mono ?_);rintro e w1 ⟨rfl,rfl⟩;(go_wp2_with fail);(with_reducible refine(q2 _).mono ?_);rintro e w2 ⟨rfl,rfl⟩;go_wp2;go_ret;exact⟨EE (by rw [←HC.out,HR.out]),Aa.refl _⟩
 ·have HR:=AjK (wm h);have h1:¬x<y:=(by omega);have h2:¬y<x:=(by omega);clear h;go_enter Tryz.func197,Tryz.ntmps197;(go_wp2_with fail);(with_reducible refine(q1 _).mono ?_);rintro e w1 ⟨rfl,rfl⟩;(go_wp2_with fail);(with_reducible refine(q2 _).mono ?_);rintro e w2 ⟨rfl,rfl⟩;go_wp2;go_ret;exact⟨EE (by rw [←HC.out,HR.out]),Aa.refl _⟩
 ·have HR:=AjK (Wj h);have h1:¬x<y:=(by omega);go_enter Tryz.func197,Tryz.ntmps197;(go_wp2_with fail);(with_reducible refine(q1 _).mono ?_);rintro e w1 ⟨rfl,rfl⟩;(go_wp2_with fail);(with_reducible refine(q2 _).mono ?_);rintro e w2 ⟨rfl,rfl⟩;go_wp2;go_ret;exact⟨EE (by rw [←HC.out,HR.out]),Aa.refl _⟩
theorem FW(p q:Rat){a b:Nat}(hr:Rm a b p q)(w:World)(_:Ak w):Calls Tryz.prog 197 #[S (R p),S (R q)] w (AB (AC p q) w):=by
 by_cases Uu:p=q
 ·subst Uu;have HR:=AjK (Wh (rfl:p=p));have n1:(R p == R p)=true:=(by simp);clear hr;go_enter Tryz.func197,Tryz.ntmps197;go_wp2;go_ret;exact⟨EE HR.out,Aa.refl _⟩
 exact AfL p q hr Uu hr.s1 hr.s2 w
theorem Rm.swap{a b:Nat}{p q:Rat}(h:Rm a b p q):Rm b a q p:=⟨h.q,h.p,h.b0,h.a0,by have:=h.le;omega⟩
theorem AfO(p q:Rat){a b:Nat}(hr:Rm a b p q)(w:World)(hw:Ak w):Calls Tryz.prog 245 #[S (R p),S (R q)] w (BK (R (Im p q)) w):=by
 have hc:=FW q p hr.swap w hw;clear hr;by_cases h:p<q
 ·have HM:Hid (Im p q=q):=AjK (if_pos h);rw [iC h]at hc;go_enter Tryz.func245,Tryz.ntmps245;(go_wp2_with fail);(with_reducible refine hc.mono ?_);rintro e w1 ⟨rfl,hx⟩;go_wp2;go_ret;exact⟨Hd (by rw [HM.out]),hx⟩
 ·have HM:Hid (Im p q=p):=AjK (if_neg h)
  obtain⟨s,hs,hs0⟩:∃s:Int,s=AC q p/\¬s>0:=by
   by_cases e:q=p
   ·exact⟨_,rfl,by rw [Wh e];omega⟩
   ·exact⟨_,rfl,by rw [iD (by grind)];omega⟩
  rw [←hs]at hc;clear hs h;go_enter Tryz.func245,Tryz.ntmps245;(go_wp2_with fail);(with_reducible refine hc.mono ?_);rintro e w1 ⟨rfl,hx⟩;go_wp2;go_ret;exact⟨Hd (by rw [HM.out]),hx⟩
theorem AfP(p q:Rat){a b:Nat}(hr:Rm a b p q)(w:World)(hw:Ak w):Calls Tryz.prog 244 #[S (R p),S (R q)] w (BK (R (Io p q)) w):=by
 have hc:=FW q p hr.swap w hw;clear hr;by_cases h:q<p
 ·have HM:Hid (Io p q=q):=AjK (if_pos h);rw [iD h]at hc;go_enter Tryz.func244,Tryz.ntmps244;(go_wp2_with fail);(with_reducible refine hc.mono ?_);rintro e w1 ⟨rfl,hx⟩;go_wp2;go_ret;exact⟨Hd (by rw [HM.out]),hx⟩
 ·have HM:Hid (Io p q=p):=AjK (if_neg h)
  obtain⟨s,hs,hs0⟩:∃s:Int,s=AC q p/\¬s<0:=by
   by_cases e:q=p
   ·exact⟨_,rfl,by rw [Wh e];omega⟩
   ·exact⟨_,rfl,by rw [iC (by grind)];omega⟩
  rw [←hs]at hc;clear hs h;go_enter Tryz.func244,Tryz.ntmps244;(go_wp2_with fail);(with_reducible refine hc.mono ?_);rintro e w1 ⟨rfl,hx⟩;go_wp2;go_ret;exact⟨Hd (by rw [HM.out]),hx⟩
theorem Fu(p q:Rat){a b:Nat}(hr:Rm a b p q)(w:World)(hw:Ak w):Calls Tryz.prog 99 #[S (R p),S (R q)] w (BK (R (p-q)) w):=by
 have hn:=xM q hr.b0 (by have:=hr.le;omega) hr.q;have ha:=LP p (-q) (a:=a) (b:=b) ⟨hr.p,hr.q.neg,hr.a0,hr.b0,hr.le⟩;rw [←Rat.sub_eq_add_neg]at ha;clear hr;go_enter Tryz.func99,Tryz.ntmps99;(go_wp2_with fail);(with_reducible refine(hn _).mono ?_);rintro e w1 ⟨rfl,hx1⟩;(go_wp2_with fail);(with_reducible refine(ha _ (hw.ext hx1)).mono ?_);rintro e w2 ⟨rfl,hx2⟩;go_wp2;go_ret;exact⟨rfl,hx1.trans hx2⟩
theorem xP(n:Int)(h0:-9223372036854775808<=n)(h1:n<=9223372036854775807)(w:World)(hw:Ak w):Calls Tryz.prog 204 #[.int .i64 n] w (BK (R (n:Rat)) w):=by
 have ho:=tH n h0 h1 w hw;rw [eI];clear h0 h1;go_enter Tryz.func204,Tryz.ntmps204;(go_wp2_with fail);(with_reducible refine ho.mono ?_);rintro e w1 ⟨rfl,hx1⟩;go_wp2;go_ret;exact⟨rfl,hx1⟩
theorem m5{q:Rat}(h:0<q):R q⁻¹=Ff (q.den:Int) q.num.toNat:=by
 have hn:0<q.num:=vK.2 h;rw [KE,Rat.num_inv,Rat.den_inv,if_neg (by omega),Int.sign_eq_one_of_pos hn,Int.one_mul,show q.num.natAbs=q.num.toNat by omega]
theorem mz{q:Rat}(h:q<0):R q⁻¹=Ff (-(q.den:Int)) (-q.num).toNat:=by
 have hn:q.num<0:=Iq.2 h;rw [KE,Rat.num_inv,Rat.den_inv,if_neg (by omega),Int.sign_eq_neg_one_of_neg hn,Int.neg_one_mul,show q.num.natAbs=(-q.num).toNat by omega]
theorem BJ.neg{z:Int}(h:BJ z):BJ (-z):=by unfold BJ at h ⊢;rw [Int.natAbs_neg];exact h
def UT(q:Rat):Value:=.tuple #[S (R q),.int .i64 0]
attribute [local go_sem] fW
theorem AfM(p q:Rat)(Ct:q≠0){a b:Nat}(hr:Rm a b p q)(w:World)(hw:Ak w):Calls Tryz.prog 281 #[S (R p),S (R q)] w (Cp (UT (p/q)) w):=by
 have n1:=G5 Ct;have pb:=AfR q hr.b0 (by have:=hr.le;omega) hr.q;have hm:=Kk p q⁻¹ (a:=a) (b:=b) ⟨hr.p,hr.q.inv hr.b0,hr.a0,hr.b0,hr.le⟩;rw [←Rat.div_def]at hm
 rcases VI q with⟨hn,e⟩|⟨hp,c,l,e,hd,hc⟩
 ·rw [mz hn]at hm;have ZA:=tG q.num hr.bm;have ZB:=tG (q.den:Int) hr.be;have hj:=xK (-(q.den:Int)) (-q.num) (by have:=Iq.2 hn;omega) hr.be.neg hr.bm.neg;obtain⟨c,hc⟩:=AjJ (45:UInt8);have hl:0<(R q).length:=(by rw [e];simp);have hg:(R q)[0]'hl=c:=(by rw [List.getElem_of_eq e hl,hc];rfl);have hcb:((c.toNat:Int) == 45)=true:=(by rw [hc];rfl);clear e hc hn hr Ct;unfold UT;go_enter Tryz.func281,Tryz.ntmps281;(go_wp2_with fail);(with_reducible refine(pb _ hw).mono ?_);rintro e w1 ⟨rfl,hx⟩;(go_wp2_with fail);(with_reducible refine(ZA _).mono ?_);rintro e w2 ⟨rfl,hx2⟩;replace hx:=hx.trans hx2;(go_wp2_with fail);(with_reducible refine(ZB _).mono ?_);rintro e w3 ⟨rfl,hx3⟩;replace hx:=hx.trans hx3;(go_wp2_with fail);(with_reducible refine(hj _).mono ?_);rintro e w4 ⟨rfl,Aj⟩;replace hx:=hx.trans Aj;(go_wp2_with fail);(with_reducible refine(hm _ (hw.ext hx)).mono ?_);rintro e w5 ⟨rfl,An⟩;replace hx:=hx.trans An;go_wp2;go_ret2;exact⟨rfl,hx⟩
 ·have hp:0<q:=(by grind);rw [m5 hp]at hm;have hj:=xK (q.den:Int) q.num (vK.2 hp) hr.be hr.bm;have hl:0<(R q).length:=(by rw [e];simp);have hg:(R q)[0]'hl=c:=(by rw [List.getElem_of_eq e hl];rfl);have hcb:((c.toNat:Int) == 45)=false:=(by rw [beq_eq_false_iff_ne];intro k;exact hc (UInt8.toNat_inj.1 (by simp;omega)));clear e hc hp hd hr Ct;unfold UT;go_enter Tryz.func281,Tryz.ntmps281;(go_wp2_with fail);(with_reducible refine(pb _ hw).mono ?_);rintro e w1 ⟨rfl,hx⟩;(go_wp2_with fail);(with_reducible refine(hj _).mono ?_);rintro e w4 ⟨rfl,Aj⟩;replace hx:=hx.trans Aj;(go_wp2_with fail);(with_reducible refine(hm _ (hw.ext hx)).mono ?_);rintro e w5 ⟨rfl,An⟩;replace hx:=hx.trans An;go_wp2;go_ret2;exact⟨rfl,hx⟩
end Go.Proofs.YtnfedbopbcegjaaGreatDoor
namespace Go.Proofs.YtnfedbopbcegjaaGreatDoor
open Go.RowKit Kl
theorem BJ.of_len{z:Int}{k:Nat}(h:(D z.natAbs).length<=k)(hk:k<=4000):BJ z:=BJ.of (MS h) hk
section
variable {l n d : Bs}
theorem AfK(hl:l.length<100000)(hn:(47:UInt8)∉l)(b:Bool)(hb:∀W,Calls Tryz.prog 67 #[S l] W (AB (EM b) W))(w:World)(hw:Ak w) :
  Calls Tryz.prog 37 #[S l] w (AB (EM b) w):=by
 have hc:=cut_c l [47] w hw (by omega);rw [Wm hn]at hc
 cases b
 ·rw [N2]at hb ⊢;go_enter Tryz.func37,Tryz.ntmps37;(go_wp2_with fail);(with_reducible refine hc.mono ?_);rintro e w1 ⟨rfl,hx⟩;(go_wp2_with fail);(with_reducible refine(hb _).mono ?_);rintro e w2 ⟨rfl,hx2⟩;go_wp2;go_ret;exact⟨rfl,hx.trans hx2⟩
 ·rw [Gg]at hb ⊢;go_enter Tryz.func37,Tryz.ntmps37;(go_wp2_with fail);(with_reducible refine hc.mono ?_);rintro e w1 ⟨rfl,hx⟩;(go_wp2_with fail);(with_reducible refine(hb _).mono ?_);rintro e w2 ⟨rfl,hx2⟩;go_wp2;go_ret;exact⟨rfl,hx.trans hx2⟩
theorem AfJ(hl:(n++47::d).length<100000)(hn:(47:UInt8)∉n)(hb:∀W,Calls Tryz.prog 67 #[S n] W (AB 2 W))(w:World)(hw:Ak w) :
  Calls Tryz.prog 37 #[S (n++47::d)] w (AB 2 w):=by
 have hc:=cut_c (n++47::d) [47] w hw (by omega);rw [N4 hn]at hc;go_enter Tryz.func37,Tryz.ntmps37;(go_wp2_with fail);(with_reducible refine hc.mono ?_);rintro e w1 ⟨rfl,hx⟩;(go_wp2_with fail);(with_reducible refine(hb _).mono ?_);rintro e w2 ⟨rfl,hx2⟩;go_wp2;go_ret;exact⟨rfl,hx.trans hx2⟩
theorem AfI(hl:(n++47::d).length<100000)(hn:(47:UInt8)∉n)(ha:∀W,Calls Tryz.prog 67 #[S n] W (AB 0 W))(hb:∀W,Calls Tryz.prog 67 #[S d] W (AB 2 W))(w:World)(hw:Ak w) :
  Calls Tryz.prog 37 #[S (n++47::d)] w (AB 2 w):=by
 have hc:=cut_c (n++47::d) [47] w hw (by omega);rw [N4 hn]at hc;go_enter Tryz.func37,Tryz.ntmps37;(go_wp2_with fail);(with_reducible refine hc.mono ?_);rintro e w1 ⟨rfl,hx⟩;(go_wp2_with fail);(with_reducible refine(ha _).mono ?_);rintro e w2 ⟨rfl,hx2⟩;replace hx:=hx.trans hx2;(go_wp2_with fail);(with_reducible refine(hb _).mono ?_);rintro e w3 ⟨rfl,hx3⟩;replace hx:=hx.trans hx3;go_wp2;go_ret;exact⟨rfl,hx⟩
end
theorem eG{z:Int}(h:(D z.natAbs).length<=17):(I z).length<=18:=by
 rcases Ds z with⟨n,rfl,e⟩|⟨n,hn,rfl,e⟩
 ·rw [e];simp only [AjP]at h;omega
 ·rw [e,List.length_cons];simp only [Int.natAbs_neg,AjP]at h;omega
theorem cH(z:Int):(D z.natAbs).length<=(I z).length:=by
 rcases Ds z with⟨n,rfl,e⟩|⟨n,hn,rfl,e⟩
 ·rw [e,AjP];exact AjN _
 ·rw [e,List.length_cons,Int.natAbs_neg,AjP];omega
def Kt(a b:Int):Bool:=decide (1<b)&&decide (a≠0)&&decide (Int.gcd a b=1)
theorem AfH(a b:Int)(Yu:(D a.natAbs).length<=17)(Lx:(D b.natAbs).length<=17)(w:World)(hw:Ak w) :
  Calls Tryz.prog 37 #[S (I a++47::I b)] w (AB (EM (Kt a b)) w):=by
 have ba:=BJ.of_len Yu (by omega);have bb:=BJ.of_len Lx (by omega);have l1:=ba.len;have l2:=bb.len;have hc:=cut_c (I a++47::I b) [47] w hw (by rw [List.length_append,List.length_cons];omega);rw [N4 (VE a)]at hc;have ca:=QP (I a);have cb:=QP (I b);rw [if_pos ⟨a,rfl,by omega⟩]at ca;rw [if_pos ⟨b,rfl,by omega⟩]at cb;have hb1:BJ 1:=BJ.of (k:=1) (by decide) (by omega);have cp:=AcZ b 1 bb hb1;rw [Po]at cp;have gc:=Ada a b (eG Yu) (eG Lx);have hlen:(I a++47::I b).length<10000:=(by rw [List.length_append,List.length_cons];omega);obtain⟨l,hl⟩:=AjJ (I a++47::I b);rw [←hl]at hc ⊢;clear hl Yu Lx ba bb hlen;by_cases h1:1<b
 ·rw [Wj h1]at cp;by_cases h2:a=0
  ·have HV:Hid (EM (Kt a b)=2):=AjK (by unfold Kt;rw [decide_eq_false (p:=a≠0) (by simpa using h2)];simp;rfl);have hz:(I a == [48])=true:=(by rw [h2,Sa];rfl);clear gc h2;go_enter Tryz.func37,Tryz.ntmps37;(go_wp2_with fail);(with_reducible refine hc.mono ?_);rintro e w1 ⟨rfl,hx⟩;(go_wp2_with fail);(with_reducible refine(ca _).mono ?_);rintro e w2 ⟨rfl,hx2⟩;replace hx:=hx.trans hx2;(go_wp2_with fail);(with_reducible refine(cb _).mono ?_);rintro e w3 ⟨rfl,hx3⟩;replace hx:=hx.trans hx3;(go_wp2_with fail);(with_reducible refine(cp _).mono ?_);rintro e w4 ⟨rfl,Aj⟩;replace hx:=hx.trans Aj;go_wp2;go_ret;exact⟨EE HV.out,hx⟩
  ·have hz:=eH h2
   have HV:Hid (EM (Kt a b)=if Int.gcd a b=1 then 0 else 2):=AjK (by
    unfold Kt;rw [decide_eq_true h1,decide_eq_true (p:=a≠0) h2];by_cases h:Int.gcd a b=1
    ·rw [if_pos h,decide_eq_true h];rfl
    ·rw [if_neg h,decide_eq_false h];rfl)
   by_cases h3:Int.gcd a b=1
   ·rw [if_pos h3]at HV;have hg1:(I (Int.gcd a b:Nat) == [49])=true:=(by rw [h3];rw [show ((1:Nat):Int)=1 from rfl,Po];rfl);clear h3 h2;go_enter Tryz.func37,Tryz.ntmps37;(go_wp2_with fail);(with_reducible refine hc.mono ?_);rintro e w1 ⟨rfl,hx⟩;(go_wp2_with fail);(with_reducible refine(ca _).mono ?_);rintro e w2 ⟨rfl,hx2⟩;replace hx:=hx.trans hx2;(go_wp2_with fail);(with_reducible refine(cb _).mono ?_);rintro e w3 ⟨rfl,hx3⟩;replace hx:=hx.trans hx3;(go_wp2_with fail);(with_reducible refine(cp _).mono ?_);rintro e w4 ⟨rfl,Aj⟩;replace hx:=hx.trans Aj;(go_wp2_with fail);(with_reducible refine(gc _ (hw.ext hx)).mono ?_);rintro e w5 ⟨rfl,An⟩;replace hx:=hx.trans An;go_wp2;go_ret;exact⟨EE HV.out,hx⟩
   ·rw [if_neg h3]at HV;have hg1:(I (Int.gcd a b:Nat) == [49])=false:=l8 (by omega);clear h3 h2;go_enter Tryz.func37,Tryz.ntmps37;(go_wp2_with fail);(with_reducible refine hc.mono ?_);rintro e w1 ⟨rfl,hx⟩;(go_wp2_with fail);(with_reducible refine(ca _).mono ?_);rintro e w2 ⟨rfl,hx2⟩;replace hx:=hx.trans hx2;(go_wp2_with fail);(with_reducible refine(cb _).mono ?_);rintro e w3 ⟨rfl,hx3⟩;replace hx:=hx.trans hx3;(go_wp2_with fail);(with_reducible refine(cp _).mono ?_);rintro e w4 ⟨rfl,Aj⟩;replace hx:=hx.trans Aj;(go_wp2_with fail);(with_reducible refine(gc _ (hw.ext hx)).mono ?_);rintro e w5 ⟨rfl,An⟩;replace hx:=hx.trans An;go_wp2;go_ret;exact⟨EE HV.out,hx⟩
 ·have HV:Hid (EM (Kt a b)=2):=AjK (by unfold Kt;rw [decide_eq_false h1];rfl);obtain⟨s,hs,hs0⟩:∃s:Int,s=DG b 1/\s<=0:=⟨_,rfl,by unfold DG;split<;>(try split)<;>omega⟩;rw [←hs]at cp;clear hs gc h1;go_enter Tryz.func37,Tryz.ntmps37;(go_wp2_with fail);(with_reducible refine hc.mono ?_);rintro e w1 ⟨rfl,hx⟩;(go_wp2_with fail);(with_reducible refine(ca _).mono ?_);rintro e w2 ⟨rfl,hx2⟩;replace hx:=hx.trans hx2;(go_wp2_with fail);(with_reducible refine(cb _).mono ?_);rintro e w3 ⟨rfl,hx3⟩;replace hx:=hx.trans hx3;(go_wp2_with fail);(with_reducible refine(cp _).mono ?_);rintro e w4 ⟨rfl,Aj⟩;replace hx:=hx.trans Aj;go_wp2;go_ret;exact⟨EE HV.out,hx⟩
open Classical in
theorem vq(l:Bs):(if Jy l then (0:Int)else 2)=EM (decide (Jy l)):=by
 by_cases h:Jy l
 ·rw [if_pos h,decide_eq_true h];rfl
 ·rw [if_neg h,decide_eq_false h];rfl
open Classical in
theorem US(l:Bs)(hl9:l.length<=17)(w:World)(hw:Ak w):Calls Tryz.prog 37 #[S l] w (AB (EM (decide (CP l))) w):=by
 have hl:l.length<100000:=by omega
 rcases xk l with⟨n,d,rfl,hn,-⟩|⟨hn,-⟩
 ·have ca:=QP n;have cb:=QP d;by_cases h1:Jy n
  ·rw [if_pos h1]at ca;by_cases h2:Jy d
   ·obtain⟨a,rfl,ha⟩:=h1;obtain⟨b,rfl,hb⟩:=h2;rw [List.length_append,List.length_cons]at hl9;have:=cH a;have:=cH b;have h:=AfH a b (by omega) (by omega) w hw
    have e:Kt a b=decide (CP (I a++47::I b)):=by
     rw [Bool.eq_iff_iff,decide_eq_true_eq,ZM hn];unfold Kt;simp only [Bool.and_eq_true,decide_eq_true_eq];constructor
     ·rintro⟨⟨x1,x2⟩,x3⟩;exact⟨a,b,rfl,rfl,ha,hb,x1,x2,x3⟩
     ·rintro⟨a',b',e1,e2,_,_,x1,x2,x3⟩;obtain rfl:=Ns e1;obtain rfl:=Ns e2;exact⟨⟨x1,x2⟩,x3⟩
    rw [←e];exact h
   ·rw [if_neg h2]at cb
    have e:decide (CP (n++47::d))=false:=by rw [decide_eq_false_iff_not,ZM hn];rintro⟨a,b,_,e2,_,hb,_⟩;exact h2 ⟨b,e2,hb⟩
    rw [e];exact AfI hl hn ca cb w hw
  ·rw [if_neg h1]at ca
   have e:decide (CP (n++47::d))=false:=by rw [decide_eq_false_iff_not,ZM hn];rintro⟨a,b,e1,_,ha,_⟩;exact h1 ⟨a,e1,ha⟩
   rw [e];exact AfJ hl hn ca w hw
 ·have ca:=QP l;simp only [vq]at ca;have e:decide (CP l)=decide (Jy l):=(by rw [Bool.eq_iff_iff,decide_eq_true_eq,decide_eq_true_eq];exact AeP hn);rw [e];exact AfK hl hn _ ca w hw
structure Ad(w:World)(A:Option Addr)(cs:List Value):Prop where
 ad:0<cs.length→∃b o,A=some ⟨b,o,none⟩/\∀j (h:j<cs.length),w.cell? ⟨b,o+j,none⟩=some cs[j]
theorem Ad.ext{w w':World}{A:Option Addr}{cs:List Value}(h:Ad w A cs)(hx:Aa w w'):Ad w' A cs:=
 ⟨fun h0=>by
  obtain⟨b,o,e,hc⟩:=h.ad h0
  exact⟨b,o,e,fun j hj=>hx.cellS (hc j hj)⟩⟩
theorem Ad.lit(w:World)(cs:Array Value)(t:TypeId):Ad (w.alloc (.cells cs t)) (some ⟨w.heap.size,0,none⟩) cs.toList:=
 ⟨fun _=>⟨w.heap.size,0,rfl,fun j hj=>by
  refine Ab (AjM w _) ?_
  rw [Nat.zero_add,←Array.getElem?_toList,AjS hj]⟩⟩
def UJ(l:List Bs):Prop:=∀x∈l,CP x
theorem AeD{x y:Bs} : UJ [x,y]↔CP x/\CP y:=by unfold UJ;simp
open Classical in
theorem vL(l:List Bs)(ok:Bool)(Ai:ok=true↔UJ l)(A:Option Addr)(c:Nat)(w:World)(hw:Ak w)(hr:Ad w A (l.map S))(_:l.length<=c)(_:c<=9223372036854775807)(hl:l.length<=100000)(hlen:∀x∈l,x.length<=17) :
  Calls Tryz.prog 140 #[.slice A l.length c] w (AB (EM ok) w):=by
 have HV:=AjK Ai;have HL:=AjK hlen;clear Ai hlen;go_enter Tryz.func140,Tryz.ntmps140;go_wp2
 go_loopw [8] (fun i wr=>∃j:Nat,i=.int .i64 (j:Nat)/\j<=l.length/\(∀x∈l.take j,CP x)/\Aa w wr) (fun i _=>l.length-(intOf i).toNat)
 case atStart=>exact⟨0,rfl,by omega,by simp,Aa.refl _⟩
 case round=>
  obtain⟨j,rfl,hj,Ai,Ae⟩:=hrel;have HO:=AjK Ai;clear Ai;by_cases hlt:j<l.length
  ·obtain⟨b,o,rfl,hcs⟩:=(hr.ext Ae).ad (by simp;omega);have hg:=hcs j (by simp;omega);rw [List.getElem_map]at hg;clear hcs;obtain⟨x,hx⟩:=AjJ (l[j]);rw [←hx]at hg;have hmem:x∈l:=(by rw [hx];exact AjO hlt);have ck:=US x (HL.out x hmem) wr (hw.ext Ae);have HX:=AjK hx;clear hx;have hj0:(0:Int)<=(j:Int):=(by omega);have Ay:(j:Int)<(l.length:Int):=(by omega);by_cases hx:CP x
   ·rw [decide_eq_true hx,Gg]at ck;(go_wp2_with fail);(with_reducible refine ck.mono ?_);rintro e w2 ⟨rfl,hx2⟩;go_wp2;go_roundw
    case rel=>
     refine⟨j+1,by go_num,hlt,?_,Ae.trans hx2⟩;intro y hy;rw [AjQ hlt,←HX.out]at hy
     rcases List.mem_append.1 hy with h|h
     ·exact HO.out y h
     ·simp only [AjZ]at h;rw [h];exact hx
    case measure=>simp [intOf];omega
   ·rw [decide_eq_false hx,N2]at ck
    have hv:ok=false:=by
     cases ok
     ·rfl
     ·exact absurd (HV.out.1 rfl x hmem) hx
    subst hv;rw [N2];(go_wp2_with fail);(with_reducible refine ck.mono ?_);rintro e w2 ⟨rfl,hx2⟩;go_wp2;go_ret;exact⟨rfl,Ae.trans hx2⟩
  ·have hv:ok=true:=HV.out.2 (by
    have:=HO.out
    rwa [AjV (by omega)]at this)
   subst hv;rw [Gg];go_wp2;go_ret;exact⟨rfl,Ae⟩
theorem S2(x y:Bs)(ok:Bool)(Ai:ok=true↔CP x/\CP y)(hx:x.length<=17)(hy:y.length<=17)(w:World)(hw:Ak w) :
  Calls Tryz.prog 80 #[.agg #[S x,S y]] w (AB (EM ok) w):=by
 have e1:=(Aa.refl w).alloc (.cells #[S x,S y] 28);have e2:=e1.alloc (.cells #[S x,S y] 26);have hr:=Ad.lit (w.alloc (.cells #[S x,S y] 28)) #[S x,S y] 26;have nm:=vL [x,y] ok (by rw [Ai,AeD]) _ 2 _ (hw.ext e2) hr (by simp) (by omega) (by simp) (by intro z hz;simp only [List.mem_cons,AjY,or_false]at hz;rcases hz with rfl|rfl<;>assumption);simp only [List.length_cons,List.length_nil,Nat.zero_add,Nat.reduceAdd,AjU]at nm;clear hr Ai;go_enter Tryz.func80,Tryz.ntmps80;(go_wp2_with fail);(with_reducible refine nm.mono ?_);rintro e w2 ⟨rfl,hx2⟩;go_wp2;go_ret;exact⟨rfl,e2.trans hx2⟩
def flat(l:List (Bs×Bs)):List Value:=l.flatMap fun p=>[S p.1,S p.2]
theorem flat_length(l:List (Bs×Bs)):(flat l).length=l.length*2:=by
 induction l with
 | nil=>rfl
 | cons p l ih=>unfold flat at *;simp only [List.flatMap_cons,List.length_append,List.length_cons,List.length_nil];omega
theorem flat_get:∀(l:List (Bs×Bs)) (j:Nat) (h:j<l.length),(flat l)[j*2]?=some (S l[j].1)/\(flat l)[j*2+1]?=some (S l[j].2)
 | p::l,0,_=>⟨rfl,rfl⟩
 | p::l,j+1,h=>by have ih:=flat_get l j (by simpa using h);have e:flat (p::l)=S p.1::S p.2::flat l:=rfl;rw [e,show (j+1)*2=j*2+1+1 by omega];exact ih
theorem lX:(1/2:Rat)=mkRat 1 2:=by rw [Rat.mkRat_eq_div];rfl
theorem Ab1:(1/2:Rat).num=1:=by rw [lX,Rat.num_mkRat];decide
theorem Abz:(1/2:Rat).den=2:=by rw [lX,Rat.den_mkRat];decide
theorem my:R (1/2) = [49,47,50]:=by
 rw [KE,Ab1,Abz];unfold Ff;rw [if_neg (by omega),Po,EG (by omega)]
 rfl
theorem IA(w:World)(o1 o2 o3:Obj):∃W,W=((w.alloc o1).alloc o2).alloc o3/\Aa w W/\W.heap[w.heap.size]?=some o1/\W.heap[w.heap.size+1]?=some o2/\W.heap[w.heap.size+1+1]?=some o3:=by
 have h2:=AjM (w.alloc o1) o2;have h3:=AjM ((w.alloc o1).alloc o2) o3;rw [AjU]at h2;rw [AjU,AjU]at h3;refine⟨_,rfl,(((Aa.refl _).alloc _).alloc _).alloc _,?_,?_,h3⟩
 ·exact(Below.heap_alloc _ _ _ (by simp;omega)).trans ((Below.heap_alloc _ _ _ (by simp)).trans (AjM w o1))
 ·exact(Below.heap_alloc _ _ _ (by simp)).trans h2
theorem set2{w:World}{b:Nat}{a0 a1:Value}(v0 v1:Value)(g1:w.cell? ⟨b,0,none⟩=some a0)(g2:w.cell? ⟨b,1,none⟩=some a1) :
  ((w.setCell ⟨b,0,none⟩ v0).setCell ⟨b,1,none⟩ v1).cell? ⟨b,0,none⟩=some v0/\((w.setCell ⟨b,0,none⟩ v0).setCell ⟨b,1,none⟩ v1).cell? ⟨b,1,none⟩=some v1:=by
 refine⟨(World.cell?_setCell_other _ _ _ _ (by simp)).trans (World.cell?_setCell_same _ _ _ g1),?_⟩;exact World.cell?_setCell_same _ _ _ ((World.cell?_setCell_other _ _ _ _ (by simp)).trans g2)
def Ag(p:Pt):Value:=.agg #[S (R p.x),S (R p.y)]
def Ax(s:Sg):Value:=.agg #[S (R s.a.x),S (R s.a.y),S (R s.b.x),S (R s.b.y)]
structure A0(k:Nat)(p:Pt):Prop where
 x:Sz k p.x
 y:Sz k p.y
structure G7(k:Nat)(s:Sg):Prop where
 a:A0 k s.a
 b:A0 k s.b
theorem ak{i j m:Nat}{x y k:Rat}(hx:Sz i x)(hy:Sz j y)(hk:Sz m k):Sz (2*i+j+m+2) (CH x y k):=
 (hx.add (hk.mul (hy.sub hx))).mono (by omega)
end Go.Proofs.YtnfedbopbcegjaaGreatDoor
namespace Go.Proofs.YtnfedbopbcegjaaGreatDoor
end Go.Proofs.YtnfedbopbcegjaaGreatDoor
namespace Go.Proofs.YtnfedbopbcegjaaGreatDoor
open Go.RowKit Kl
theorem MW{q:Rat}{k:Nat}(h:Sz k q)(hk:0<k)(hk2:k<=200):CP (R q):=
 ⟨q,rfl,AjX (Hk hk h.num) hk2,AjX (Hk hk h.den) hk2⟩
theorem Ve{q:Rat}{k:Nat}(h:Sz k q)(hk:0<k)(hk2:k<=7):(R q).length<=17:=by have:=KF hk h;omega
def aA(p:Pt):Bs×Bs:=(R p.x,R p.y)
theorem Nz{w:World}{b:Nat}{a0 a1 a2 a3:Value}{t:TypeId}(v0 v1 v2 v3:Value)(h:w.heap[b]?=some (.cells #[a0,a1,a2,a3] t)) :
  ((((w.setCell ⟨b,0,none⟩ v0).setCell ⟨b,1,none⟩ v1).setCell ⟨b,2,none⟩ v2).setCell ⟨b,3,none⟩ v3).heap[b]?=some (.cells #[v0,v1,v2,v3] t):=by
 simp only [World.setCell,Array.getElem?_modify,h];simp
end Go.Proofs.YtnfedbopbcegjaaGreatDoor
namespace Go.Proofs.YtnfedbopbcegjaaGreatDoor
end Go.Proofs.YtnfedbopbcegjaaGreatDoor
namespace Go.Proofs.YtnfedbopbcegjaaGreatDoor
open Go.RowKit Kl
theorem Agt{P:Program}{w:World}(ts:Array TypeId)(t:TypeId)(k:IntKind)(a b c d e:Int):(Builtin.max_ ts t #[.int k a,.int k b,.int k c,.int k d,.int k e]).run P w=.ok (.int k (max (max (max (max a b) c) d) e)) w:=by
 have m:∀x y:Int,(if y>x then y else x)=max x y:=(by intro x y;split<;>omega);simp only [Builtin.max_,List.foldlM_cons,List.foldlM_nil,Builtin.max2];simp [m]
attribute [local go_sem] Agt
theorem Ny{w:World}{b:Nat}{a0 a1:Value}{t:TypeId}(v0 v1:Value)(h:w.heap[b]?=some (.cells #[a0,a1] t)) :
  ((w.setCell ⟨b,0,none⟩ v0).setCell ⟨b,1,none⟩ v1).heap[b]?=some (.cells #[v0,v1] t):=by
 simp only [World.setCell,Array.getElem?_modify,h];simp
end Go.Proofs.YtnfedbopbcegjaaGreatDoor
namespace Go.Proofs.YtnfedbopbcegjaaGreatDoor
end Go.Proofs.YtnfedbopbcegjaaGreatDoor
namespace Go.Proofs.YtnfedbopbcegjaaGreatDoor
open Go.RowKit Kl
def Ar(a b c:Pt):Rat:=(b.x-a.x)*(c.y-a.y)-(b.y-a.y)*(c.x-a.x)
def AS(a b:Pt):Int:=if AC a.x b.x≠0 then AC a.x b.x else AC a.y b.y
def Aq(l:List Pt):List (Bs×Bs):=l.map aA
theorem CX{w:World}{A:Option Addr}{l:List Pt}(hr:Ad w A (flat (Aq l))){j:Nat}(h:j<l.length):∃b o,A=some ⟨b,o,none⟩/\w.cell? ⟨b,o+j*2,none⟩=some (S (R l[j].x))/\w.cell? ⟨b,o+j*2+1,none⟩=some (S (R l[j].y)):=by
 have hl:(Aq l).length=l.length:=(by simp [Aq]);obtain⟨b,o,e,hcs⟩:=hr.ad (by rw [flat_length];omega);obtain⟨f1,f2⟩:=flat_get (Aq l) j (by omega);have hg1:=hcs (j*2) (by rw [flat_length];omega);have hg2:=hcs (j*2+1) (by rw [flat_length];omega);rw [AjS (by rw [flat_length];omega),AjR]at f1 f2;rw [f1]at hg1;rw [f2,←Nat.add_assoc]at hg2;have e2:(Aq l)[j]'(by omega)=aA l[j]:=(by simp [Aq]);rw [e2]at hg1 hg2;exact⟨b,o,e,hg1,hg2⟩
theorem ZS(x y:Int)(b o:Nat)(w:World)(h1:w.cell? ⟨b,o,none⟩=some (.int .i64 x))(h2:w.cell? ⟨b,o+1,none⟩=some (.int .i64 y)) :
  Calls Tryz.prog 196 #[.slice (some ⟨b,o,none⟩) 2 2] w (AB (if x≠0 then x else y) w):=by
 obtain⟨r,hr⟩:=AjJ (if x≠0 then x else y);rw [←hr];have HR:=AjK hr;clear hr;go_enter Tryz.func196,Tryz.ntmps196;go_wp2
 go_loopw [8] (fun i wr=>∃j:Nat,i=.int .i64 (j:Nat)/\j<=2/\(1<=j→x=0)/\(2<=j→y=0)/\wr=w) (fun i _=>2-(intOf i).toNat)
 case atStart=>exact⟨0,rfl,by omega,by omega,by omega,rfl⟩
 case round=>
  obtain⟨j,rfl,hj,hx,hy,rfl⟩:=hrel;by_cases j0:j=0
  ·subst j0;by_cases hx0:x=0
   ·have t:(x != 0)=false:=(by rw [hx0];rfl);have HX:=AjK hx0;clear hx hy hx0;go_wp2;go_roundw
    case rel=>exact⟨1,rfl,by omega,fun _=>HX.out,by omega,by trivial⟩
    case measure=>simp [intOf]
   ·have t:(x != 0)=true:=(by rw [bne_iff_ne];exact hx0);have hrx:r=x:=(by rw [HR.out,if_pos hx0]);subst hrx;clear hx hy hx0;go_wp2;go_ret;exact⟨rfl,Aa.refl _⟩
  ·by_cases j1:j=1
   ·subst j1;have hx0:x=0:=hx (by omega);have hry:r=y:=(by rw [HR.out,if_neg (by omega)]);subst hry;have HX:=AjK hx0;by_cases Dk:r=0
    ·have t:(r != 0)=false:=(by rw [Dk];rfl);have HY:=AjK Dk;clear hx hy hx0 Dk j0;go_wp2;go_roundw
     case rel=>exact⟨2,rfl,by omega,fun _=>HX.out,fun _=>HY.out,by trivial⟩
     case measure=>simp [intOf]
    ·have t:(r != 0)=true:=(by rw [bne_iff_ne];exact Dk);clear hx hy hx0 Dk j0;go_wp2;go_ret;exact⟨rfl,Aa.refl _⟩
   ·have j2:j=2:=(by omega);subst j2;have hx0:x=0:=hx (by omega);have Dk:y=0:=hy (by omega);have hr0:r=0:=(by rw [HR.out,if_neg (by omega),Dk]);subst hr0;clear hx hy hx0 Dk j0 j1;go_wp2;go_ret;exact⟨rfl,Aa.refl _⟩
end Go.Proofs.YtnfedbopbcegjaaGreatDoor
