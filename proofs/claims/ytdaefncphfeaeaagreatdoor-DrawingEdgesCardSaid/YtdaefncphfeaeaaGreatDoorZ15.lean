/- Z15: Int9 IntC R1 R2. -/
import Derived.Test.YtdaefncphfeaeaaGreatDoorZ14
import Derived.Test.YtdaefncphfeaeaaGreatDoorZ03
set_option maxRecDepth 100000
set_option maxHeartbeats 2000000
namespace Go.Proofs.YtdaefncphfeaeaaGreatDoor
open Go.RowKit Kl
def Dt(x y:Int):Int:=if x<y then -1 else if x=y then 0 else 1
theorem uO{x y:Int}(h:x<y):Dt x y = -1:=by unfold Dt;rw [if_pos h]
theorem dT{x y:Int}(h:y<x):Dt x y=1:=by unfold Dt;rw [if_neg (by omega),if_neg (by omega)]
theorem Afw{x y:Int}(h:x=y):Dt x y=0:=by unfold Dt;rw [if_neg (by omega),if_pos h]
theorem uR:∀(l k:Bs),BP l→BP k→l.length=k.length→Lib.compareBytes l k=EO (val l) (val k)
 | [],[],_,_,_=>by simp [Lib.compareBytes,EO]
 | [],_::_,_,_,h=>by simp at h
 | _::_,[],_,_,h=>by simp at h
 | a::l,b::k,ha,hb,h=>by
  rw [WB]at ha hb;simp only [List.length_cons,Nat.add_right_cancel_iff]at h;have ih:=uR l k ha.2 hb.2 h;have hl:=GU ha.2;have hk:=GU hb.2;rw [Sf,Sf,Lib.compareBytes,h];rw [h]at hl;have TQ:=ha.1.1;have TR:=hb.1.1;generalize 10^k.length=p at *
  rcases Nat.lt_trichotomy (dv a) (dv b)with hd|hd|hd
  ·have h1:a<b:=(by rw [UInt8.lt_iff_toNat_lt];unfold dv at hd;omega);have h2:dv a*p+p<=dv b*p:=(by rw [←Nat.succ_mul];exact Nat.mul_le_mul_right _ hd);rw [if_pos h1,MZ (by omega)]
  ·have h1:a=b:=by have:a.toNat=b.toNat:=(by unfold dv at hd;omega);exact UInt8.toNat_inj.1 this
   subst h1;rw [if_neg (by rw [UInt8.lt_iff_toNat_lt];omega),if_neg (by rw [UInt8.lt_iff_toNat_lt];omega),ih];unfold EO;simp only [Nat.add_lt_add_iff_left,Nat.add_left_cancel_iff]
  ·have h1:b<a:=(by rw [UInt8.lt_iff_toNat_lt];unfold dv at hd;omega);have h0:¬a<b:=(by rw [UInt8.lt_iff_toNat_lt]at h1 ⊢;omega);have h2:dv b*p+p<=dv a*p:=(by rw [←Nat.succ_mul];exact Nat.mul_le_mul_right _ hd);rw [if_neg h0,if_pos h1,LK (by omega)]
theorem pY{m n:Nat}(h:(D m).length<(D n).length):m<n:=by
 rcases Nat.eq_zero_or_pos n with rfl|hn
 ·have e:(D 0).length=1:=(by rw [Ew (by omega)];rfl);have:=Ly m;omega
 ·have h1:=UT m;have h2:=Aam n hn;have h3:10^(D m).length<=10^((D n).length-1):=Nat.pow_le_pow_right (by omega) (by omega);omega
theorem Aba(z:Int):-1<=Fb z/\Fb z<=1:=by unfold Fb;split<;>(try split)<;>omega
theorem AaX{x y:Int}(h:Fb x<Fb y):x<y:=by
 unfold Fb at h;split at h<;>split at h<;>(try split at h)<;>(try split at h)<;>omega
theorem AaZ(z:Int):Fb z*(z.natAbs:Int)=z:=by
 unfold Fb
 split
 ·omega
 ·split<;>omega
theorem UO(x y:Int)(hx:Av x)(hy:Av y)(w:World):Calls Tryz.prog 76 #[S (I x),S (I y)] w (AQ (Dt x y) w):=by
 have s1:=NT x;have s2:=NT y;have r1:=Aba x;have r2:=Aba y;have t1:=pE (I x) [45];have t2:=pE (I y) [45];rw [pD]at t1 t2;have c1:=Afy (D x.natAbs) (D y.natAbs);have l1:=hx.len;have l2:=hy.len
 have hcl:(D x.natAbs).length=(D y.natAbs).length→Lib.compareBytes (D x.natAbs) (D y.natAbs)=EO x.natAbs y.natAbs:=fun h=>by
  have:=uR _ _ (C7 x.natAbs) (C7 y.natAbs) h
  rwa [F3,F3]at this
 have k1:(D x.natAbs).length<(D y.natAbs).length→x.natAbs<y.natAbs:=pY;have k2:(D y.natAbs).length<(D x.natAbs).length→y.natAbs<x.natAbs:=pY;have a1:=AaZ x;have a2:=AaZ y;have Ie:=@AaX x y;have hlt2:=@AaX y x;obtain⟨s,hs⟩:=AcG (Fb x);obtain⟨t,ht⟩:=AcG (Fb y);rw [←hs]at s1 r1 a1 Ie hlt2;rw [←ht]at s2 r2 a2 Ie hlt2;clear hs ht
 rcases Int.lt_trichotomy s t with h|h|h
 ·have HR:=Asb (uO (Ie h));have hne:(s != t)=true:=(by rw [bne_iff_ne];omega);clear a1 a2 Ie hlt2 t1 t2 c1 hcl k1 k2;go_enter Tryz.func76,Tryz.ntmps76;(go_wp2_with fail);(with_reducible refine(s1 _).mono ?_);rintro e w1 ⟨rfl,hx1⟩;(go_wp2_with fail);(with_reducible refine(s2 _).mono ?_);rintro e w2 ⟨rfl,hx2⟩;go_wp2;go_ret;exact⟨DJ HR.out,hx1.trans hx2⟩
 ·subst h;have hne:(s != s)=false:=by simp
  have P4:(D y.natAbs).length<=4001:=by
   rcases Ed y with⟨n,rfl,e⟩|⟨n,hn,rfl,e⟩
   ·rw [e]at l2;simpa using l2
   ·rw [e,List.length_cons]at l2;rw [show (-(n:Int)).natAbs=n by omega];omega
  have Lc:(D x.natAbs).length<=4001:=by
   rcases Ed x with⟨n,rfl,e⟩|⟨n,hn,rfl,e⟩
   ·rw [e]at l1;simpa using l1
   ·rw [e,List.length_cons]at l1;rw [show (-(n:Int)).natAbs=n by omega];omega
  obtain⟨cb,hcb⟩:=AcG (Lib.compareBytes (D x.natAbs) (D y.natAbs));rw [←hcb]at c1 hcl;have U4:s=0∨s=1∨s = -1:=by omega
  have hcm:∀{m n:Nat},x=s*m→y=s*n→s*EO m n=Dt x y:=by
   intro m n e1 e2;rw [e1,e2]
   rcases U4 with rfl|rfl|rfl
   ·simp [Dt]
   ·unfold EO Dt;simp only [Int.one_mul];split<;>split<;>(try split)<;>omega
   ·unfold EO Dt;split<;>split<;>(try split)<;>(try split)<;>omega
  have HC:=Asb (@hcm x.natAbs y.natAbs a1.symm a2.symm);obtain⟨A,hA⟩:=AcG (D x.natAbs);obtain⟨B,hB⟩:=AcG (D y.natAbs);rw [←hA]at t1 c1 hcl k1 k2 Lc;rw [←hB]at t2 c1 hcl k1 k2 P4
  rcases Nat.lt_trichotomy A.length B.length with hl|hl|hl
  ·have hk:=k1 hl
   have HR:Hid (Dt x y=IntKind.i64.wrap (-s)):=Asb (by
    rw [←HC.out,MZ hk,Asm (-s) (by omega)];omega)
   have rx:IntKind.i64.wrap (-s) = -s:=Asm _ (by omega);have IB:((A.length:Int) != (B.length:Int))=true:=(by rw [bne_iff_ne];omega);have hR2:Hid (-s=Dt x y):=Asb (by rw [HR.out,rx]);clear a1 a2 Ie hlt2 c1 hcl k1 k2 hcb hA hB HC HR U4 hcm hk l1 l2;go_enter Tryz.func76,Tryz.ntmps76;(go_wp2_with fail);(with_reducible refine(s1 _).mono ?_);rintro e w1 ⟨rfl,hx1⟩;(go_wp2_with fail);(with_reducible refine(s2 _).mono ?_);rintro e w2 ⟨rfl,hx2⟩;(go_wp2_with fail);(with_reducible refine(t1 _).mono ?_);rintro e w3 ⟨rfl,hx3⟩;(go_wp2_with fail);(with_reducible refine(t2 _).mono ?_);rintro e w4 ⟨rfl,Af⟩;go_wp2;go_ret;exact⟨DJ hR2.out.symm,((hx1.trans hx2).trans hx3).trans Af⟩
  ·have hq:=hcl hl;have hcr:-1<=cb/\cb<=1:=by rw [hq];unfold EO;split<;>(try split)<;>omega
   have hsc:-1<=s*cb/\s*cb<=1:=by rcases U4 with rfl|rfl|rfl<;>omega
   have hR2:Hid (s*cb=Dt x y):=Asb (by rw [hq];exact HC.out);have rx:IntKind.i64.wrap (s*cb)=s*cb:=Asm _ (by omega);have IB:((A.length:Int) != (B.length:Int))=false:=(by rw [hl];simp);clear a1 a2 Ie hlt2 hcl k1 k2 hcb hA hB HC U4 hcm hq l1 l2 hsc;have HL:=Asb hl;clear hl;go_enter Tryz.func76,Tryz.ntmps76;(go_wp2_with fail);(with_reducible refine(s1 _).mono ?_);rintro e w1 ⟨rfl,hx1⟩;(go_wp2_with fail);(with_reducible refine(s2 _).mono ?_);rintro e w2 ⟨rfl,hx2⟩;(go_wp2_with fail);(with_reducible refine(t1 _).mono ?_);rintro e w3 ⟨rfl,hx3⟩;(go_wp2_with fail);(with_reducible refine(t2 _).mono ?_);rintro e w4 ⟨rfl,Af⟩;(go_wp2_with fail);(with_reducible refine(c1 _).mono ?_);rintro e w5 ⟨rfl,Ae⟩;go_wp2;go_ret;exact⟨DJ hR2.out.symm,(((hx1.trans hx2).trans hx3).trans Af).trans Ae⟩
  ·have hk:=k2 hl;have hR2:Hid (s=Dt x y):=Asb (by rw [←HC.out,LK hk];omega);have IB:((A.length:Int) != (B.length:Int))=true:=(by rw [bne_iff_ne];omega);have hnl:¬A.length<B.length:=(by omega);clear a1 a2 Ie hlt2 c1 hcl k1 k2 hcb hA hB HC U4 hcm hk l1 l2;go_enter Tryz.func76,Tryz.ntmps76;(go_wp2_with fail);(with_reducible refine(s1 _).mono ?_);rintro e w1 ⟨rfl,hx1⟩;(go_wp2_with fail);(with_reducible refine(s2 _).mono ?_);rintro e w2 ⟨rfl,hx2⟩;(go_wp2_with fail);(with_reducible refine(t1 _).mono ?_);rintro e w3 ⟨rfl,hx3⟩;(go_wp2_with fail);(with_reducible refine(t2 _).mono ?_);rintro e w4 ⟨rfl,Af⟩;go_wp2;go_ret;exact⟨DJ hR2.out.symm,((hx1.trans hx2).trans hx3).trans Af⟩
 ·have HR:=Asb (dT (hlt2 h));have hne:(s != t)=true:=(by rw [bne_iff_ne];omega);have hnl:¬s<t:=(by omega);clear a1 a2 Ie hlt2 t1 t2 c1 hcl k1 k2;go_enter Tryz.func76,Tryz.ntmps76;(go_wp2_with fail);(with_reducible refine(s1 _).mono ?_);rintro e w1 ⟨rfl,hx1⟩;(go_wp2_with fail);(with_reducible refine(s2 _).mono ?_);rintro e w2 ⟨rfl,hx2⟩;go_wp2;go_ret;exact⟨DJ HR.out,hx1.trans hx2⟩
def ZY(z:Int):Value:=if -9223372036854775808<=z/\z<=9223372036854775807 then .tuple #[.int .i64 z,.bool true] else .tuple #[.int .i64 0,.bool false]
theorem AjX(z:Int)(hz:Av z)(w:World)(hw:Ai w):Calls Tryz.prog 187 #[S (I z)] w (Bg (ZY z) w):=by
 by_cases h:-9223372036854775808<=z/\z<=9223372036854775807
 ·have hp:=AlP z h.1 h.2 w;have hq:ZY z=.tuple #[.int .i64 z,.bool true]:=if_pos h;rw [hq];clear hq h;go_enter Tryz.func187,Tryz.ntmps187;(go_wp2_with fail);(with_reducible refine hp.mono ?_);rintro e w1 ⟨rfl,hx1⟩;go_wp2;go_ret2;exact⟨rfl,hx1⟩
 ·have hp:=AlQ z h (by have:=hz.len;omega) w hw;have hq:ZY z=.tuple #[.int .i64 0,.bool false]:=if_neg h;rw [hq];clear hq h;go_enter Tryz.func187,Tryz.ntmps187;(go_wp2_with fail);(with_reducible refine hp.mono ?_);rintro e w1 ⟨n,t,p,rfl,hx1⟩;go_wp2;go_ret2;exact⟨rfl,hx1⟩
/-! ### Check -/
theorem Ae5(s:ByteArray):∀(k i:Nat) (r:List UInt8),s.size-i=k→r.length<=(ByteArray.toList.loop s i r).length:=by
 intro k
 induction k with
 | zero=>intro i r h;unfold ByteArray.toList.loop;rw [if_neg (by omega)];simp
 | succ k ih=>
  intro i r h;unfold ByteArray.toList.loop
  split
  ·have:=ih (i+1) (s.get! i::r) (by omega);simp only [List.length_cons]at this;omega
  ·simp
theorem dI{s:ByteArray}(h:0<s.size):¬s.toList = []:=by
 intro e;unfold ByteArray.toList ByteArray.toList.loop at e;rw [if_pos h]at e;have:=Ae5 s _ 1 [s.get! 0] rfl;rw [show 0+1=1 from rfl]at e;rw [e]at this;simp at this
open Classical in
theorem Afl(t:Bs)(mn:Bool):¬aN t mn↔t = []∨200<t.length∨(∃m,t=48::m/\(m≠[]∨mn=true))∨∃j,∃h:j<t.length,¬G4 t[j]:=by
 constructor
 ·intro h;by_cases h1:t = []
  ·exact .inl h1
  ·by_cases h2:200<t.length
   ·exact .inr (.inl h2)
   ·by_cases h3:∃m,t=48::m/\(m≠[]∨mn=true)
    ·exact .inr (.inr (.inl h3))
    ·refine .inr (.inr (.inr (Classical.byContradiction fun h4=>h ⟨h1,by omega,fun m e=>?_,fun c hc=>?_⟩)))
     ·constructor
      ·exact Classical.byContradiction fun h5=>h3 ⟨m,e,.inl h5⟩
      ·cases mn
       ·rfl
       ·exact absurd ⟨m,e,.inr rfl⟩ h3
     ·obtain⟨j,hj,e⟩:=List.mem_iff_getElem.1 hc;exact Classical.byContradiction fun h5=>h4 ⟨j,hj,by rw [e];exact h5⟩
 ·rintro(h|h|⟨m,e,h⟩|⟨j,hj,h⟩) hc
  ·exact hc.ne h
  ·have:=hc.len;omega
  ·have:=hc.zero m e
   rcases h with h|h
   ·exact h this.1
   ·rw [this.2]at h;cases h
  ·exact h (hc.all _ (Asg hj))
def E8(b:Bool):Int:=if b then 0 else 2
theorem GA:E8 true=0:=rfl
theorem OA:E8 false=2:=rfl
theorem Afd(l:Bs)(ht:Lib.trimPrefix l [45] = [])(w:World):Calls Tryz.prog 134 #[S l] w (AQ 2 w):=by
 have hc:=SY l [45];rw [ht]at hc;go_enter Tryz.func134,Tryz.ntmps134;(go_wp2_with fail);(with_reducible refine(hc _).mono ?_);rintro e w1 ⟨rfl,hx1⟩;go_wp2;go_ret;exact⟨rfl,hx1⟩
theorem Afe(l t:Bs)(ht:Lib.trimPrefix l [45]=t)(h2:200<t.length)(w:World):Calls Tryz.prog 134 #[S l] w (AQ 2 w):=by
 have hc:=SY l [45];rw [ht]at hc;have hne:(t == [])=false:=(by rw [beq_eq_false_iff_ne];rintro rfl;simp at h2);have wY:(200:Int)<(t.length:Int):=(by omega);clear ht;go_enter Tryz.func134,Tryz.ntmps134;(go_wp2_with fail);(with_reducible refine(hc _).mono ?_);rintro e w1 ⟨rfl,hx1⟩;go_wp2;go_ret;exact⟨rfl,hx1⟩
theorem uG(l m:Bs)(mn:Bool)(ht:Lib.trimPrefix l [45]=48::m)(hmn:[45].isPrefixOf l=mn)(h2:(48::m).length<=200)(h3:m≠[]∨mn=true)(w:World):Calls Tryz.prog 134 #[S l] w (AQ 2 w):=by
 have hc:=SY l [45];rw [ht,hmn]at hc;obtain⟨s,hs⟩:=AcG (⟨(48::m).toArray⟩:ByteArray);have hsz:s.size=m.length+1:=(by rw [hs,CN];rfl);obtain⟨c,Ya⟩:=AcG (48:UInt8);have hs0:0<s.size:=(by omega);have e0:s[0]=c:=(by rw [Ya];subst hs;rw [O7];rfl);have hce:((c.toNat:Int) == 48)=true:=(by rw [Ya];rfl);have hsm:(s.size:Int)<=200:=(by simp only [List.length_cons]at h2;omega);have Aro:¬(200:Int)<(s.size:Int):=(by omega);have hc:∀w,Calls Tryz.prog 212 #[S l,S [45]] w (Bg (.tuple #[.string s,.bool mn]) w):=(by rw [hs];exact hc);have hne:=dI hs0
 rcases h3 with h3|h3
 ·have h1:(1:Int)<(s.size:Int):=(by have:=List.length_pos_iff.2 h3;omega);clear ht hmn hs hsz Ya h3;go_enter Tryz.func134,Tryz.ntmps134;(go_wp2_with fail);(with_reducible refine(hc _).mono ?_);rintro e w1 ⟨rfl,hx1⟩;go_wp2;go_ret;exact⟨rfl,hx1⟩
 ·subst h3;clear ht hmn hs Ya
  rcases Nat.lt_or_ge 1 s.size with h1|h1
  all_goals
   go_enter Tryz.func134,Tryz.ntmps134;(go_wp2_with fail);(with_reducible refine(hc _).mono ?_);rintro e w1 ⟨rfl,hx1⟩;go_wp2;go_ret;exact⟨rfl,hx1⟩
theorem Aff(l t:Bs)(mn:Bool)(s:ByteArray)(hc:∀w,Calls Tryz.prog 212 #[S l,S [45]] w (Bg (.tuple #[.string s,.bool mn]) w))(PZ:Hid (s.size=t.length))(hs0:0<s.size)(hsm:(s.size:Int)<=200)
  (HG:Hid (∀(j:Nat) (h:j<s.size) (h':j<t.length),s[j]=t[j])) (c:UInt8) (e0:s[0]=c) (b:Bool) (HB:Hid (b=true↔BP t)) (hf:((c.toNat:Int) == 48)=false) (w:World):Calls Tryz.prog 134 #[S l] w (AQ (E8 b) w):=by
 have hne:=dI hs0
 have IB:s.toList.isEmpty=false:=by cases h:s.toList with|nil=>exact absurd h hne|cons _ _=>rfl
 have iS:decide ((200:Int)<(s.size:Int))=false:=(by rw [decide_eq_false_iff_not];omega);go_enter Tryz.func134,Tryz.ntmps134;(go_wp2_with fail);(with_reducible refine(hc _).mono ?_);rintro e w1 ⟨rfl,hx1⟩;go_wp2;clear hc hne IB iS hf e0
 go_loop [33] (fun i=>∃j:Nat,j<=s.size/\i=.int .i64 (j:Nat)/\BP (t.take j)) (fun i=>s.size-(intOf i).toNat)
 case atStart=>exact⟨0,by omega,rfl,by simp [sN]⟩
 case round=>
  obtain⟨j,hj,rfl,hall⟩:=hrel;by_cases hlt:j<s.size
  ·have Pi:j<t.length:=(by rw [←PZ.out];exact hlt);obtain⟨d,hd⟩:∃d,s[j]=d:=⟨_,rfl⟩;have N6:t[j]=d:=(by rw [←hd,HG.out j hlt Pi]);have HD:=Asb N6;clear N6;by_cases Gr:G4 d
   ·have d1:=Gr.1;have d2:=Gr.2;have c1:¬(d.toNat:Int)<48:=(by omega);have c2:¬(57:Int)<(d.toNat:Int):=(by omega);clear d1 d2;go_wp2
    go_round
    case rel=>exact⟨j+1,by omega,by go_num,by rw [Asi Pi,HD.out];exact Qk.2 ⟨hall,by intro x hx;simp only [Ass]at hx;rw [hx];exact Gr⟩⟩
    case measure=>simp [intOf];omega
   ·have GG:b=false:=by
     cases b
     ·rfl
     ·exact absurd (HB.out.1 rfl _ (Asg Pi)) (by rw [HD.out];exact Gr)
    subst GG;rw [OA];by_cases c1:(d.toNat:Int)<48
    ·go_wp2;go_ret;exact⟨rfl,hx1⟩
    ·have c2:(57:Int)<(d.toNat:Int):=by refine Classical.byContradiction fun h=>Gr ⟨by omega,by omega⟩
     go_wp2;go_ret;exact⟨rfl,hx1⟩
  ·have LW:b=true:=HB.out.2 (by rw [Aso (by rw [←PZ.out];omega)]at hall;exact hall);subst LW;rw [GA];have hle:(s.size:Int)<=(j:Int):=(by omega);go_wp2;go_ret;exact⟨rfl,hx1⟩
theorem Afg(l t:Bs)(mn:Bool)(s:ByteArray)(hc:∀w,Calls Tryz.prog 212 #[S l,S [45]] w (Bg (.tuple #[.string s,.bool mn]) w))(PZ:Hid (s.size=t.length))(hs0:0<s.size)(hsm:(s.size:Int)<=200)
  (HG:Hid (∀(j:Nat) (h:j<s.size) (h':j<t.length),s[j]=t[j])) (c:UInt8) (e0:s[0]=c) (b:Bool) (HB:Hid (b=true↔BP t)) (hf:((c.toNat:Int) == 48)=true) (hs1:s.size=1) (hmn:mn=false) (w:World):Calls Tryz.prog 134 #[S l] w (AQ (E8 b) w):=by
 have hne:=dI hs0
 have IB:s.toList.isEmpty=false:=by cases h:s.toList with|nil=>exact absurd h hne|cons _ _=>rfl
 have iS:decide ((200:Int)<(s.size:Int))=false:=(by rw [decide_eq_false_iff_not];omega);have h1:decide ((1:Int)<(s.size:Int))=false:=(by rw [decide_eq_false_iff_not];omega);subst hmn;clear hs1;go_enter Tryz.func134,Tryz.ntmps134;(go_wp2_with fail);(with_reducible refine(hc _).mono ?_);rintro e w1 ⟨rfl,hx1⟩;go_wp2;clear hc hne IB iS hf e0
 go_loop [33] (fun i=>∃j:Nat,j<=s.size/\i=.int .i64 (j:Nat)/\BP (t.take j)) (fun i=>s.size-(intOf i).toNat)
 case atStart=>exact⟨0,by omega,rfl,by simp [sN]⟩
 case round=>
  obtain⟨j,hj,rfl,hall⟩:=hrel;by_cases hlt:j<s.size
  ·have Pi:j<t.length:=(by rw [←PZ.out];exact hlt);obtain⟨d,hd⟩:∃d,s[j]=d:=⟨_,rfl⟩;have N6:t[j]=d:=(by rw [←hd,HG.out j hlt Pi]);have HD:=Asb N6;clear N6;by_cases Gr:G4 d
   ·have d1:=Gr.1;have d2:=Gr.2;have c1:¬(d.toNat:Int)<48:=(by omega);have c2:¬(57:Int)<(d.toNat:Int):=(by omega);clear d1 d2;go_wp2
    go_round
    case rel=>exact⟨j+1,by omega,by go_num,by rw [Asi Pi,HD.out];exact Qk.2 ⟨hall,by intro x hx;simp only [Ass]at hx;rw [hx];exact Gr⟩⟩
    case measure=>simp [intOf];omega
   ·have GG:b=false:=by
     cases b
     ·rfl
     ·exact absurd (HB.out.1 rfl _ (Asg Pi)) (by rw [HD.out];exact Gr)
    subst GG;rw [OA];by_cases c1:(d.toNat:Int)<48
    ·go_wp2;go_ret;exact⟨rfl,hx1⟩
    ·have c2:(57:Int)<(d.toNat:Int):=by refine Classical.byContradiction fun h=>Gr ⟨by omega,by omega⟩
     go_wp2;go_ret;exact⟨rfl,hx1⟩
  ·have LW:b=true:=HB.out.2 (by rw [Aso (by rw [←PZ.out];omega)]at hall;exact hall);subst LW;rw [GA];have hle:(s.size:Int)<=(j:Int):=(by omega);go_wp2;go_ret;exact⟨rfl,hx1⟩
theorem uF(l t:Bs)(mn:Bool)(ht:Lib.trimPrefix l [45]=t)(hmn:[45].isPrefixOf l=mn)(h0:t≠[])(h2:t.length<=200)(h3:∀m,t=48::m→m = []/\mn=false)
  (b:Bool) (hb:b=true↔BP t) (w:World):Calls Tryz.prog 134 #[S l] w (AQ (E8 b) w):=by
 have hc0:=SY l [45];rw [ht,hmn]at hc0;obtain⟨s,hs⟩:=AcG (⟨t.toArray⟩:ByteArray);have hsz:s.size=t.length:=(by rw [hs,CN]);have hs0:0<s.size:=by have:=List.length_pos_iff.2 h0;omega
 have Db:∀(j:Nat) (h:j<s.size) (h':j<t.length),s[j]=t[j]:=by intro j h h';subst hs;rw [O7];simp [List.getD,h']
 have hsm:(s.size:Int)<=200:=(by omega);have hc:∀w,Calls Tryz.prog 212 #[S l,S [45]] w (Bg (.tuple #[.string s,.bool mn]) w):=(by rw [hs];exact hc0);clear hc0;by_cases h:s[0]=48
 ·match t,h0,Db,h3,hsz,hb with
  | d::m,_,Db,h3,hsz,hb=>have:=Db 0 hs0 (by simp);rw [h]at this;simp only [List.getElem_cons_zero]at this;obtain⟨hm,hf⟩:=h3 m (by rw [this]);exact Afg l _ mn s hc (Asb hsz) hs0 hsm (Asb Db) _ rfl b (Asb hb) (by rw [h];rfl) (by rw [hsz,hm];rfl) hf w
 ·refine Aff l _ mn s hc (Asb hsz) hs0 hsm (Asb Db) _ rfl b (Asb hb) ?_ w;rw [beq_eq_false_iff_ne];intro e;exact h (UInt8.toNat_inj.1 (by simp;omega))
open Classical in
theorem UN(l:Bs)(w:World):Calls Tryz.prog 134 #[S l] w (AQ (if LA l then 0 else 2) w):=by
 by_cases h:aN (Lib.trimPrefix l [45]) ([45].isPrefixOf l)
 ·rw [if_pos ((uJ l).2 h)];exact uF l _ _ rfl rfl h.ne h.len h.zero true ⟨fun _=>h.all,fun _=>rfl⟩ w
 ·rw [if_neg (fun k=>h ((uJ l).1 k))];by_cases h1:Lib.trimPrefix l [45] = []
  ·exact Afd l h1 w
  ·by_cases h2:200<(Lib.trimPrefix l [45]).length
   ·exact Afe l _ rfl h2 w
   ·rcases(Afl _ _).1 h with h3|h3|⟨m,e,h3⟩|⟨j,hj,h3⟩
    ·exact absurd h3 h1
    ·exact absurd h3 h2
    ·exact uG l m _ e rfl (by rw [←e];omega) h3 w
    ·by_cases h4:∀m,Lib.trimPrefix l [45]=48::m→m = []/\[45].isPrefixOf l=false
     ·exact uF l _ _ rfl rfl h1 (by omega) h4 false (Iff.intro (fun k=>by cases k) (fun k=>absurd (k _ (Asg hj)) h3)) w
     ·obtain⟨m,e⟩:∃m,Lib.trimPrefix l [45]=48::m/\(m≠[]∨[45].isPrefixOf l=true):=by
       refine Classical.byContradiction fun k=>h4 fun m e=>?_;constructor
       ·exact Classical.byContradiction fun q=>k ⟨m,e,.inl q⟩
       ·rcases hq:[45].isPrefixOf l with _|_
        ·rfl
        ·exact absurd ⟨m,e,.inr hq⟩ k
      exact uG l m _ e.1 rfl (by rw [←e.1];omega) e.2 w
section
theorem Aay(n:Int)(d:Nat)(hd:0<d)(Df:-9000000000000000000<=n)(DZ:n<=9000000000000000000)(C3:d<=9000000000000000000)(w:World)(hw:Ai w) :
  Calls Tryz.prog 139 #[.int .i64 n,.int .i64 (d:Nat)] w (A0 (R (mkRat n d)) w):=by
 obtain⟨g,hg⟩:=AcG (Nat.gcd n.natAbs d);have hg0:0<g:=(by rw [hg];exact Nat.gcd_pos_of_pos_right _ hd);obtain⟨n',hn'⟩:=AcG (n/(g:Nat):Int);obtain⟨d',DY⟩:=AcG (d/g:Nat);have hR:R (mkRat n d)=EQ n' d':=(by rw [Qe n hd,←hg,←hn',←DY]);have hgn:((g:Nat):Int)∣n:=Int.natAbs_dvd_natAbs.1 (by rw [Ash,hg];exact Nat.gcd_dvd_left ..);have e1:n.tdiv (g:Int)=n':=(by rw [hn',Int.tdiv_eq_ediv_of_dvd hgn]);have e2:(d:Int)/(g:Int)=(d':Int):=(by rw [DY];simp);have b1:n'.natAbs<=n.natAbs:=(by rw [hn'];exact P8 _ _ hgn);have b2:d'<=d:=(by rw [DY];exact Nat.div_le_self _ _);have hgd:g<=d:=(by rw [hg];exact Nat.gcd_le_right _ hd);have ln:(I n').length<=20:=G3 (z:=n') (k:=19) (by omega) (by omega);have ld:(D d').length<=19:=Ck (by omega) (by omega);have HR:=Asb hR;have HG:=Asb hg;have H1:=Asb e1;have H2:=Asb e2;have i1:=fun W hW=>J0 n' (by omega) (by omega) W hW;have i2:=fun W hW=>J0 (d':Int) (by omega) (by omega) W hW;clear hR hg e1 e2 hn' DY hgn;go_enter Tryz.func139,Tryz.ntmps139;go_wp2
 go_loopw [5,6] (fun x y wr=>∃a b:Int,x=.int .i64 a/\y=.int .i64 b/\Int.gcd a b=g/\a.natAbs<=9000000000000000000/\b.natAbs<=9000000000000000000/\Aa w wr) (fun _ y _=>(intOf y).natAbs)
 case atStart=>exact⟨n,d,rfl,rfl,by rw [HG.out];rfl,by omega,by omega,Aa.refl _⟩
 case round=>
  obtain⟨a,b,rfl,rfl,DC,ha,hb,Ac⟩:=hrel;by_cases hb0:b=0
  ·subst hb0;have N8:a.natAbs=g:=(by rw [←DC];simp);by_cases GI:a<0
   case' pos=>obtain rfl:a = -(g:Int):=by omega
   case' neg=>obtain rfl:a=(g:Int):=by omega
   all_goals
    clear N8 DC;have e1:=H1.out;have e2:=H2.out;have QM:(0:Int)<(g:Int):=(by omega);have jM:((g:Int) == 0)=false:=(by rw [beq_eq_false_iff_ne];omega);by_cases CU:d'=1
    ·subst CU;have HF:Hid (R (mkRat n d)=I n'):=Asb (by rw [HR.out];rfl);(go_wp2_with fail)
     go_quiet (fail)
     (go_wp2_with fail);(with_reducible refine(i1 _ (hw.ext (Ac.drewN _))).mono ?_);rintro e w3 ⟨rfl,hx3⟩;go_wp2;go_ret;exact⟨Ch (by rw [HF.out]),(Ac.drewN _).trans hx3⟩
    ·have HF:Hid (R (mkRat n d)=I n'++47::D d'):=Asb (by rw [HR.out];exact if_neg CU);have TR:((d':Int) == 1)=false:=(by rw [beq_eq_false_iff_ne];omega);rw [Ci]at i2;clear CU;(go_wp2_with fail)
     go_quiet (fail)
     (go_wp2_with fail);(with_reducible refine(i1 _ (hw.ext (Ac.drewN _))).mono ?_);rintro e w3 ⟨rfl,hx3⟩;have hx3:=(Ac.drewN _).trans hx3;(go_wp2_with fail);(with_reducible refine(i2 _ (hw.ext hx3)).mono ?_);rintro e w4 ⟨rfl,Af⟩;go_wp2;go_ret;exact⟨Ch (by rw [HF.out];apply ByteArray.ext;simp),hx3.trans Af⟩
  ·have hlt:=xx a hb0;have QQ:(a.tmod b).natAbs<=9000000000000000000:=Asq (Nat.le_of_lt hlt) hb;have Dc:=wU a b;have I7:(b != 0)=true:=(by rw [bne_iff_ne];exact hb0);have Bu:(b == 0)=false:=(by rw [beq_eq_false_iff_ne];exact hb0);have JC:=Asb (Dc.trans DC);clear Dc DC;(go_wp2_with fail)
   go_quiet (fail)
   go_wp2;go_roundw
   case rel=>exact⟨b,a.tmod b,rfl,rfl,JC.out,hb,QQ,Ac.drewN _⟩
   case measure=>exact hlt
theorem SI(l:Bs)(j:Nat)(h:j<(⟨l.toArray⟩:ByteArray).size):(⟨l.toArray⟩:ByteArray)[j]=l[j]'(by rw [CN]at h;exact h):=by
 rw [ByteArray.getElem_eq_getElem_data];simp
attribute [local go_sem] SI
def AN(q:Rat):Int:=if q=0 then 0 else if q<0 then -1 else 1
theorem AaV{q:Rat}(h:q<0):AN q = -1:=by unfold AN;rw [if_neg (by rintro rfl;exact Rat.lt_irrefl h),if_pos h]
theorem ZT{q:Rat}(h:0<q):AN q=1:=by
 unfold AN;rw [if_neg (by rintro rfl;exact Rat.lt_irrefl h),if_neg (by grind)]
theorem D4{q:Rat}(h:q≠0):(R q == [48])=false:=by rw [beq_eq_false_iff_ne];exact fun e=>h (AdK.1 e)
theorem O2{q:Rat}(h:q≠1):(R q == [49])=false:=by rw [beq_eq_false_iff_ne];exact fun e=>h (AdJ.1 e)
theorem Hv{k:Nat}{q:Rat}(hk:0<k)(h:Sz k q):(R q).length<=2*k+2:=by
 have h1:=G3 hk h.num;have h2:=Ck hk h.den;rw [LC];unfold EQ
 split
 ·omega
 ·rw [List.length_append,List.length_cons];omega
theorem Lo(q:Rat)(w:World):Calls Tryz.prog 64 #[S (R q)] w (AQ (AN q) w):=by
 by_cases h0:q=0
 ·subst h0;rw [G7];go_enter Tryz.func64,Tryz.ntmps64;go_wp2;go_ret;exact⟨rfl,Aa.refl _⟩
 ·have h1:=D4 h0
  rcases Wq q with⟨hn,e⟩|⟨hp,c,l,e,hd,hc⟩
  ·have HS:=Asb (AaV hn);obtain⟨c,hc⟩:=AcG (45:UInt8);have hl:0<(R q).length:=(by rw [e];simp);have hg:(R q)[0]'hl=c:=(by rw [List.getElem_of_eq e hl,hc];rfl);have hcb:((c.toNat:Int) == 45)=true:=(by rw [hc];rfl);clear e hc hn;go_enter Tryz.func64,Tryz.ntmps64;go_wp2;go_ret;exact⟨DJ HS.out,Aa.refl _⟩
  ·have HS:=Asb (ZT (q:=q) (by grind));have hl:0<(R q).length:=(by rw [e];simp);have hg:(R q)[0]'hl=c:=(by rw [List.getElem_of_eq e hl];rfl);have hcb:((c.toNat:Int) == 45)=false:=(by rw [beq_eq_false_iff_ne];intro k;exact hc (UInt8.toNat_inj.1 (by simp;omega)));clear e hc hp hd;go_enter Tryz.func64,Tryz.ntmps64;go_wp2;go_ret;exact⟨DJ HS.out,Aa.refl _⟩
theorem Vt(q:Rat){k:Nat}(hk:0<k)(hk2:k<=100000)(hz:Sz k q)(w:World):Calls Tryz.prog 73 #[S (R q)] w (A0 (R (-q)) w):=by
 have hlen:=Hv hk hz;by_cases h0:q=0
 ·subst h0;rw [Rat.neg_zero,G7];go_enter Tryz.func73,Tryz.ntmps73;go_wp2;go_ret;exact⟨rfl,Aa.refl _⟩
 ·have h1:=D4 h0
  rcases Wq q with⟨hn,e⟩|⟨hp,c,l,e,hd,hc⟩
  ·obtain⟨c,hc⟩:=AcG (45:UInt8);have hl:0<(R q).length:=(by rw [e];simp);have hg:(R q)[0]'hl=c:=(by rw [List.getElem_of_eq e hl,hc];rfl);have hcb:((c.toNat:Int) == 45)=true:=(by rw [hc];rfl);have HD:Hid ((R q).drop 1=R (-q)):=Asb (by rw [e];rfl);have CU:(1:Int)<=((R q).length:Int):=(by omega);clear e hc hn;go_enter Tryz.func73,Tryz.ntmps73;go_wp2;go_ret;exact⟨Ch (by rw [←HD.out];first|exact Tc _ _|(rw [OG];simp)),Aa.refl _⟩
  ·have HD:Hid (R (-q)=45::R q):=Asb (by
    have:=cK (q:=-q) (by grind)
    rw [this,Rat.neg_neg])
   have hl:0<(R q).length:=(by rw [e];simp);have hg:(R q)[0]'hl=c:=(by rw [List.getElem_of_eq e hl];rfl);have hcb:((c.toNat:Int) == 45)=false:=(by rw [beq_eq_false_iff_ne];intro k;exact hc (UInt8.toNat_inj.1 (by simp;omega)));clear e hc hp hd;go_enter Tryz.func73,Tryz.ntmps73;go_wp2;go_ret;exact⟨Ch (by rw [HD.out];apply ByteArray.ext;simp),Aa.refl _⟩
theorem Am7(n:Int)(d:Nat)(hn:Av n)(hd:d<Big)(w:World):Calls Tryz.prog 137 #[S (I n),S (D d)] w (A0 (EQ n d) w):=by
 have ln:=hn.len;have ld:(D d).length<=4000:=Ck (k:=WH) (by decide) hd;by_cases h:d=1
 ·subst h;have HF:Hid (EQ n 1=I n):=Asb (if_pos rfl);rw [MD];go_enter Tryz.func137,Tryz.ntmps137;go_wp2;go_ret;exact⟨Ch (by rw [HF.out]),Aa.refl _⟩
 ·have HF:Hid (EQ n d=I n++47::D d):=Asb (if_neg h);have hb:(D d == [49])=false:=(by rw [beq_eq_false_iff_ne,←MD];exact fun e=>h (Ot e));clear h;go_enter Tryz.func137,Tryz.ntmps137;go_wp2;go_ret;exact⟨Ch (by rw [HF.out];apply ByteArray.ext;simp),Aa.refl _⟩
def Rz(q:Rat):Value:=.tuple #[S (I q.num),S (D q.den)]
theorem Aax(q:Rat){k:Nat}(hk:0<k)(hk2:k<=100000)(hz:Sz k q)(w:World)(hw:Ai w):Calls Tryz.prog 136 #[S (R q)] w (Bg (Rz q) w):=by
 have hlen:=Hv hk hz;have hc:=cut_c (R q) [47] w hw (by omega);rw [Wo]at hc;by_cases h:q.den=1
 ·rw [if_pos h]at hc;have HP:Hid (Rz q=.tuple #[S (I q.num),S [49]]):=Asb (by unfold Rz;rw [h,MD]);clear h;go_enter Tryz.func136,Tryz.ntmps136;(go_wp2_with fail);(with_reducible refine hc.mono ?_);rintro e w1 ⟨rfl,hx1⟩;go_wp2;go_ret2;exact⟨J6 HP.out,hx1⟩
 ·rw [if_neg h]at hc;have HP:Hid (Rz q=.tuple #[S (I q.num),S (D q.den)]):=Asb rfl;clear h;go_enter Tryz.func136,Tryz.ntmps136;(go_wp2_with fail);(with_reducible refine hc.mono ?_);rintro e w1 ⟨rfl,hx1⟩;go_wp2;go_ret2;exact⟨J6 HP.out,hx1⟩
end
theorem ZG(n m:Int)(hm:0<m)(hn:Av n)(hd:Av m)(w:World):Calls Tryz.prog 137 #[S (I n),S (I m)] w (A0 (EQ n m.toNat) w):=by
 obtain⟨d,rfl⟩:=Int.eq_ofNat_of_zero_le (Int.le_of_lt hm);rw [Ci];exact Am7 n d hn hd w
theorem un(x y:Int)(hx:Av x)(hy:Av y)(w:World)(hw:Ai w):Calls Tryz.prog 135 #[S (I x),S (I y)] w (A0 (I (Int.gcd x y:Nat)) w):=by
 rw [Ci];exact AjS x y hx hy w hw
theorem Vs(n m:Int)(hn:Av n)(hm:Av m)(hm0:0<m)(w:World)(hw:Ai w):Calls Tryz.prog 140 #[S (I n),S (I m)] w (A0 (R (mkRat n m.toNat)) w):=by
 have hs:=NT m;rw [RU hm0]at hs;have hg:=un n m hn hm;obtain⟨g,hgd⟩:=AcG (Int.gcd n m);have hR:=Qe n (d:=m.toNat) (by omega);have e0:Nat.gcd n.natAbs m.toNat=g:=(by rw [hgd];unfold Int.gcd;rw [show m.natAbs=m.toNat by omega]);rw [e0]at hR;have hg0:0<g:=(by rw [←e0];exact Nat.gcd_pos_of_pos_right _ (by omega));have hgb:g<=m.toNat:=(by rw [←e0];exact Nat.gcd_le_right _ (by omega));have hgn:((g:Nat):Int)∣n:=Int.natAbs_dvd_natAbs.1 (by rw [Ash,←e0];exact Nat.gcd_dvd_left ..);have JZ:((g:Nat):Int)∣m:=Int.natAbs_dvd_natAbs.1 (by rw [Ash,←e0,show m.natAbs=m.toNat by omega];exact Nat.gcd_dvd_right ..);rw [←hgd]at hg;have bg:Av (g:Int):=(by unfold Av at hm ⊢;rw [Ash];omega);by_cases h1:g=1
 ·have hj:=ZG n m hm0 hn hm;have HR:Hid (R (mkRat n m.toNat)=EQ n m.toNat):=Asb (by rw [hR,h1];simp);subst h1;rw [show I ((1:Nat):Int) = [49] from MK]at hg;clear hR e0 hgd hgn JZ;go_enter Tryz.func140,Tryz.ntmps140;(go_wp2_with fail);(with_reducible refine(hs _).mono ?_);rintro e w1 ⟨rfl,hx⟩;(go_wp2_with fail);(with_reducible refine(hg _ (hw.ext hx)).mono ?_);rintro e w2 ⟨rfl,hx2⟩;replace hx:=hx.trans hx2;(go_wp2_with fail);(with_reducible refine(hj _).mono ?_);rintro e w3 ⟨rfl,hx3⟩;replace hx:=hx.trans hx3;go_wp2;go_ret;exact⟨Ch (by rw [HR.out]),hx⟩
 ·have Aqv:(I (g:Int) == [49])=false:=rQ (by omega);have d1:=Zb n g hn bg (by omega);have d2:=Zb m g hm bg (by omega);have bn:Av (n/(g:Int)):=Nat.lt_of_le_of_lt (P8 _ _ hgn) hn;have bm:Av (m/(g:Int)):=Nat.lt_of_le_of_lt (P8 _ _ JZ) hm
  have hmg:0<m/(g:Int):=by obtain⟨k,hk⟩:=JZ;rw [hk,Int.mul_ediv_cancel_left _ (by omega)];rw [hk]at hm0;exact Int.pos_of_mul_pos_right hm0 (by omega)
  have hj:=ZG (n/(g:Int)) (m/(g:Int)) hmg bn bm
  have HR:Hid (R (mkRat n m.toNat)=EQ (n/(g:Int)) (m/(g:Int)).toNat):=Asb (by
   rw [hR];obtain⟨d,rfl⟩:=Int.eq_ofNat_of_zero_le (Int.le_of_lt hm0)
   congr 1)
  clear hR e0 hgd hgn JZ h1;unfold OF at d1 d2;go_enter Tryz.func140,Tryz.ntmps140;(go_wp2_with fail);(with_reducible refine(hs _).mono ?_);rintro e w1 ⟨rfl,hx⟩;(go_wp2_with fail);(with_reducible refine(hg _ (hw.ext hx)).mono ?_);rintro e w2 ⟨rfl,hx2⟩;replace hx:=hx.trans hx2;(go_wp2_with fail);(with_reducible refine(d1 _ (hw.ext hx)).mono ?_);rintro e w3 ⟨rfl,hx3⟩;replace hx:=hx.trans hx3;(go_wp2_with fail);(with_reducible refine(d2 _ (hw.ext hx)).mono ?_);rintro e w4 ⟨rfl,Af⟩;replace hx:=hx.trans Af;(go_wp2_with fail);(with_reducible refine(hj _).mono ?_);rintro e w5 ⟨rfl,Ae⟩;replace hx:=hx.trans Ae;go_wp2;go_ret;exact⟨Ch (by rw [HR.out]),hx⟩
end Go.Proofs.YtdaefncphfeaeaaGreatDoor
