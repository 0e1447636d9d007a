/- Z20: E7 E8 E9. -/
import Derived.Test.YtdaefncphfeaeaaGreatDoorZ10
import Derived.Test.YtdaefncphfeaeaaGreatDoorZ19
set_option maxRecDepth 100000
set_option maxHeartbeats 4000000
namespace Go.Proofs.YtdaefncphfeaeaaGreatDoor
open Go.RowKit Kl
section
attribute [local go_sem] SI
theorem Ack(n:Nat):∃(c:UInt8) (l:Bs),D n=c::l/\((c.toNat:Int) == 45)=false:=by
 match hd:D n,IX n with
 | c::r,_=>have:=C7 n c (by rw [hd];simp);refine⟨c,r,rfl,?_⟩;rw [beq_eq_false_iff_ne];have:=this.1;omega
theorem J5(z:Int)(m:Bool)(n:Nat)(hm:m=decide (z<0))(hn:n=z.natAbs)(hl:(D n).length<=100000)(w:World):Calls Tryz.prog 104 #[S (I z)] w (Bg (.tuple #[.bool m,S (D n)]) w):=by
 rcases Ed z with⟨k,rfl,e⟩|⟨k,hk,rfl,e⟩
 ·obtain rfl:n=k:=(by omega);have FR:m=false:=(by rw [hm];exact decide_eq_false (by omega));subst FR;obtain⟨c,r,e1,hc⟩:=Ack n;rw [e];have h0:0<(D n).length:=(by rw [e1];simp);have hg:(D n)[0]'h0=c:=(by rw [List.getElem_of_eq e1 h0];rfl);have CU:(0:Int)<((D n).length:Int):=(by omega);clear e1 e hm hn;go_enter Tryz.func104,Tryz.ntmps104;go_wp2;go_ret2;exact⟨rfl,Aa.refl _⟩
 ·obtain rfl:n=k:=(by omega);have FR:m=true:=(by rw [hm];exact decide_eq_true (by omega));subst FR;rw [e];obtain⟨t,ht⟩:∃t,45::D n=t:=⟨_,rfl⟩;have HD:Hid (t.drop 1=D n):=Asb (by rw [←ht];rfl);obtain⟨c,hc⟩:=AcG (45:UInt8);have h0:0<t.length:=(by rw [←ht];simp);have hg:t[0]'h0=c:=(by subst ht;rw [hc];rfl);have hcb:((c.toNat:Int) == 45)=true:=(by rw [hc];rfl);have CU:(1:Int)<=(t.length:Int):=(by omega);have hl2:(0:Int)<(t.length:Int):=(by omega);have hl3:t.length<=100001:=(by rw [←ht];simp;omega);rw [ht];clear ht hc hm hn e;go_enter Tryz.func104,Tryz.ntmps104;(go_wp2_with fail)
  go_quiet (fail)
  go_wp2;go_ret2;refine⟨?_,(Aa.refl _).drewN _⟩;rw [←HD.out]
  first|rfl|(rw [Tc];rfl)|(rw [OG];simp)
theorem AaH{a b:Int}{v:Value}(h:a=b):Ending.returned (.tuple #[.int .i64 a,v])=.returned (.tuple #[.int .i64 b,v]):=by rw [h]
/-! ### Small, brief -/
theorem Ao4(d:Nat)(h:d<10):(-9223372036854775808+(d:Int)).tdiv 10 < -900000000000000000/\-1000000000000000000<(-9223372036854775808+(d:Int)).tdiv 10:=by
 have e:(-9223372036854775808+(d:Int)) = -((9223372036854775808-d:Nat):Int):=(by omega);rw [e,Int.neg_tdiv,Int.tdiv_eq_ediv_of_nonneg (by omega)];omega
theorem AoR(l:Bs)(i:Nat)(h:i<l.length):val (l.take (i+1))=val (l.take i)*10+dv (l[i]):=by
 rw [Asi h,VJ]
theorem oG(z:Int)(hl:(D z.natAbs).length<=17)(w:World):Calls Tryz.prog 109 #[S (I z)] w (Bg (.tuple #[.int .i64 z,.bool true]) w):=by
 obtain⟨n,hn⟩:=AcG z.natAbs;rw [←hn]at hl;obtain⟨m,hm⟩:=AcG (decide (z<0));have sp:=J5 z m n hm hn (by omega);have ha:=C7 n;have hv:=F3 n;obtain⟨l,EX⟩:=AcG (D n);rw [←EX]at sp ha hv hl;have HA:=Asb ha;have HV:=Asb hv;have HM:=Asb hm;have HN:=Asb hn;have Aq7:(l.length:Int)<=19:=(by omega);clear ha hv hm hn EX;go_enter Tryz.func109,Tryz.ntmps109;(go_wp2_with fail);(with_reducible refine(sp _).mono ?_);rintro e w1 ⟨rfl,hx1⟩;clear sp;go_wp2
 go_loop [6,7] (fun a i=>∃j:Nat,j<=l.length/\i=.int .i64 (j:Nat)/\a=.int .i64 (-((val (l.take j):Nat):Int))) (fun _ i=>l.length-(intOf i).toNat)
 case atStart=>exact⟨0,by omega,rfl,rfl⟩
 case round=>
  obtain⟨j,hj,rfl,rfl⟩:=hrel;have Jz:=GU (SE HA.out j);have Ajg:10^(l.take j).length<=10^17:=Nat.pow_le_pow_right (by omega) (by rw [List.length_take];omega);have e17:(10:Nat)^17=100000000000000000:=(by decide);have qu:val (l.take j)<100000000000000000:=(by omega);clear Jz Ajg e17;by_cases hlt:j<l.length
  ·have Cp:=AoR l j hlt;have hid:=HA.out l[j] (Asg hlt);obtain⟨c,hc⟩:∃c,l[j]=c:=⟨_,rfl⟩;rw [hc]at Cp hid;have d1:=hid.1;have d2:=hid.2;obtain⟨d,hd⟩:=AcG (dv c);rw [←hd]at Cp;have dt:(c.toNat:Int)-48=(d:Int):=(by unfold dv at hd;omega);have N5:d<10:=(by unfold dv at hd;omega);have Gx:=Ao4 d N5;obtain⟨t,ht⟩:∃t,(-9223372036854775808+(d:Int)).tdiv 10=t:=⟨_,rfl⟩;rw [ht]at Gx;obtain⟨Gx,Arr⟩:=Gx;obtain⟨v,rq⟩:=AcG (val (l.take j));rw [←rq]at Cp qu ⊢;have F6:=Asb Cp;have AG:(j:Int)<(l.length:Int):=(by omega);have hnl:¬(-(v:Int))<t:=(by omega);have AqU:decide ((-(v:Int))<t)=false:=decide_eq_false hnl;clear hid hd rq Cp;go_wp2
   go_round
   case rel=>exact⟨j+1,by omega,by go_num,by rw [F6.out];congr 1<;>omega⟩
   case measure=>simp [intOf];omega
  ·obtain rfl:j=l.length:=(by omega);rw [List.take_length,HV.out]at qu ⊢;have hnz:((-(n:Int)) == -9223372036854775808)=false:=(by rw [beq_eq_false_iff_ne];omega);by_cases hz:z<0
   ·have e1:=HM.out;rw [decide_eq_true hz]at e1;subst e1;have HZ:Hid (-(n:Int)=z):=Asb (by have:=HN.out;omega);go_wp2;go_ret2;exact⟨AaH HZ.out,hx1⟩
   ·have e1:=HM.out;rw [decide_eq_false hz]at e1;subst e1;have HZ:Hid ((n:Int)=z):=Asb (by have:=HN.out;omega);go_wp2;go_ret2;exact⟨AaH HZ.out,hx1⟩
theorem RI(z:Int)(hl:(D z.natAbs).length<=17)(w:World):Calls Tryz.prog 103 #[S (I z)] w (Bg (.tuple #[.int .i64 z,.bool true]) w):=by
 have sp:=J5 z (decide (z<0)) z.natAbs rfl rfl (by omega);have sm:=oG z hl;have hl2:((D z.natAbs).length:Int)<=17:=(by omega);generalize decide (z<0)=m at *;generalize D z.natAbs=t at *;clear hl;go_enter Tryz.func103,Tryz.ntmps103;(go_wp2_with fail);(with_reducible refine(sp _).mono ?_);rintro e w1 ⟨rfl,hx1⟩;(go_wp2_with fail);(with_reducible refine(sm _).mono ?_);rintro e w2 ⟨rfl,hx2⟩;go_wp2;go_ret2;exact⟨rfl,hx1.trans hx2⟩
theorem ZJ(z:Int)(hl:17<(D z.natAbs).length)(hl2:(D z.natAbs).length<=100000)(w:World):Calls Tryz.prog 103 #[S (I z)] w (Bg (.tuple #[.int .i64 0,.bool false]) w):=by
 have sp:=J5 z (decide (z<0)) z.natAbs rfl rfl hl2;have hl2:(17:Int)<((D z.natAbs).length:Int):=(by omega);generalize decide (z<0)=m at *;generalize D z.natAbs=t at *;clear hl;go_enter Tryz.func103,Tryz.ntmps103;(go_wp2_with fail);(with_reducible refine(sp _).mono ?_);rintro e w1 ⟨rfl,hx1⟩;go_wp2;go_ret2;exact⟨rfl,hx1⟩
end
section
attribute [local go_sem] SI
theorem PU{m n:Nat}(h:m<=n):(D m).length<=(D n).length:=Ck (Ly n) (Nat.lt_of_le_of_lt h (UT n))
theorem Acj(p:Nat)(hp:p<10000):D (10000+p)=49::pad 4 p:=by
 have h:=aP (k:=4) (h:=1) (x:=p) (by omega) (by omega) (by omega);rw [show 1*10^4+p=10000+p by omega,Ew (show 1<10 by omega)]at h;exact h
theorem Acl(n i p:Nat)(hp:p=n/10000^i%10000)(h:0<n/10000^(i+1)):D (n/10000^i)=D (n/10000^(i+1))++pad 4 p:=by
 have h1:=vI n i;rw [←hp]at h1;have h2:=aP (k:=4) (h:=n/10000^(i+1)) (x:=p) (by omega) h (by rw [hp];omega);rw [←h2]
 congr 1
 omega
theorem AfN{n i L:Nat}(hL:10000^(L-1)<=n)(h:i<=L-1):0<n/10000^i:=
 Nat.div_pos (Asq (Nat.pow_le_pow_right (by omega) h) hL) (Nat.pow_pos (by omega))
theorem AmW(n:Nat)(hl:(D n).length<=20000)(v:Value)(w:World)(hw:Ai w)(hv:RZ w v (zn (pc 10000 n))):Calls Tryz.prog 182 #[v] w (A0 (D n) w):=by
 obtain⟨A,c,rfl,hr⟩:=hv;have BF:=hr.cap;have hmax:=hr.max;have hlen:=hr.len;have Gr:=nL 10000 (by omega);have hlt:=mP (b:=10000) (by omega) n;have Um:=AX (b:=10000) (by omega) n;rw [AW]at BF hlen ⊢;by_cases hn:n=0
 ·subst hn;rw [Fz,Ew (by omega)];go_enter Tryz.func182,Tryz.ntmps182;go_wp2;go_ret;exact⟨rfl,Aa.refl _⟩
 ·have hne:pc 10000 n≠[]:=fun e=>hn ((Mw (by omega)).1 e);have YA:=ZA (b:=10000) (FY (by omega) n) hne;rw [AM (by omega)]at YA;have hL0:0<(pc 10000 n).length:=List.length_pos_iff.2 hne;obtain⟨L,hL⟩:∃L,(pc 10000 n).length=L:=⟨_,rfl⟩;have VQ:Hid (∀i,i<L→Ag (pc 10000 n) i=n/10000^i%10000):=Asb (fun i hi=>Gr i n (by omega))
  have Ml:n/10000^(L-1)%10000=n/10000^(L-1):=by
   refine Nat.mod_eq_of_lt ?_;rw [Nat.div_lt_iff_lt_mul (Nat.pow_pos (by omega)),←Nat.pow_succ'];rw [hL]at hlt
   rwa [show (L-1).succ=L by omega]
  obtain⟨b,o,rfl,hc⟩:=hr.ad (by rw [AW];omega);have Dc:=hc (L-1) (by rw [AW];omega);rw [JI,VQ.out (L-1) (by omega),Ml]at Dc;have hq9:n/10000^(L-1)<10000:=(by rw [←Ml];exact Nat.mod_lt _ (by omega));have HC:=Asb hc;have HL:=Asb hL;rw [hL]at BF hlen YA hL0 ⊢;have HPW:=Asb YA;obtain⟨q,hq⟩:=AcG (n/10000^(L-1));rw [←hq]at Dc hq9;have it:=fun W hW=>J0 (q:Int) (by omega) (by omega) W hW;rw [Ci]at it;have HQ:=Asb hq;have bL:=Asb Um;have hL1:(1:Int)<=(L:Int):=(by omega);clear Gr hlt Um hne YA Ml hc hL hq hn;go_enter Tryz.func182,Tryz.ntmps182;(go_wp2_with fail);(with_reducible refine(it _ hw).mono ?_);rintro e w1 ⟨rfl,hx1⟩;clear it Dc;go_wp2
  go_loopw [3,4] (fun t i wr=>∃z:Int,-1<=z/\z<=(L:Int)-2/\i=.int .i64 z/\t=S (D (n/10000^(z+1).toNat))/\Aa w wr) (fun _ i _=>(intOf i+1).toNat)
  case atStart=>exact⟨(L:Int)-2,by omega,by omega,rfl,by rw [HQ.out,show ((L:Int)-2+1).toNat=L-1 by omega],hx1⟩
  case round=>
   clear hx1;obtain⟨z,hz1,hz2,rfl,rfl,Ac⟩:=hrel;by_cases hz:0<=z
   ·obtain⟨i,rfl⟩:=Int.eq_ofNat_of_zero_le hz;rw [show ((i:Int)+1).toNat=i+1 by omega];have hi:i<L:=(by omega);have hg:=Ac.cellS (HC.out i (by rw [AW,HL.out];exact hi));rw [JI]at hg;have Pb:=VQ.out i hi;obtain⟨p,hp⟩:=AcG (Ag (pc 10000 n) i);have QV:=Cd bL.out (show i<(pc 10000 n).length by rw [HL.out];exact hi);rw [←hp]at hg QV Pb;have Ep:=Acl n i p Pb (AfN HPW.out (by omega));have VW:=Asb Ep;have it:=fun W hW=>J0 ((10000+p:Nat):Int) (by omega) (by omega) W hW;rw [Ci,Acj p QV,Int.natCast_add]at it;have hpl:(pad 4 p).length=4:=mM (by omega) (by omega);have De:(D (n/10000^(i+1))).length<=(D n).length:=PU (Nat.div_le_self _ _);obtain⟨t,ht⟩:=AcG (D (n/10000^(i+1)));rw [←ht]at De VW ⊢;obtain⟨s,hs⟩:∃s,49::pad 4 p=s:=⟨_,rfl⟩;rw [hs]at it;have HSD:Hid (s.drop 1=pad 4 p):=Asb (by rw [←hs];rfl);have Fw:s.length=5:=(by rw [←hs,List.length_cons,hpl]);have hs1:(1:Int)<=(s.length:Int):=(by omega);have hs5:s.length<=5:=(by omega);have Arm:(s.drop 1).length<=5:=(by rw [List.length_drop];omega);have hc1:(((10000:Nat):Int))=10000:=rfl;rw [hc1]at it;clear Pb Ep hp ht hs Fw hpl hc1 hi;(go_wp2_with fail);(with_reducible refine(it _ (hw.ext Ac)).mono ?_);rintro e w2 ⟨rfl,hx2⟩;clear it;go_wp2;go_roundw
    case rel=>
     refine⟨(i:Int)-1,by omega,by omega,rfl,?_,Ac.trans hx2⟩;rw [show ((i:Int)-1+1).toNat=i by omega,VW.out,←HSD.out]
     congr 1
     (apply ByteArray.ext;simp;rw [Aso (by simp)])
    case measure=>simp [intOf]
   ·have hz0:(z+1).toNat=0:=(by omega);rw [hz0];have hz1:z<0:=(by omega);have HD:Hid (D (n/10000^0)=D n):=Asb (by rw [Nat.pow_zero,Nat.div_one]);clear hz0;go_wp2;go_ret;exact⟨Ch (by first|rfl|rw [HD.out]),Ac⟩
/-! ### made -/
def Dp(m:Bool)(n:Nat):Int:=if m then -(n:Int)else n
theorem Lr(m:Bool)(n:Nat)(hl:(D n).length<=20000)(v:Value)(w:World)(hw:Ai w)(hv:RZ w v (zn (pc 10000 n))):Calls Tryz.prog 106 #[.bool m,v] w (A0 (I (Dp m n)) w):=by
 have ct:=ZK (pc 10000 n) v w hv (AX (by omega) n);rw [AM (by omega)]at ct;have gv:=fun v W hW hV=>AmW n hl v W hW hV
 cases m with
 | false=>
  have HI:Hid (I (Dp false n)=D n):=Asb (by unfold Dp;rw [if_neg (by simp),Ci]);go_enter Tryz.func106,Tryz.ntmps106;(go_wp2_with fail);(with_reducible refine ct.mono ?_);rintro e w1 ⟨v1,rfl,Ih,hx1⟩;clear ct;(go_wp2_with fail);(with_reducible refine(gv _ _ (hw.ext hx1) Ih).mono ?_);rintro e w2 ⟨rfl,hx2⟩;go_wp2;go_ret;exact⟨Ch (by rw [HI.out]),hx1.trans hx2⟩
 | true=>
  by_cases hn:n=0
  ·have HI:Hid (I (Dp true n)=D n):=Asb (by subst hn;rfl);have Be:pc 10000 n = []:=(by rw [hn];exact Fz);have HP:=Asb Be;clear Be hn;go_enter Tryz.func106,Tryz.ntmps106;(go_wp2_with fail);(with_reducible refine ct.mono ?_);rintro e w1 ⟨v1,rfl,Ih,hx1⟩;have g1:=gv v1 w1 (hw.ext hx1) Ih;obtain⟨A1,c1,rfl,hz⟩:=Ih;rw [HP.out]at g1 ⊢;clear ct gv;(go_wp2_with fail);(with_reducible refine g1.mono ?_);rintro e w2 ⟨rfl,hx2⟩;go_wp2;go_ret;exact⟨Ch (by rw [HI.out]),hx1.trans hx2⟩
  ·have HI:Hid (I (Dp true n)=45::D n):=Asb (by unfold Dp;rw [if_pos rfl,Qb n (by omega)]);have Be:0<(zn (pc 10000 n)).length:=(by rw [AW];exact List.length_pos_iff.2 (fun e=>hn ((Mw (by omega)).1 e)));clear hn;go_enter Tryz.func106,Tryz.ntmps106;(go_wp2_with fail);(with_reducible refine ct.mono ?_);rintro e w1 ⟨v1,rfl,Ih,hx1⟩;have g1:=gv v1 w1 (hw.ext hx1) Ih;obtain⟨A1,c1,rfl,hz⟩:=Ih;clear ct gv;(go_wp2_with fail);(with_reducible refine g1.mono ?_);rintro e w2 ⟨rfl,hx2⟩;go_wp2;go_ret;exact⟨Ch (by rw [HI.out];apply ByteArray.ext;simp),hx1.trans hx2⟩
/-! ### Sign, Neg, Abs -/
theorem Aa7(z:Int)(hl:(D z.natAbs).length<=100000)(w:World):Calls Tryz.prog 97 #[S (I z)] w (AQ (Fb z) w):=by
 have sp:=J5 z (decide (z<0)) z.natAbs rfl rfl hl;by_cases hn:z<0
 ·rw [decide_eq_true hn]at sp;go_enter Tryz.func97,Tryz.ntmps97;(go_wp2_with fail);(with_reducible refine(sp _).mono ?_);rintro e w1 ⟨rfl,hx1⟩;go_wp2;go_ret;exact⟨DJ (V8 hn),hx1⟩
 ·rw [decide_eq_false hn]at sp;by_cases h0:z=0
  ·subst h0;rw [ML]at sp ⊢;go_enter Tryz.func97,Tryz.ntmps97;(go_wp2_with fail);(with_reducible refine(sp _).mono ?_);rintro e w1 ⟨rfl,hx1⟩;go_wp2;go_ret;exact⟨rfl,hx1⟩
  ·have h1:=MJ h0;have HS:=Asb (RU (z:=z) (by omega));clear h0 hn;go_enter Tryz.func97,Tryz.ntmps97;(go_wp2_with fail);(with_reducible refine(sp _).mono ?_);rintro e w1 ⟨rfl,hx1⟩;go_wp2;go_ret;exact⟨DJ HS.out,hx1⟩
theorem Aa6(z:Int)(hl:(D z.natAbs).length<=100000)(w:World):Calls Tryz.prog 98 #[S (I z)] w (A0 (I (-z)) w):=by
 have sp:=J5 z (decide (z<0)) z.natAbs rfl rfl hl;by_cases hn:z<0
 ·rw [decide_eq_true hn]at sp;have HI:Hid (I (-z)=D z.natAbs):=Asb (by rw [show -z=(z.natAbs:Int)by omega,Ci]);go_enter Tryz.func98,Tryz.ntmps98;(go_wp2_with fail);(with_reducible refine(sp _).mono ?_);rintro e w1 ⟨rfl,hx1⟩;go_wp2;go_ret;exact⟨Ch (by rw [HI.out]),hx1⟩
 ·rw [decide_eq_false hn]at sp;by_cases h0:z=0
  ·subst h0;rw [ML]at sp ⊢;go_enter Tryz.func98,Tryz.ntmps98;(go_wp2_with fail);(with_reducible refine(sp _).mono ?_);rintro e w1 ⟨rfl,hx1⟩;go_wp2;go_ret;exact⟨rfl,hx1⟩
  ·have h1:=MJ h0
   have HI:Hid (I (-z)=45::D z.natAbs):=Asb (by
    have:=Qb z.natAbs (by omega)
    rwa [show -(z.natAbs:Int) = -z by omega]at this)
   clear h0 hn;go_enter Tryz.func98,Tryz.ntmps98;(go_wp2_with fail);(with_reducible refine(sp _).mono ?_);rintro e w1 ⟨rfl,hx1⟩;go_wp2;go_ret;exact⟨Ch (by rw [HI.out];apply ByteArray.ext;simp),hx1⟩
theorem Aa5(z:Int)(hl:(D z.natAbs).length<=100000)(w:World):Calls Tryz.prog 177 #[S (I z)] w (A0 (D z.natAbs) w):=by
 have sp:=J5 z (decide (z<0)) z.natAbs rfl rfl hl;go_enter Tryz.func177,Tryz.ntmps177;(go_wp2_with fail);(with_reducible refine(sp _).mono ?_);rintro e w1 ⟨rfl,hx1⟩;go_wp2;go_ret;exact⟨rfl,hx1⟩
end
theorem Zi{n k:Nat}(h:n<10^k):n<10000^k:=Asp h (Nat.pow_le_pow_left (by omega) k)
theorem xg{n m k:Nat}(h:n<10^k)(h2:m<10^k):n+m<10000^(k+1):=by
 have h1:=Zi h;have h3:=Zi h2;rw [Nat.pow_succ];omega
theorem Od{n k:Nat}(h:n<10^k):(pc 10000 n).length<=k:=Ll (by omega) (Zi h)
theorem Anp{a b:Int}{m n:Bool}(hm:m=decide (a<0))(hn:n=decide (b<0))(h:(m == n)=true):Dp m (a.natAbs+b.natAbs)=a+b:=by
 rw [beq_iff_eq]at h;unfold Dp;by_cases h0:a<0
 ·rw [decide_eq_true h0]at hm;rw [hm]at h;rw [hm,if_pos rfl];have:b<0:=(by rw [←h]at hn;exact of_decide_eq_true hn.symm);omega
 ·rw [decide_eq_false h0]at hm;rw [hm]at h;rw [hm,if_neg (by simp)];have:¬b<0:=(by rw [←h]at hn;exact of_decide_eq_false hn.symm);omega
theorem Ann{a b:Int}{m n:Bool}(hm:m=decide (a<0))(hn:n=decide (b<0))(h:(m == n)=false)(hl:a.natAbs<b.natAbs):Dp n (b.natAbs-a.natAbs)=a+b:=by
 rw [beq_eq_false_iff_ne]at h;unfold Dp;by_cases h0:a<0
 ·rw [decide_eq_true h0]at hm;have hb:¬b<0:=(by intro hb;rw [decide_eq_true hb]at hn;exact h (hm.trans hn.symm));rw [decide_eq_false hb]at hn;rw [hn,if_neg (by simp)];omega
 ·rw [decide_eq_false h0]at hm
  have hb:b<0:=by
   by_cases hb:b<0
   ·exact hb
   ·rw [decide_eq_false hb]at hn;exact absurd (hm.trans hn.symm) h
  rw [decide_eq_true hb]at hn;rw [hn,if_pos rfl];omega
theorem Ano{a b:Int}{m n:Bool}(hm:m=decide (a<0))(hn:n=decide (b<0))(h:(m == n)=false)(hl:¬a.natAbs<b.natAbs):Dp m (a.natAbs-b.natAbs)=a+b:=by
 rw [beq_eq_false_iff_ne]at h;unfold Dp;by_cases h0:a<0
 ·rw [decide_eq_true h0]at hm;have hb:¬b<0:=(by intro hb;rw [decide_eq_true hb]at hn;exact h (hm.trans hn.symm));rw [hm,if_pos rfl];omega
 ·rw [decide_eq_false h0]at hm
  have hb:b<0:=by
   by_cases hb:b<0
   ·exact hb
   ·rw [decide_eq_false hb]at hn;exact absurd (hm.trans hn.symm) h
  rw [hm,if_neg (by simp)];omega
theorem ZW{z:Int}(h:(D z.natAbs).length<=17):-100000000000000000<z/\z<100000000000000000:=by
 have h1:=J1 h;have e17:(10:Nat)^17=100000000000000000:=(by decide);omega
theorem AmY(a b:Int)(ha:(D a.natAbs).length<=17)(hb:(D b.natAbs).length<=17)(w:World)(hw:Ai w):Calls Tryz.prog 43 #[S (I a),S (I b)] w (A0 (I (a+b)) w):=by
 have ba:=RI a ha;have bb:=RI b hb;obtain⟨a1,a2⟩:=ZW ha;obtain⟨b1,b2⟩:=ZW hb;have o:=RL (a+b) (by omega) (by omega);clear ha hb;go_enter Tryz.func43,Tryz.ntmps43;(go_wp2_with fail);(with_reducible refine(ba _).mono ?_);rintro e w1 ⟨rfl,hx1⟩;(go_wp2_with fail);(with_reducible refine(bb _).mono ?_);rintro e w2 ⟨rfl,hx2⟩;(go_wp2_with fail);(with_reducible refine(o _ (hw.ext (hx1.trans hx2))).mono ?_);rintro e w3 ⟨rfl,hx3⟩;go_wp2;go_ret;exact⟨rfl,(hx1.trans hx2).trans hx3⟩
theorem tP(a b:Int)(ha:(D a.natAbs).length<=100000)(hb:(D b.natAbs).length<=100000)(h:¬((D a.natAbs).length<=17/\(D b.natAbs).length<=17)) :
  ∃(x y:Int) (o1 o2:Bool),(∀w,Calls Tryz.prog 103 #[S (I a)] w (Bg (.tuple #[.int .i64 x,.bool o1]) w))/\(∀w,Calls Tryz.prog 103 #[S (I b)] w (Bg (.tuple #[.int .i64 y,.bool o2]) w))/\(o1=false∨(o1=true/\o2=false)):=by
 by_cases h1:(D a.natAbs).length<=17
 ·exact⟨a,0,true,false,RI a h1,ZJ b (by omega) hb,.inr ⟨rfl,rfl⟩⟩
 ·by_cases h2:(D b.natAbs).length<=17
  ·exact⟨0,b,false,true,ZJ a (by omega) ha,RI b h2,.inl rfl⟩
  ·exact⟨0,0,false,false,ZJ a (by omega) ha,ZJ b (by omega) hb,.inl rfl⟩
theorem AmX(a b:Int)(K:Nat)(hK:K<=8000)(C2:0<K)(ha:a.natAbs<10^K)(hb:b.natAbs<10^K)(w:World)(hw:Ai w):Calls Tryz.prog 43 #[S (I a),S (I b)] w (A0 (I (a+b)) w):=by
 have la:=Ck C2 ha;have lb:=Ck C2 hb;by_cases Bf:(D a.natAbs).length<=17/\(D b.natAbs).length<=17
 ·exact AmY a b Bf.1 Bf.2 w hw
 ·obtain⟨x,y,o1,o2,ba,bb,Pn⟩:=tP a b (by omega) (by omega) Bf;obtain⟨m,hm⟩:=AcG (decide (a<0));obtain⟨n,hn⟩:=AcG (decide (b<0));obtain⟨p,hp⟩:=AcG a.natAbs;obtain⟨q,hq⟩:=AcG b.natAbs;have sa:=J5 a m p hm hp (by rw [hp];omega);have sb:=J5 b n q hn hq (by rw [hq];omega);rw [←hp]at ha la;rw [←hq]at hb lb;have ta:=RO p (by omega);have tb:=RO q (by omega);have hpl:=Od ha;have EG:=Od hb;have EF:=xg ha hb;have Uy:p<10000^(K+1):=Nat.lt_of_le_of_lt (Nat.le_add_right _ _) EF;have Ig:q<10000^(K+1):=Nat.lt_of_le_of_lt (Nat.le_add_left _ _) EF;have mO:(D (p+q)).length<=K+1:=Ck (by omega) (by rw [Nat.pow_succ];omega);by_cases hmn:(m == n)=true
  ·have HZ:Hid (Dp m (p+q)=a+b):=Asb (by rw [hp,hq];exact Anp hm hn hmn);have jn:=fun u v W=>PK p q 1 (p+q) (K+1) (by omega) EF (by omega) (by omega) (by omega) (by omega) (by omega) u v W;have md:=fun v W hW=>Lr m (p+q) (by omega) v W hW;clear Bf hm hn hp hq ha hb la lb hpl EG EF Uy Ig mO
   rcases Pn with rfl|⟨rfl,rfl⟩
   all_goals
    go_enter Tryz.func43,Tryz.ntmps43;(go_wp2_with fail);(with_reducible refine(ba _).mono ?_);rintro e w1 ⟨rfl,hx1⟩;(go_wp2_with fail);(with_reducible refine(bb _).mono ?_);rintro e w2 ⟨rfl,hx2⟩;(go_wp2_with fail);(with_reducible refine(sa _).mono ?_);rintro e w3 ⟨rfl,hx3⟩;(go_wp2_with fail);(with_reducible refine(sb _).mono ?_);rintro e w4 ⟨rfl,Af⟩;(go_wp2_with fail);(with_reducible refine(ta _).mono ?_);rintro e w5 ⟨v5,rfl,AV,Ae⟩;(go_wp2_with fail);(with_reducible refine(tb _).mono ?_);rintro e w6 ⟨v6,rfl,Ca,Ao⟩;have hE:=((((hx1.trans hx2).trans hx3).trans Af).trans Ae).trans Ao;(go_wp2_with fail);(with_reducible refine(jn _ _ _ (AV.ext Ao) Ca).mono ?_);rintro e w7 ⟨v7,rfl,EI,Aj⟩;(go_wp2_with fail);(with_reducible refine(md _ _ (hw.ext (hE.trans Aj)) EI).mono ?_);rintro e w8 ⟨rfl,AE⟩;go_wp2;go_ret;exact⟨Ch (by rw [HZ.out]),(hE.trans Aj).trans AE⟩
  ·have Kc:(m == n)=false:=(by simpa using hmn);have ls:=fun u v W=>Aa8 p q u v W;by_cases hl:p<q
   ·rw [decide_eq_true hl]at ls;have HZ:Hid (Dp n (q-p)=a+b):=Asb (by rw [hp,hq];exact Ann hm hn Kc (by omega));have jn:=fun u v W=>PK q p (-1) (q-p) (K+1) (by omega) (Nat.lt_of_le_of_lt (Nat.sub_le _ _) Ig) (by omega) (by omega) (by omega) (by omega) (by omega) u v W;have md:=fun v W hW=>Lr n (q-p) (Asq (PU (show q-p<=p+q by omega)) (by omega)) v W hW;clear Bf hm hn hp hq ha hb la lb hpl EG EF Uy Ig mO hmn hl
    rcases Pn with rfl|⟨rfl,rfl⟩
    all_goals
     go_enter Tryz.func43,Tryz.ntmps43;(go_wp2_with fail);(with_reducible refine(ba _).mono ?_);rintro e w1 ⟨rfl,hx1⟩;(go_wp2_with fail);(with_reducible refine(bb _).mono ?_);rintro e w2 ⟨rfl,hx2⟩;(go_wp2_with fail);(with_reducible refine(sa _).mono ?_);rintro e w3 ⟨rfl,hx3⟩;(go_wp2_with fail);(with_reducible refine(sb _).mono ?_);rintro e w4 ⟨rfl,Af⟩;(go_wp2_with fail);(with_reducible refine(ta _).mono ?_);rintro e w5 ⟨v5,rfl,AV,Ae⟩;(go_wp2_with fail);(with_reducible refine(tb _).mono ?_);rintro e w6 ⟨v6,rfl,Ca,Ao⟩;have hE:=((((hx1.trans hx2).trans hx3).trans Af).trans Ae).trans Ao;(go_wp2_with fail);(with_reducible refine(ls _ _ _ (AV.ext Ao) Ca).mono ?_);rintro e w7 ⟨rfl,Aj⟩;(go_wp2_with fail);(with_reducible refine(jn _ _ _ (Ca.ext Aj) ((AV.ext Ao).ext Aj)).mono ?_);rintro e w8 ⟨v8,rfl,Dy,AE⟩;(go_wp2_with fail);(with_reducible refine(md _ _ (hw.ext ((hE.trans Aj).trans AE)) Dy).mono ?_);rintro e w9 ⟨rfl,Az⟩;go_wp2;go_ret;exact⟨Ch (by rw [HZ.out]),((hE.trans Aj).trans AE).trans Az⟩
   ·rw [decide_eq_false hl]at ls;have HZ:Hid (Dp m (p-q)=a+b):=Asb (by rw [hp,hq];exact Ano hm hn Kc (by omega));have jn:=fun u v W=>PK p q (-1) (p-q) (K+1) (by omega) (Nat.lt_of_le_of_lt (Nat.sub_le _ _) Uy) (by omega) (by omega) (by omega) (by omega) (by omega) u v W;have md:=fun v W hW=>Lr m (p-q) (Asq (PU (show p-q<=p+q by omega)) (by omega)) v W hW;clear Bf hm hn hp hq ha hb la lb hpl EG EF Uy Ig mO hmn hl
    rcases Pn with rfl|⟨rfl,rfl⟩
    all_goals
     go_enter Tryz.func43,Tryz.ntmps43;(go_wp2_with fail);(with_reducible refine(ba _).mono ?_);rintro e w1 ⟨rfl,hx1⟩;(go_wp2_with fail);(with_reducible refine(bb _).mono ?_);rintro e w2 ⟨rfl,hx2⟩;(go_wp2_with fail);(with_reducible refine(sa _).mono ?_);rintro e w3 ⟨rfl,hx3⟩;(go_wp2_with fail);(with_reducible refine(sb _).mono ?_);rintro e w4 ⟨rfl,Af⟩;(go_wp2_with fail);(with_reducible refine(ta _).mono ?_);rintro e w5 ⟨v5,rfl,AV,Ae⟩;(go_wp2_with fail);(with_reducible refine(tb _).mono ?_);rintro e w6 ⟨v6,rfl,Ca,Ao⟩;have hE:=((((hx1.trans hx2).trans hx3).trans Af).trans Ae).trans Ao;(go_wp2_with fail);(with_reducible refine(ls _ _ _ (AV.ext Ao) Ca).mono ?_);rintro e w7 ⟨rfl,Aj⟩;(go_wp2_with fail);(with_reducible refine(jn _ _ _ ((AV.ext Ao).ext Aj) (Ca.ext Aj)).mono ?_);rintro e w8 ⟨v8,rfl,Dy,AE⟩;(go_wp2_with fail);(with_reducible refine(md _ _ (hw.ext ((hE.trans Aj).trans AE)) Dy).mono ?_);rintro e w9 ⟨rfl,Az⟩;go_wp2;go_ret;exact⟨Ch (by rw [HZ.out]),((hE.trans Aj).trans AE).trans Az⟩
/-! ### Mul -/
theorem Anq{a b:Int}{m n:Bool}(hm:m=decide (a<0))(hn:n=decide (b<0)):Dp (m != n) (a.natAbs*b.natAbs)=a*b:=by
 unfold Dp
 rcases Int.natAbs_eq a with ea|ea<;>rcases Int.natAbs_eq b with eb|eb
 ·have h1:m=false:=(by rw [hm];exact decide_eq_false (by omega));have h2:n=false:=(by rw [hn];exact decide_eq_false (by omega));rw [h1,h2,if_neg (by simp),Int.natCast_mul,←ea,←eb]
 ·have h1:m=false:=(by rw [hm];exact decide_eq_false (by omega));by_cases h0:b.natAbs=0
  ·have:b=0:=(by omega);subst this;simp
  ·have h2:n=true:=(by rw [hn];exact decide_eq_true (by omega));rw [h1,h2,if_pos (by simp),Int.natCast_mul,←ea,←Int.mul_neg,←eb]
 ·have h2:n=false:=(by rw [hn];exact decide_eq_false (by omega));by_cases h0:a.natAbs=0
  ·have:a=0:=(by omega);subst this;simp
  ·have h1:m=true:=(by rw [hm];exact decide_eq_true (by omega));rw [h1,h2,if_pos (by simp),Int.natCast_mul,←eb,←Int.neg_mul,←ea]
 ·by_cases h0:a.natAbs=0
  ·have:a=0:=(by omega);subst this;simp
  ·by_cases h3:b.natAbs=0
   ·have:b=0:=(by omega);subst this;simp
   ·have h1:m=true:=(by rw [hm];exact decide_eq_true (by omega));have h2:n=true:=(by rw [hn];exact decide_eq_true (by omega));rw [h1,h2,if_neg (by simp),Int.natCast_mul]
    conv=>rhs;rw [ea,eb]
    rw [Int.neg_mul_neg]
theorem Vv(a b:Int)(K:Nat)(hK:K<=8000)(C2:0<K)(ha:a.natAbs<10^K)(hb:b.natAbs<10^K)(w:World)(hw:Ai w):Calls Tryz.prog 44 #[S (I a),S (I b)] w (A0 (I (a*b)) w):=by
 have la:=Ck C2 ha;have lb:=Ck C2 hb;have pa:=Ly a.natAbs;have pb:=Ly b.natAbs;obtain⟨m,hm⟩:=AcG (decide (a<0));obtain⟨n,hn⟩:=AcG (decide (b<0));obtain⟨p,hp⟩:=AcG a.natAbs;obtain⟨q,hq⟩:=AcG b.natAbs;have sa:=J5 a m p hm hp (by rw [hp];omega);have sb:=J5 b n q hn hq (by rw [hq];omega);by_cases Bf:(D a.natAbs).length+(D b.natAbs).length<=18
 ·have ba:=oG a (by omega);have bb:=oG b (by omega)
  have hab:(a*b).natAbs<10^18:=by rw [Int.natAbs_mul];have h1:=UT a.natAbs;have h2:=UT b.natAbs;have h3:=Nat.mul_lt_mul'' h1 h2;rw [←Nat.pow_add]at h3;exact Asp h3 (Nat.pow_le_pow_right (by omega) Bf)
  have e18:(10:Nat)^18=1000000000000000000:=(by decide);rw [e18]at hab;obtain⟨z,hz⟩:∃z,a*b=z:=⟨_,rfl⟩;rw [hz]at hab;have hz1:-1000000000000000000<z:=(by omega);have hz2:z<1000000000000000000:=(by omega);have o:=RL z (by omega) (by omega);have hsi:((D p).length:Int)+((D q).length:Int)<=18:=(by rw [hp,hq];omega);have CU:(D p).length<=18:=(by omega);have hl2:(D q).length<=18:=(by omega);rw [hz];clear Bf hm hn hp hq ha hb la lb pa pb hab e18;go_enter Tryz.func44,Tryz.ntmps44;(go_wp2_with fail);(with_reducible refine(sa _).mono ?_);rintro e w1 ⟨rfl,hx1⟩;(go_wp2_with fail);(with_reducible refine(sb _).mono ?_);rintro e w2 ⟨rfl,hx2⟩;(go_wp2_with fail);(with_reducible refine(ba _).mono ?_);rintro e w3 ⟨rfl,hx3⟩;(go_wp2_with fail);(with_reducible refine(bb _).mono ?_);rintro e w4 ⟨rfl,Af⟩;have hE:=((hx1.trans hx2).trans hx3).trans Af;(go_wp2_with fail);(with_reducible refine(o _ (hw.ext hE)).mono ?_);rintro e w5 ⟨rfl,Ae⟩;go_wp2;go_ret;exact⟨rfl,hE.trans Ae⟩
 ·have HZ:Hid (Dp (m != n) (p*q)=a*b):=Asb (by rw [hp,hq];exact Anq hm hn);rw [←hp]at ha la Bf;rw [←hq]at hb lb Bf;have EF:p*q<10^(K+K):=(by rw [Nat.pow_add];exact Nat.mul_lt_mul'' ha hb);have ta:=RO p (by omega);have tb:=RO q (by omega);have tm:=fun u v W=>Anl p q (K+K) (by omega) (Zi EF) (by have:=Od ha;omega) (by have:=Od hb;omega) u v W;have md:=fun v W hW=>Lr (m != n) (p*q) (by have:=Ck (show 0<K+K by omega) EF;omega) v W hW;have hsi:(18:Int)<((D p).length:Int)+((D q).length:Int):=(by omega);obtain⟨x,hx⟩:∃x,(!(m == n))=x:=⟨_,rfl⟩;rw [show (m != n)=x from hx]at HZ md;clear Bf hm hn hp hq ha hb pa pb EF;go_enter Tryz.func44,Tryz.ntmps44;(go_wp2_with fail);(with_reducible refine(sa _).mono ?_);rintro e w1 ⟨rfl,hx1⟩;(go_wp2_with fail);(with_reducible refine(sb _).mono ?_);rintro e w2 ⟨rfl,hx2⟩;(go_wp2_with fail);(with_reducible refine(ta _).mono ?_);rintro e w3 ⟨v3,rfl,hv3,hx3⟩;(go_wp2_with fail);(with_reducible refine(tb _).mono ?_);rintro e w4 ⟨v4,rfl,hv4,Af⟩;(go_wp2_with fail);(with_reducible refine(tm _ _ _ (hv3.ext Af) hv4).mono ?_);rintro e w5 ⟨v5,rfl,AV,Ae⟩;have hE:=(((hx1.trans hx2).trans hx3).trans Af).trans Ae;(go_wp2_with fail);(with_reducible refine(md _ _ (hw.ext hE) AV).mono ?_);rintro e w6 ⟨rfl,Ao⟩;go_wp2;go_ret;exact⟨Ch (by rw [HZ.out]),hE.trans Ao⟩
end Go.Proofs.YtdaefncphfeaeaaGreatDoor
