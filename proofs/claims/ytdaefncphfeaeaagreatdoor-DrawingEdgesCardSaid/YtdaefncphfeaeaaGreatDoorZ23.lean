/- Z23: E12 P1 P2 P3. -/
import Derived.Test.YtdaefncphfeaeaaGreatDoorZ21
import Derived.Test.YtdaefncphfeaeaaGreatDoorZ22
set_option maxRecDepth 100000
set_option maxHeartbeats 8000000
namespace Go.Proofs.YtdaefncphfeaeaaGreatDoor
open Go.RowKit Kl
section
attribute [local go_sem] SI
theorem Ane(q:Rat){k:Nat}(hk:0<k)(hk2:k<=100000)(hz:Sz k q)(w:World):Calls Tryz.prog 95 #[S (R q)] w (A0 (R (-q)) w):=by
 have hlen:=Hv hk hz;by_cases h0:q=0
 ·subst h0;rw [Rat.neg_zero,G7];go_enter Tryz.func95,Tryz.ntmps95;go_wp2;go_ret;exact⟨rfl,Aa.refl _⟩
 ·have h1:=D4 h0
  rcases Wq q with⟨hn,e⟩|⟨hp,c,l,e,hd,hc⟩
  ·obtain⟨c,hc⟩:=AcG (45:UInt8);have hl:0<(R q).length:=(by rw [e];simp);have hg:(R q)[0]'hl=c:=(by rw [List.getElem_of_eq e hl,hc];rfl);have hcb:((c.toNat:Int) == 45)=true:=(by rw [hc];rfl);have HD:Hid ((R q).drop 1=R (-q)):=Asb (by rw [e];rfl);have CU:(1:Int)<=((R q).length:Int):=(by omega);clear e hc hn;go_enter Tryz.func95,Tryz.ntmps95;go_wp2;go_ret;exact⟨Ch (by rw [←HD.out];first|exact Tc _ _|(rw [OG];simp)),Aa.refl _⟩
  ·have HD:Hid (R (-q)=45::R q):=Asb (by
    have:=cK (q:=-q) (by grind)
    rw [this,Rat.neg_neg])
   have hl:0<(R q).length:=(by rw [e];simp);have hg:(R q)[0]'hl=c:=(by rw [List.getElem_of_eq e hl];rfl);have hcb:((c.toNat:Int) == 45)=false:=(by rw [beq_eq_false_iff_ne];intro k;exact hc (UInt8.toNat_inj.1 (by simp;omega)));clear e hc hp hd;go_enter Tryz.func95,Tryz.ntmps95;go_wp2;go_ret;exact⟨Ch (by rw [HD.out];apply ByteArray.ext;simp),Aa.refl _⟩
theorem Aa0(p q:Rat)(h:¬((R p).length<=9/\(R q).length<=9)) :
  (∃(n d:Int),(∀w,Calls Tryz.prog 40 #[S (R p)] w (fun e w'=>e=.returned (.tuple #[.int .i64 n,.int .i64 d,.bool true])/\w=w'))/\(∀w,Calls Tryz.prog 40 #[S (R q)] w (fun e w'=>e=.returned (.tuple #[.int .i64 0,.int .i64 0,.bool false])/\w=w')))∨
  (∀w,Calls Tryz.prog 40 #[S (R p)] w (fun e w'=>e=.returned (.tuple #[.int .i64 0,.int .i64 0,.bool false])/\w=w')):=by
 by_cases h1:(R p).length<=9
 ·exact .inl ⟨_,_,Vu p h1,Aaz _ (by have:¬(R q).length<=9:=fun h2=>h ⟨h1,h2⟩;omega)⟩
 ·exact .inr (Aaz _ (by omega))
theorem Rm.k{a b:Nat}{p q:Rat}(h:Rm a b p q):a+b+1<=8000:=by have:=h.le;omega
theorem IM{n a b:Nat}(h:n<10^a)(hab:a<=b):n<10^b:=Asp h (Nat.pow_le_pow_right (by omega) hab)
theorem AmQ(p q:Rat){a b:Nat}(hr:Rm a b p q)(hs:¬((R p).length<=9/\(R q).length<=9))(w:World)(hw:Ai w):Calls Tryz.prog 12 #[S (R p),S (R q)] w (A0 (R (p+q)) w):=by
 have bt:=Aa0 p q hs;have p1:=RN p hr.a0 (by have:=hr.le;omega) hr.p;have p2:=RN q hr.b0 (by have:=hr.le;omega) hr.q;have hK:=hr.k;have z1:=IM hr.p.num (show a<=a+b+1 by omega);have z2:((p.den:Int)).natAbs<10^(a+b+1):=(by rw [Ash];exact IM hr.p.den (by omega));have z3:=IM hr.q.num (show b<=a+b+1 by omega);have z4:((q.den:Int)).natAbs<10^(a+b+1):=(by rw [Ash];exact IM hr.q.den (by omega));have y1:=IM hr.ne' (show a+b<=a+b+1 by omega);have y2:=IM hr.md' (show a+b<=a+b+1 by omega);have y3:(p.num*(q.den:Int)+q.num*(p.den:Int)).natAbs<10^(a+b+1):=Nat.lt_of_le_of_lt (Int.natAbs_add_le _ _) (WA hr.ne' hr.md');have y4:p.den*q.den<10^(a+b+1):=IM (J2 hr.p.den hr.q.den) (by omega);have m1:=Vv p.num (q.den:Int) (a+b+1) hK (by omega) z1 z4;have m2:=Vv q.num (p.den:Int) (a+b+1) hK (by omega) z3 z2;have ad:=AmX (p.num*(q.den:Int)) (q.num*(p.den:Int)) (a+b+1) hK (by omega) y1 y2;have m3:=Vv (p.den:Int) (q.den:Int) (a+b+1) hK (by omega) z2 z4;have fr:=oC (p.num*(q.den:Int)+q.num*(p.den:Int)) (p.den*q.den) (Nat.mul_pos p.den_pos q.den_pos) (a+b+1) hK (by omega) y3 y4;rw [←Rat.add_def',Int.natCast_mul]at fr;clear hK z1 z2 z3 z4 y3 y4 hs hr y1 y2
 rcases bt with⟨n0,d0,b1,b2⟩|b1
 case' inl=>go_enter Tryz.func12,Tryz.ntmps12;(go_wp2_with fail);(with_reducible refine(b1 _).mono ?_);rintro e w1 ⟨rfl,rfl⟩;(go_wp2_with fail);(with_reducible refine(b2 _).mono ?_);rintro e w2 ⟨rfl,rfl⟩;(go_wp2_with fail)
 case' inr=>go_enter Tryz.func12,Tryz.ntmps12;(go_wp2_with fail);(with_reducible refine(b1 _).mono ?_);rintro e w1 ⟨rfl,rfl⟩;(go_wp2_with fail)
 all_goals
  (with_reducible refine(p1 _).mono ?_);rintro e wa ⟨rfl,Ay⟩;(go_wp2_with fail);(with_reducible refine(p2 _).mono ?_);rintro e wb ⟨rfl,hxb⟩;have hE:=Ay.trans hxb;(go_wp2_with fail);(with_reducible refine(m1 _ (hw.ext hE)).mono ?_);rintro e w3 ⟨rfl,hx3⟩;have hE:=hE.trans hx3;(go_wp2_with fail);(with_reducible refine(m2 _ (hw.ext hE)).mono ?_);rintro e w4 ⟨rfl,Af⟩;have hE:=hE.trans Af;(go_wp2_with fail);(with_reducible refine(ad _ (hw.ext hE)).mono ?_);rintro e w5 ⟨rfl,Ae⟩;have hE:=hE.trans Ae;(go_wp2_with fail);(with_reducible refine(m3 _ (hw.ext hE)).mono ?_);rintro e w6 ⟨rfl,Ao⟩;have hE:=hE.trans Ao;(go_wp2_with fail);(with_reducible refine(fr _ (hw.ext hE)).mono ?_);rintro e w7 ⟨rfl,Aj⟩;go_wp2;go_ret;exact⟨rfl,hE.trans Aj⟩
theorem Aa1(p q:Rat){a b:Nat}(hr:Rm a b p q)(w:World)(hw:Ai w):Calls Tryz.prog 12 #[S (R p),S (R q)] w (A0 (R (p+q)) w):=by
 by_cases hs:(R p).length<=9/\(R q).length<=9
 ·exact nZ p q hs.1 hs.2 w hw
 ·exact AmQ p q hr hs w hw
theorem Anc(p q:Rat)(h1:(R p).length<=9)(h2:(R q).length<=9)(w:World)(hw:Ai w):Calls Tryz.prog 45 #[S (R p),S (R q)] w (A0 (R (p*q)) w):=by
 have q1:=Vu p h1;have q2:=Vu q h2;have e9:(10:Nat)^9=1000000000:=(by decide);obtain⟨s1,s2⟩:=(Wt h1).resolve_right (by omega);obtain⟨s3,s4⟩:=(Wt h2).resolve_right (by omega);rw [e9]at s1 s2 s3 s4;have w1:=IU (x:=p.num) (y:=q.num) s1 s3;have w3:=IU (x:=(p.den:Int)) (y:=(q.den:Int)) (by rw [Ash];exact s2) (by rw [Ash];exact s4);have b1:=K1 (x:=p.num) (y:=q.num) s1 s3;have b3:=K1 (x:=(p.den:Int)) (y:=(q.den:Int)) (by rw [Ash];exact s2) (by rw [Ash];exact s4);have sm:=Aa9 (p.num*q.num) (p.den*q.den) (Nat.mul_pos p.den_pos q.den_pos) (by omega) (by omega) (by rw [←Int.natCast_mul,Ash]at b3;omega);rw [Int.natCast_mul,←Rat.mul_def']at sm;clear b1 b3 h1 h2 e9 s1 s2 s3 s4;go_enter Tryz.func45,Tryz.ntmps45;(go_wp2_with fail);(with_reducible refine(q1 _).mono ?_);rintro e w1 ⟨rfl,rfl⟩;(go_wp2_with fail);(with_reducible refine(q2 _).mono ?_);rintro e w2 ⟨rfl,rfl⟩;(go_wp2_with fail);(with_reducible refine(sm _ hw).mono ?_);rintro e w3 ⟨rfl,hx3⟩;go_wp2;go_ret;exact⟨rfl,hx3⟩
theorem Anb(p q:Rat){a b:Nat}(hr:Rm a b p q)(hs:¬((R p).length<=9/\(R q).length<=9))(w:World)(hw:Ai w):Calls Tryz.prog 45 #[S (R p),S (R q)] w (A0 (R (p*q)) w):=by
 have bt:=Aa0 p q hs;have p1:=RN p hr.a0 (by have:=hr.le;omega) hr.p;have p2:=RN q hr.b0 (by have:=hr.le;omega) hr.q;have hK:=hr.k;have z1:=IM hr.p.num (show a<=a+b+1 by omega);have z2:((p.den:Int)).natAbs<10^(a+b+1):=(by rw [Ash];exact IM hr.p.den (by omega));have z3:=IM hr.q.num (show b<=a+b+1 by omega);have z4:((q.den:Int)).natAbs<10^(a+b+1):=(by rw [Ash];exact IM hr.q.den (by omega));have y3:(p.num*q.num).natAbs<10^(a+b+1):=IM (by rw [Int.natAbs_mul];exact J2 hr.p.num hr.q.num) (show a+b<=a+b+1 by omega);have y4:p.den*q.den<10^(a+b+1):=IM (J2 hr.p.den hr.q.den) (by omega);have m1:=Vv p.num q.num (a+b+1) hK (by omega) z1 z3;have m3:=Vv (p.den:Int) (q.den:Int) (a+b+1) hK (by omega) z2 z4;have fr:=oC (p.num*q.num) (p.den*q.den) (Nat.mul_pos p.den_pos q.den_pos) (a+b+1) hK (by omega) y3 y4;rw [←Rat.mul_def',Int.natCast_mul]at fr;clear hK z1 z2 z3 z4 y3 y4 hs hr
 rcases bt with⟨n0,d0,b1,b2⟩|b1
 case' inl=>go_enter Tryz.func45,Tryz.ntmps45;(go_wp2_with fail);(with_reducible refine(b1 _).mono ?_);rintro e w1 ⟨rfl,rfl⟩;(go_wp2_with fail);(with_reducible refine(b2 _).mono ?_);rintro e w2 ⟨rfl,rfl⟩;(go_wp2_with fail)
 case' inr=>go_enter Tryz.func45,Tryz.ntmps45;(go_wp2_with fail);(with_reducible refine(b1 _).mono ?_);rintro e w1 ⟨rfl,rfl⟩;(go_wp2_with fail)
 all_goals
  (with_reducible refine(p1 _).mono ?_);rintro e wa ⟨rfl,Ay⟩;(go_wp2_with fail);(with_reducible refine(p2 _).mono ?_);rintro e wb ⟨rfl,hxb⟩;have hE:=Ay.trans hxb;(go_wp2_with fail);(with_reducible refine(m1 _ (hw.ext hE)).mono ?_);rintro e w3 ⟨rfl,hx3⟩;have hE:=hE.trans hx3;(go_wp2_with fail);(with_reducible refine(m3 _ (hw.ext hE)).mono ?_);rintro e w6 ⟨rfl,Ao⟩;have hE:=hE.trans Ao;(go_wp2_with fail);(with_reducible refine(fr _ (hw.ext hE)).mono ?_);rintro e w7 ⟨rfl,Aj⟩;go_wp2;go_ret;exact⟨rfl,hE.trans Aj⟩
theorem AaA(p q:Rat){a b:Nat}(hr:Rm a b p q)(w:World)(hw:Ai w):Calls Tryz.prog 45 #[S (R p),S (R q)] w (A0 (R (p*q)) w):=by
 by_cases hs:(R p).length<=9/\(R q).length<=9
 ·exact Anc p q hs.1 hs.2 w hw
 ·exact Anb p q hr hs w hw
theorem Rm.negq{a b:Nat}{p q:Rat}(h:Rm a b p q):Rm a b p (-q):=⟨h.p,h.q.neg,h.a0,h.b0,h.le⟩
theorem Ani(p q:Rat){a b:Nat}(hr:Rm a b p q)(w:World)(hw:Ai w):Calls Tryz.prog 37 #[S (R p),S (R q)] w (A0 (R (p-q)) w):=by
 have ng:=Ane q hr.b0 (by have:=hr.le;omega) hr.q;have ad:=Aa1 p (-q) hr.negq;rw [←Rat.sub_eq_add_neg]at ad;clear hr;go_enter Tryz.func37,Tryz.ntmps37;(go_wp2_with fail);(with_reducible refine(ng _).mono ?_);rintro e w1 ⟨rfl,hx1⟩;(go_wp2_with fail);(with_reducible refine(ad _ (hw.ext hx1)).mono ?_);rintro e w2 ⟨rfl,hx2⟩;go_wp2;go_ret;exact⟨rfl,hx1.trans hx2⟩
theorem Akp{q:Rat}(h:0<q):mkRat (q.den:Int) q.num.toNat=q⁻¹:=by
 have hn:0<q.num:=Zq.2 h;apply JH;rw [rV h,rW _ (by omega)];rw [Ash,show q.num.toNat=q.num.natAbs by omega,Nat.gcd_comm];exact q.reduced
theorem Ako{q:Rat}(h:q<0):mkRat (-(q.den:Int)) (-q.num).toNat=q⁻¹:=by
 have hn:q.num<0:=IK.2 h;apply JH;rw [rU h,rW _ (by omega)];rw [Int.natAbs_neg,Ash,show (-q.num).toNat=q.num.natAbs by omega,Nat.gcd_comm];exact q.reduced
theorem AmT(p q:Rat)(Bn:q≠0){a b:Nat}(hr:Rm a b p q)(w:World)(hw:Ai w):Calls Tryz.prog 36 #[S (R p),S (R q)] w (A0 (R (p/q)) w):=by
 have pt:=RN q hr.b0 (by have:=hr.le;omega) hr.q;have ml:=AaA p q⁻¹ (a:=a) (b:=b) ⟨hr.p,hr.q.inv hr.b0,hr.a0,hr.b0,hr.le⟩;rw [←Rat.div_def]at ml;have hle:=hr.le;have hb0:=hr.b0;have KW:=hr.q.num;have YG:=hr.q.den
 have fr:∀W,Ai W→Calls Tryz.prog 38 #[S (I (q.den:Int)),S (I q.num)] W (A0 (R q⁻¹) W):=by
  intro W hW;by_cases h:0<q
  ·have hn:0<q.num:=Zq.2 h;have f:=oC (q.den:Int) q.num.toNat (by omega) b (by omega) hb0 (by rw [Ash];exact YG) (by omega) W hW;rw [Akp h,show ((q.num.toNat:Nat):Int)=q.num by omega]at f;exact f
  ·have h':q<0:=(by grind);have hn:q.num<0:=IK.2 h';have f:=AmV (-(q.den:Int)) (-q.num).toNat (by omega) b (by omega) hb0 (by rw [Int.natAbs_neg,Ash];exact YG) (by omega) W hW;rw [Ako h',Int.neg_neg,show -(((-q.num).toNat:Nat):Int)=q.num by omega]at f;exact f
 clear hr hle hb0 KW YG Bn;go_enter Tryz.func36,Tryz.ntmps36;(go_wp2_with fail);(with_reducible refine(pt _).mono ?_);rintro e w1 ⟨rfl,hx1⟩;(go_wp2_with fail);(with_reducible refine(fr _ (hw.ext hx1)).mono ?_);rintro e w2 ⟨rfl,hx2⟩;have hE:=hx1.trans hx2;(go_wp2_with fail);(with_reducible refine(ml _ (hw.ext hE)).mono ?_);rintro e w3 ⟨rfl,hx3⟩;go_wp2;go_ret;exact⟨rfl,hE.trans hx3⟩
theorem AmU(q:Rat){k:Nat}(hk:0<k)(hk2:k<=8000)(hz:Sz k q)(w:World)(hw:Ai w):Calls Tryz.prog 129 #[S (R q)] w (A0 (I q.floor) w):=by
 have pt:=RN q hk (by omega) hz;have dm:=RJ q.num (q.den:Int) (by have:=q.den_pos;omega) k hk2 hk hz.num (by rw [Ash];exact hz.den);unfold Qf at dm;rw [←Rat.floor_def]at dm;clear hz;go_enter Tryz.func129,Tryz.ntmps129;(go_wp2_with fail);(with_reducible refine(pt _).mono ?_);rintro e w1 ⟨rfl,hx1⟩;(go_wp2_with fail);(with_reducible refine(dm _ (hw.ext hx1)).mono ?_);rintro e w2 ⟨rfl,hx2⟩;go_wp2;go_ret;exact⟨rfl,hx1.trans hx2⟩
theorem AaB(q:Rat){k:Nat}(hk:0<k)(hk2:k<=3980)(hz:Sz k q)(w:World)(hw:Ai w):Calls Tryz.prog 58 #[S (R q)] w (A0 (I (q+1/2).floor) w):=by
 have hh:Sz 1 (1/2:Rat):=⟨by decide +kernel,by decide +kernel⟩;have ad:=Aa1 q (1/2) (a:=k) (b:=1) ⟨hz,hh,hk,by omega,by omega⟩;rw [show R (1/2:Rat) = [49,47,50] by decide +kernel]at ad;have fl:=AmU (q+1/2) (k:=k+1+1) (by omega) (by omega) (hz.add hh);clear hz hh;go_enter Tryz.func58,Tryz.ntmps58;(go_wp2_with fail);(with_reducible refine(ad _ hw).mono ?_);rintro e w1 ⟨rfl,hx1⟩;(go_wp2_with fail);(with_reducible refine(fl _ (hw.ext hx1)).mono ?_);rintro e w2 ⟨rfl,hx2⟩;go_wp2;go_ret;exact⟨rfl,hx1.trans hx2⟩
end
/-! ### Sizes -/
theorem Zd(p q:Rat){a b:Nat}(hr:Rm a b p q)(w:World)(hw:Ai w):Calls Tryz.prog 10 #[S (R p),S (R q)] w (A0 (R (p-q)) w):=by
 have sb:=Ani p q hr;clear hr;go_enter Tryz.func10,Tryz.ntmps10;(go_wp2_with fail);(with_reducible refine(sb _ hw).mono ?_);rintro e w1 ⟨rfl,hx1⟩;go_wp2;go_ret;exact⟨rfl,hx1⟩
theorem vo(p q:Rat){a b:Nat}(hr:Rm a b p q)(w:World)(hw:Ai w):Calls Tryz.prog 13 #[S (R p),S (R q)] w (A0 (R (p*q)) w):=by
 have sb:=AaA p q hr;clear hr;go_enter Tryz.func13,Tryz.ntmps13;(go_wp2_with fail);(with_reducible refine(sb _ hw).mono ?_);rintro e w1 ⟨rfl,hx1⟩;go_wp2;go_ret;exact⟨rfl,hx1⟩
theorem vn(p q:Rat)(hq:q≠0){a b:Nat}(hr:Rm a b p q)(w:World)(hw:Ai w):Calls Tryz.prog 9 #[S (R p),S (R q)] w (A0 (R (p/q)) w):=by
 have sb:=AmT p q hq hr;clear hr hq;go_enter Tryz.func9,Tryz.ntmps9;(go_wp2_with fail);(with_reducible refine(sb _ hw).mono ?_);rintro e w1 ⟨rfl,hx1⟩;go_wp2;go_ret;exact⟨rfl,hx1⟩
section
theorem AnE{P:Program}{w:World}(ts:Array TypeId)(t:TypeId)(k:IntKind)(a b c d:Int):(Builtin.max_ ts t #[.int k a,.int k b,.int k c,.int k d]).run P w=.ok (.int k (max (max (max a b) c) d)) w:=by
 have m:∀x y:Int,(if y>x then y else x)=max x y:=(by intro x y;split<;>omega);simp only [Builtin.max_,List.foldlM_cons,List.foldlM_nil,Builtin.max2];simp [m]
attribute [local go_sem] AnE
theorem Alf(part whole:Rat)(n:Nat):((n:Rat)*(part/whole)+1/2).floor=Fa part whole n:=by
 unfold Fa
 have e:(n:Rat)*(part/whole)=part*(n:Rat)/whole:=by rw [Rat.div_def,Rat.div_def,←Rat.mul_assoc,Rat.mul_comm (n:Rat) part]
 rw [e]
theorem aF{n:Nat}(h:n<=2000):Sz 4 (n:Rat):=by
 have:=Sz.int (k:=4) (z:=(n:Int)) (by omega) (by rw [Ash];omega)
 rwa [Rat.intCast_natCast]at this
theorem vt(c:Cv)(p:Pt)(hc:It c){a:Nat}(hp:Aq a p)(ha:0<a)(ha2:a<=3800)(cc:-1000000<=Br c p/\Br c p<=1000000)(rr:-1000000<=Bt c p/\Bt c p<=1000000)(w:World)(hw:Ai w) :
  Calls Tryz.prog 20 #[BQ c,Ak p] w (Bg (.tuple #[I2 (Br c p) (Bt c p),.bool true]) w):=by
 have hl:=hc.low;have hh:=hc.high;have AbO:=hc.ok.w2;have wX:=hc.ok.h2;have hx0:c.high.x-c.low.x≠0:=(by have:=hc.ok.x;grind);have Ba:c.high.y-c.low.y≠0:=(by have:=hc.ok.y;grind);have pS:=hp.x.sub hl.x;have pT:=hh.x.sub hl.x;have pU:=hh.y.sub hp.y;have pV:=hh.y.sub hl.y;have o1:=ZL (c.W:Int) (by omega);have o2:=ZL (c.H:Int) (by omega);rw [Rat.intCast_natCast]at o1 o2;have VC:=Zd p.x c.low.x (a:=a) (b:=3) ⟨hp.x,hl.x,ha,by omega,by omega⟩;have VD:=Zd c.high.x c.low.x (a:=3) (b:=3) ⟨hh.x,hl.x,by omega,by omega,by omega⟩;have dx:=vn (p.x-c.low.x) (c.high.x-c.low.x) hx0 (a:=a+3+1) (b:=3+3+1) ⟨pS,pT,by omega,by omega,by omega⟩;have pN:=pS.div (by omega) pT;have mx:=vo (c.W:Rat) ((p.x-c.low.x)/(c.high.x-c.low.x)) (a:=4) (b:=a+3+1+(3+3+1)) ⟨aF AbO,pN,by omega,by omega,by omega⟩;have aC:=Zd c.high.y p.y (a:=3) (b:=a) ⟨hh.y,hp.y,by omega,ha,by omega⟩;have aD:=Zd c.high.y c.low.y (a:=3) (b:=3) ⟨hh.y,hl.y,by omega,by omega,by omega⟩;have dy:=vn (c.high.y-p.y) (c.high.y-c.low.y) Ba (a:=3+a+1) (b:=3+3+1) ⟨pU,pV,by omega,by omega,by omega⟩;have pO:=pU.div (by omega) pV;have my:=vo (c.H:Rat) ((c.high.y-p.y)/(c.high.y-c.low.y)) (a:=4) (b:=3+a+1+(3+3+1)) ⟨aF wX,pO,by omega,by omega,by omega⟩;have nx:=AaB ((c.W:Rat)*((p.x-c.low.x)/(c.high.x-c.low.x))) (k:=4+(a+3+1+(3+3+1))) (by omega) (by omega) ((aF AbO).mul pN);have ny:=AaB ((c.H:Rat)*((c.high.y-p.y)/(c.high.y-c.low.y))) (k:=4+(3+a+1+(3+3+1))) (by omega) (by omega) ((aF wX).mul pO);rw [Alf]at nx ny;have e1:Fa (p.x-c.low.x) (c.high.x-c.low.x) c.W=Br c p:=rfl;have e2:Fa (c.high.y-p.y) (c.high.y-c.low.y) c.H=Bt c p:=rfl;rw [e1]at nx;rw [e2]at ny;have ax:=O6 (Br c p) (by omega) (by omega);have ay:=O6 (Bt c p) (by omega) (by omega);obtain⟨col,N4⟩:=AcG (Br c p);obtain⟨row,hrow⟩:=AcG (Bt c p);rw [←N4]at nx ax cc ⊢;rw [←hrow]at ny ay rr ⊢;obtain⟨c1,c2⟩:=cc;obtain⟨r1,r2⟩:=rr;have hmx:max (max (max col (-col)) row) (-row)<=1000000:=(by omega);unfold BQ Ak I2;clear hl hh hc hp ha ha2 e1 e2 N4 hrow hx0 Ba pS pT pU pV pN pO;go_enter Tryz.func20,Tryz.ntmps20;(go_wp2_with fail);obtain⟨W,hW,hE,hb1,hb2,hb3⟩:=G9 w (.cells #[S (R c.low.x),S (R c.low.y),S (R c.high.x),S (R c.high.y),.int .i64 (c.W:Nat),.int .i64 (c.H:Nat)] 37) (.cells #[S (R p.x),S (R p.y)] 35) (.cells #[.int .i64 0,.int .i64 0] 61);rw [←hW];have hC:=D3.of hb1;have hP:Ga W (w.heap.size+1) p:=⟨Ab hb2 rfl,Ab hb2 rfl⟩;obtain⟨j1,j2,j3,j4,j5,j6⟩:=hC;obtain⟨j7,j8⟩:=hP;have hC:=D3.of hb1;have hP:Ga W (w.heap.size+1) p:=⟨Ab hb2 rfl,Ab hb2 rfl⟩;have Bd:=(Aa.refl W).drew;clear hW hb1 hb2
 go_region_held3 (fun w'=>w'.cell? ⟨w.heap.size,0,none⟩=some (S (R c.low.x))/\w'.cell? ⟨w.heap.size,2,none⟩=some (S (R c.high.x))/\w'.cell? ⟨w.heap.size,4,none⟩=some (.int .i64 (c.W:Nat))/\w'.cell? ⟨w.heap.size+1,0,none⟩=some (S (R p.x)))
  (go_keep)
  (first|((with_reducible refine(o1 _ (hw.ext (hE.trans Bd))).mono ?_);rintro e w1 ⟨rfl,hx1⟩;have hX:=Bd.trans hx1;obtain⟨q1,q2,q3,q4,q5,q6⟩:=hC.ext hX;obtain⟨q7,q8⟩:=hP.ext hX)|((with_reducible refine(VC _ (hw.ext (hE.trans hX))).mono ?_);rintro e w2 ⟨rfl,hx2⟩;replace hX:=hX.trans hx2;obtain⟨q1,q2,q3,q4,q5,q6⟩:=hC.ext hX;obtain⟨q7,q8⟩:=hP.ext hX)|((with_reducible refine(VD _ (hw.ext (hE.trans hX))).mono ?_);rintro e w3 ⟨rfl,hx3⟩;replace hX:=hX.trans hx3;obtain⟨q1,q2,q3,q4,q5,q6⟩:=hC.ext hX;obtain⟨q7,q8⟩:=hP.ext hX)|((with_reducible refine(dx _ (hw.ext (hE.trans hX))).mono ?_);rintro e w4 ⟨rfl,Af⟩;replace hX:=hX.trans Af;obtain⟨q1,q2,q3,q4,q5,q6⟩:=hC.ext hX;obtain⟨q7,q8⟩:=hP.ext hX)|((with_reducible refine(mx _ (hw.ext (hE.trans hX))).mono ?_);rintro e w5 ⟨rfl,Ae⟩;replace hX:=hX.trans Ae;obtain⟨q1,q2,q3,q4,q5,q6⟩:=hC.ext hX;obtain⟨q7,q8⟩:=hP.ext hX))
 have C5:=hE.trans hX;replace hC:=hC.ext hX;replace hP:=hP.ext hX;have hb5:=(hX.block _ (Asd hb3)).trans hb3;clear hX Bd hE hx1 hx2 hx3 Af Ae j1 j2 j3 j4 j5 j6 j7 j8 q1 q2 q3 q4 q5 q6 q7 q8 o1 VC VD dx mx hb3;have Bd:=(Aa.refl w5).drew;(go_wp2_with fail);obtain⟨j1,j2,j3,j4,j5,j6⟩:=hC;obtain⟨j7,j8⟩:=hP;have hC:=D3.mk j1 j2 j3 j4 j5 j6;have hP:=Ga.mk j7 j8
 go_region_held3 (fun w'=>w'.cell? ⟨w.heap.size,1,none⟩=some (S (R c.low.y))/\w'.cell? ⟨w.heap.size,3,none⟩=some (S (R c.high.y))/\w'.cell? ⟨w.heap.size,5,none⟩=some (.int .i64 (c.H:Nat))/\w'.cell? ⟨w.heap.size+1,1,none⟩=some (S (R p.y)))
  (go_keep)
  (first|((with_reducible refine(o2 _ (hw.ext (C5.trans Bd))).mono ?_);rintro e v1 ⟨rfl,hx1⟩;have hX:=Bd.trans hx1;obtain⟨q1,q2,q3,q4,q5,q6⟩:=hC.ext hX;obtain⟨q7,q8⟩:=hP.ext hX)|((with_reducible refine(aC _ (hw.ext (C5.trans hX))).mono ?_);rintro e v2 ⟨rfl,hx2⟩;replace hX:=hX.trans hx2;obtain⟨q1,q2,q3,q4,q5,q6⟩:=hC.ext hX;obtain⟨q7,q8⟩:=hP.ext hX)|((with_reducible refine(aD _ (hw.ext (C5.trans hX))).mono ?_);rintro e v3 ⟨rfl,hx3⟩;replace hX:=hX.trans hx3;obtain⟨q1,q2,q3,q4,q5,q6⟩:=hC.ext hX;obtain⟨q7,q8⟩:=hP.ext hX)|((with_reducible refine(dy _ (hw.ext (C5.trans hX))).mono ?_);rintro e v4 ⟨rfl,Af⟩;replace hX:=hX.trans Af;obtain⟨q1,q2,q3,q4,q5,q6⟩:=hC.ext hX;obtain⟨q7,q8⟩:=hP.ext hX)|((with_reducible refine(my _ (hw.ext (C5.trans hX))).mono ?_);rintro e v5 ⟨rfl,Ae⟩;replace hX:=hX.trans Ae;obtain⟨q1,q2,q3,q4,q5,q6⟩:=hC.ext hX;obtain⟨q7,q8⟩:=hP.ext hX))
 have Fj:=C5.trans hX;have Jl:=(hX.block _ (Asd hb5)).trans hb5;clear hX Bd C5 hx1 hx2 hx3 Af Ae j1 j2 j3 j4 j5 j6 j7 j8 q1 q2 q3 q4 q5 q6 q7 q8 o2 aC aD dy my hb5 hC hP;(go_wp2_with fail);(with_reducible refine(nx _ (hw.ext Fj)).mono ?_);rintro e x1 ⟨rfl,hx1⟩;(go_wp2_with fail);(with_reducible refine(ax _).mono ?_);rintro e x2 ⟨rfl,hx2⟩;have hX:=hx1.trans hx2;(go_wp2_with fail);(with_reducible refine(ny _ (hw.ext (Fj.trans hX))).mono ?_);rintro e x3 ⟨rfl,hx3⟩;(go_wp2_with fail);(with_reducible refine(ay _).mono ?_);rintro e x4 ⟨rfl,Af⟩;replace hX:=(hX.trans hx3).trans Af;have Gk:=Fj.trans hX;have Q7:=(hX.block _ (Asd Jl)).trans Jl;clear hX hx1 hx2 hx3 Af Fj Jl nx ny ax ay;have g1:x4.cell? ⟨w.heap.size+1+1,0,none⟩=some (.int .i64 0):=Ab Q7 rfl;have g2:x4.cell? ⟨w.heap.size+1+1,1,none⟩=some (.int .i64 0):=Ab Q7 rfl;have g3:x4.frozen? ⟨w.heap.size+1+1,0,none⟩=false:=An Q7;have g4:x4.frozen? ⟨w.heap.size+1+1,1,none⟩=false:=An Q7;obtain⟨e1,e2⟩:=set2 (.int .i64 col) (.int .i64 row) g1 g2;go_wp2;refine bodyPost_ret (v:=.tuple #[.agg #[.int .i64 col,.int .i64 row],.bool true]) (by simp [results,Tryz.results20,go_sem,e1,e2]) rfl ?_;exact⟨rfl,(Gk.setCell (by show w.heap.size<=w.heap.size+1+1;omega) _).setCell (by show w.heap.size<=w.heap.size+1+1;omega) _⟩
end
end Go.Proofs.YtdaefncphfeaeaaGreatDoor
