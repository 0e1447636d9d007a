/- Z16: R3 R4 R5 R6. -/
import Derived.Test.YtdaefncphfeaeaaGreatDoorZ15
import Derived.Test.YtdaefncphfeaeaaGreatDoorZ05
set_option maxRecDepth 100000
set_option maxHeartbeats 2000000
namespace Go.Proofs.YtdaefncphfeaeaaGreatDoor
open Go.RowKit Kl
theorem Av.of{z:Int}{k:Nat}(h:z.natAbs<10^k)(hk:k<=4000):Av z:=Asp h (Nat.pow_le_pow_right (by omega) hk)
theorem Ip(q:Rat){k:Nat}(hk:0<k)(hk2:k<=100000)(hz:Sz k q)(w:World)(hw:Ai w):Calls Tryz.prog 136 #[S (R q)] w (Bg (.tuple #[S (I q.num),S (I (q.den:Int))]) w):=by
 have h:=Aax q hk hk2 hz w hw;unfold Rz at h;rw [Ci];exact h
structure Rm(a b:Nat)(p q:Rat):Prop where
 p:Sz a p
 q:Sz b q
 a0:0<a
 b0:0<b
 le:a+b<=3990
section
variable {a b : Nat} {p q : Rat}
theorem Rm.lp(h:Rm a b p q):(R p).length<=100000:=by have:=Hv h.a0 h.p;have:=h.le;omega
theorem Rm.lq(h:Rm a b p q):(R q).length<=100000:=by have:=Hv h.b0 h.q;have:=h.le;omega
theorem Rm.bn(h:Rm a b p q):Av p.num:=Av.of h.p.num (by have:=h.le;omega)
theorem Rm.bd(h:Rm a b p q):Av (p.den:Int):=Av.of (k:=a) (by rw [Ash];exact h.p.den) (by have:=h.le;omega)
theorem Rm.bm(h:Rm a b p q):Av q.num:=Av.of h.q.num (by have:=h.le;omega)
theorem Rm.be(h:Rm a b p q):Av (q.den:Int):=Av.of (k:=b) (by rw [Ash];exact h.q.den) (by have:=h.le;omega)
theorem Rm.ne'(h:Rm a b p q):(p.num*(q.den:Int)).natAbs<10^(a+b):=by rw [Int.natAbs_mul,Ash];exact J2 h.p.num h.q.den
theorem Rm.md'(h:Rm a b p q):(q.num*(p.den:Int)).natAbs<10^(a+b):=by rw [Int.natAbs_mul,Ash,Nat.add_comm];exact J2 h.q.num h.p.den
theorem Rm.ne(h:Rm a b p q):Av (p.num*(q.den:Int)):=Av.of h.ne' (by have:=h.le;omega)
theorem Rm.md(h:Rm a b p q):Av (q.num*(p.den:Int)):=Av.of h.md' (by have:=h.le;omega)
theorem Rm.nm(h:Rm a b p q):Av (p.num*q.num):=Av.of (k:=a+b) (by rw [Int.natAbs_mul];exact J2 h.p.num h.q.num) (by have:=h.le;omega)
theorem Rm.de(h:Rm a b p q):Av ((p.den:Int)*(q.den:Int)):=Av.of (k:=a+b) (by rw [Int.natAbs_mul,Ash,Ash];exact J2 h.p.den h.q.den) (by have:=h.le;omega)
theorem Rm.sum(h:Rm a b p q):Av (p.num*(q.den:Int)+q.num*(p.den:Int)):=Av.of (k:=a+b+1) (Nat.lt_of_le_of_lt (Int.natAbs_add_le _ _) (WA h.ne' h.md')) (by have:=h.le;omega)
end
theorem Xa(p q:Rat):0<(p.den:Int)*(q.den:Int):=Int.mul_pos (by have:=p.den_pos;omega) (by have:=q.den_pos;omega)
theorem Xb(p q:Rat):((p.den:Int)*(q.den:Int)).toNat=p.den*q.den:=by rw [←Int.natCast_mul,Int.toNat_natCast]
def D5(q:Rat):Prop:=(D q.num.natAbs).length<=9/\(D q.den).length<=9
theorem Mz{q:Rat}(h:D5 q):RB q=.tuple #[.int .i64 q.num,.int .i64 q.den,.bool true]:=if_pos h
theorem RD{q:Rat}(h:¬D5 q):RB q=.tuple #[.int .i64 0,.int .i64 0,.bool false]:=if_neg h
theorem D5.num{q:Rat}(h:D5 q):q.num.natAbs<1000000000:=J1 (k:=9) h.1
theorem D5.den{q:Rat}(h:D5 q):q.den<1000000000:=J1 (k:=9) h.2
theorem Hr(q:Rat)(hl:(R q).length<=100000)(w:World):Calls Tryz.prog 138 #[S (R q)] w (fun e w'=>e=.returned (RB q)/\w=w'):=AmC q hl w
theorem K1{x y:Int}(hx:x.natAbs<1000000000)(hy:y.natAbs<1000000000):(x*y).natAbs<=999999998000000001:=by
 rw [Int.natAbs_mul];exact Va hx hy
theorem Am1(p q:Rat){a b:Nat}(hr:Rm a b p q)(Be:p≠0)(Bn:q≠0)(h1:D5 p)(h2:D5 q)(w:World)(hw:Ai w):Calls Tryz.prog 66 #[S (R p),S (R q)] w (A0 (R (p+q)) w):=by
 have q1:=Hr p hr.lp;have q2:=Hr q hr.lq;rw [Mz h1]at q1;rw [Mz h2]at q2;have n1:=D4 Be;have n2:=D4 Bn;clear Be Bn;have w1:=IU (x:=p.num) (y:=(q.den:Int)) h1.num (by rw [Ash];exact h2.den);have w2:=IU (x:=q.num) (y:=(p.den:Int)) h2.num (by rw [Ash];exact h1.den);have w3:=IU (x:=(p.den:Int)) (y:=(q.den:Int)) (by rw [Ash];exact h1.den) (by rw [Ash];exact h2.den);have b1:=K1 (x:=p.num) (y:=(q.den:Int)) h1.num (by rw [Ash];exact h2.den);have b2:=K1 (x:=q.num) (y:=(p.den:Int)) h2.num (by rw [Ash];exact h1.den);have b3:=K1 (x:=(p.den:Int)) (y:=(q.den:Int)) (by rw [Ash];exact h1.den) (by rw [Ash];exact h2.den);have w4:IntKind.i64.wrap (p.num*(q.den:Int)+q.num*(p.den:Int))=p.num*(q.den:Int)+q.num*(p.den:Int):=Asm _ (by omega);have sm:=Aay (p.num*(q.den:Int)+q.num*(p.den:Int)) (p.den*q.den) (Nat.mul_pos p.den_pos q.den_pos) (by omega) (by omega) (by rw [←Int.natCast_mul,Ash]at b3;omega);rw [Int.natCast_mul,←Rat.add_def']at sm;clear b1 b2 b3;have hx:=Aa.refl w;clear h1 h2 hr;go_enter Tryz.func66,Tryz.ntmps66;(go_wp2_with fail);(with_reducible refine(q1 _).mono ?_);rintro e w1 ⟨rfl,rfl⟩;(go_wp2_with fail);(with_reducible refine(q2 _).mono ?_);rintro e w2 ⟨rfl,rfl⟩;(go_wp2_with fail);(with_reducible refine(sm _ hw).mono ?_);rintro e w3 ⟨rfl,hx3⟩;go_wp2;go_ret;exact⟨rfl,hx3⟩
theorem Amz(p q:Rat){a b:Nat}(hr:Rm a b p q)(Be:p≠0)(Bn:q≠0)(h1:D5 p)(h2:¬D5 q)(w:World)(hw:Ai w):Calls Tryz.prog 66 #[S (R p),S (R q)] w (A0 (R (p+q)) w):=by
 have q1:=Hr p hr.lp;have q2:=Hr q hr.lq;rw [Mz h1]at q1;rw [RD h2]at q2;have n1:=D4 Be;have n2:=D4 Bn;clear Be Bn;have hx:=Aa.refl w;have pa:=Ip p hr.a0 (by have:=hr.le;omega) hr.p;have pb:=Ip q hr.b0 (by have:=hr.le;omega) hr.q;have m1:=Ij p.num (q.den:Int) hr.bn hr.be;have m2:=Ij q.num (p.den:Int) hr.bm hr.bd;have ad:=NS (p.num*(q.den:Int)) (q.num*(p.den:Int)) hr.ne hr.md;have m3:=Ij (p.den:Int) (q.den:Int) hr.bd hr.be;have lo:=Vs (p.num*(q.den:Int)+q.num*(p.den:Int)) ((p.den:Int)*(q.den:Int)) hr.sum hr.de (Xa p q);rw [Xb,←Rat.add_def']at lo;clear h1 h2 hr;go_enter Tryz.func66,Tryz.ntmps66;(go_wp2_with fail);(with_reducible refine(q1 _).mono ?_);rintro e w1 ⟨rfl,rfl⟩;(go_wp2_with fail);(with_reducible refine(q2 _).mono ?_);rintro e w2 ⟨rfl,rfl⟩;(go_wp2_with fail);(with_reducible refine(pa _ (hw.ext hx)).mono ?_);rintro e w3 ⟨rfl,hx3⟩;replace hx:=hx.trans hx3;(go_wp2_with fail);(with_reducible refine(pb _ (hw.ext hx)).mono ?_);rintro e w4 ⟨rfl,Af⟩;replace hx:=hx.trans Af;(go_wp2_with fail);(with_reducible refine(m1 _ (hw.ext hx)).mono ?_);rintro e w5 ⟨rfl,Ae⟩;replace hx:=hx.trans Ae;(go_wp2_with fail);(with_reducible refine(m2 _ (hw.ext hx)).mono ?_);rintro e w6 ⟨rfl,Ao⟩;replace hx:=hx.trans Ao;(go_wp2_with fail);(with_reducible refine(ad _ (hw.ext hx)).mono ?_);rintro e w7 ⟨rfl,Aj⟩;replace hx:=hx.trans Aj;(go_wp2_with fail);(with_reducible refine(m3 _ (hw.ext hx)).mono ?_);rintro e w8 ⟨rfl,AE⟩;replace hx:=hx.trans AE;(go_wp2_with fail);(with_reducible refine(lo _ (hw.ext hx)).mono ?_);rintro e w9 ⟨rfl,Az⟩;replace hx:=hx.trans Az;go_wp2;go_ret;exact⟨rfl,hx⟩
theorem Am0(p q:Rat){a b:Nat}(hr:Rm a b p q)(Be:p≠0)(Bn:q≠0)(h1:¬D5 p)(w:World)(hw:Ai w):Calls Tryz.prog 66 #[S (R p),S (R q)] w (A0 (R (p+q)) w):=by
 have q1:=Hr p hr.lp;rw [RD h1]at q1;have n1:=D4 Be;have n2:=D4 Bn;clear Be Bn;have hx:=Aa.refl w;have pa:=Ip p hr.a0 (by have:=hr.le;omega) hr.p;have pb:=Ip q hr.b0 (by have:=hr.le;omega) hr.q;have m1:=Ij p.num (q.den:Int) hr.bn hr.be;have m2:=Ij q.num (p.den:Int) hr.bm hr.bd;have ad:=NS (p.num*(q.den:Int)) (q.num*(p.den:Int)) hr.ne hr.md;have m3:=Ij (p.den:Int) (q.den:Int) hr.bd hr.be;have lo:=Vs (p.num*(q.den:Int)+q.num*(p.den:Int)) ((p.den:Int)*(q.den:Int)) hr.sum hr.de (Xa p q);rw [Xb,←Rat.add_def']at lo;clear h1 hr;go_enter Tryz.func66,Tryz.ntmps66;(go_wp2_with fail);(with_reducible refine(q1 _).mono ?_);rintro e w1 ⟨rfl,rfl⟩;(go_wp2_with fail);(with_reducible refine(pa _ (hw.ext hx)).mono ?_);rintro e w3 ⟨rfl,hx3⟩;replace hx:=hx.trans hx3;(go_wp2_with fail);(with_reducible refine(pb _ (hw.ext hx)).mono ?_);rintro e w4 ⟨rfl,Af⟩;replace hx:=hx.trans Af;(go_wp2_with fail);(with_reducible refine(m1 _ (hw.ext hx)).mono ?_);rintro e w5 ⟨rfl,Ae⟩;replace hx:=hx.trans Ae;(go_wp2_with fail);(with_reducible refine(m2 _ (hw.ext hx)).mono ?_);rintro e w6 ⟨rfl,Ao⟩;replace hx:=hx.trans Ao;(go_wp2_with fail);(with_reducible refine(ad _ (hw.ext hx)).mono ?_);rintro e w7 ⟨rfl,Aj⟩;replace hx:=hx.trans Aj;(go_wp2_with fail);(with_reducible refine(m3 _ (hw.ext hx)).mono ?_);rintro e w8 ⟨rfl,AE⟩;replace hx:=hx.trans AE;(go_wp2_with fail);(with_reducible refine(lo _ (hw.ext hx)).mono ?_);rintro e w9 ⟨rfl,Az⟩;replace hx:=hx.trans Az;go_wp2;go_ret;exact⟨rfl,hx⟩
theorem Ol(p q:Rat){a b:Nat}(hr:Rm a b p q)(w:World)(hw:Ai w):Calls Tryz.prog 66 #[S (R p),S (R q)] w (A0 (R (p+q)) w):=by
 by_cases Be:p=0
 ·subst Be;rw [Rat.zero_add,G7];clear hr;go_enter Tryz.func66,Tryz.ntmps66;go_wp2;go_ret;exact⟨rfl,Aa.refl _⟩
 ·by_cases Bn:q=0
  ·subst Bn;rw [Rat.add_zero,G7];have n1:=D4 Be;clear hr Be;go_enter Tryz.func66,Tryz.ntmps66;go_wp2;go_ret;exact⟨rfl,Aa.refl _⟩
  ·by_cases h1:D5 p
   ·by_cases h2:D5 q
    ·exact Am1 p q hr Be Bn h1 h2 w hw
    ·exact Amz p q hr Be Bn h1 h2 w hw
   ·exact Am0 p q hr Be Bn h1 w hw
theorem AmA(p q:Rat){a b:Nat}(hr:Rm a b p q)(Be:p≠0)(Bn:q≠0)(Er:p≠1)(B8:q≠1)(h1:D5 p)(h2:D5 q)(w:World)(hw:Ai w):Calls Tryz.prog 67 #[S (R p),S (R q)] w (A0 (R (p*q)) w):=by
 have q1:=Hr p hr.lp;have q2:=Hr q hr.lq;rw [Mz h1]at q1;rw [Mz h2]at q2;have n1:=D4 Be;have n2:=D4 Bn;have n3:=O2 Er;have n4:=O2 B8;clear Be Bn Er B8;have w1:=IU (x:=p.num) (y:=q.num) h1.num h2.num;have w3:=IU (x:=(p.den:Int)) (y:=(q.den:Int)) (by rw [Ash];exact h1.den) (by rw [Ash];exact h2.den);have b1:=K1 (x:=p.num) (y:=q.num) h1.num h2.num;have b3:=K1 (x:=(p.den:Int)) (y:=(q.den:Int)) (by rw [Ash];exact h1.den) (by rw [Ash];exact h2.den);have sm:=Aay (p.num*q.num) (p.den*q.den) (Nat.mul_pos p.den_pos q.den_pos) (by omega) (by omega) (by rw [←Int.natCast_mul,Ash]at b3;omega);rw [Int.natCast_mul,←Rat.mul_def']at sm;clear b1 b3;have hx:=Aa.refl w;clear h1 h2 hr;go_enter Tryz.func67,Tryz.ntmps67;(go_wp2_with fail);(with_reducible refine(q1 _).mono ?_);rintro e w1 ⟨rfl,rfl⟩;(go_wp2_with fail);(with_reducible refine(q2 _).mono ?_);rintro e w2 ⟨rfl,rfl⟩;(go_wp2_with fail);(with_reducible refine(sm _ hw).mono ?_);rintro e w3 ⟨rfl,hx3⟩;go_wp2;go_ret;exact⟨rfl,hx3⟩
theorem Am8(p q:Rat){a b:Nat}(hr:Rm a b p q)(Be:p≠0)(Bn:q≠0)(Er:p≠1)(B8:q≠1)(h1:D5 p)(h2:¬D5 q)(w:World)(hw:Ai w):Calls Tryz.prog 67 #[S (R p),S (R q)] w (A0 (R (p*q)) w):=by
 have q1:=Hr p hr.lp;have q2:=Hr q hr.lq;rw [Mz h1]at q1;rw [RD h2]at q2;have n1:=D4 Be;have n2:=D4 Bn;have n3:=O2 Er;have n4:=O2 B8;clear Be Bn Er B8;have hx:=Aa.refl w;have pa:=Ip p hr.a0 (by have:=hr.le;omega) hr.p;have pb:=Ip q hr.b0 (by have:=hr.le;omega) hr.q;have m1:=Ij p.num q.num hr.bn hr.bm;have m3:=Ij (p.den:Int) (q.den:Int) hr.bd hr.be;have lo:=Vs (p.num*q.num) ((p.den:Int)*(q.den:Int)) hr.nm hr.de (Xa p q);rw [Xb,←Rat.mul_def']at lo;clear h1 h2 hr;go_enter Tryz.func67,Tryz.ntmps67;(go_wp2_with fail);(with_reducible refine(q1 _).mono ?_);rintro e w1 ⟨rfl,rfl⟩;(go_wp2_with fail);(with_reducible refine(q2 _).mono ?_);rintro e w2 ⟨rfl,rfl⟩;(go_wp2_with fail);(with_reducible refine(pa _ (hw.ext hx)).mono ?_);rintro e w3 ⟨rfl,hx3⟩;replace hx:=hx.trans hx3;(go_wp2_with fail);(with_reducible refine(pb _ (hw.ext hx)).mono ?_);rintro e w4 ⟨rfl,Af⟩;replace hx:=hx.trans Af;(go_wp2_with fail);(with_reducible refine(m1 _ (hw.ext hx)).mono ?_);rintro e w5 ⟨rfl,Ae⟩;replace hx:=hx.trans Ae;(go_wp2_with fail);(with_reducible refine(m3 _ (hw.ext hx)).mono ?_);rintro e w8 ⟨rfl,AE⟩;replace hx:=hx.trans AE;(go_wp2_with fail);(with_reducible refine(lo _ (hw.ext hx)).mono ?_);rintro e w9 ⟨rfl,Az⟩;replace hx:=hx.trans Az;go_wp2;go_ret;exact⟨rfl,hx⟩
theorem Am9(p q:Rat){a b:Nat}(hr:Rm a b p q)(Be:p≠0)(Bn:q≠0)(Er:p≠1)(B8:q≠1)(h1:¬D5 p)(w:World)(hw:Ai w):Calls Tryz.prog 67 #[S (R p),S (R q)] w (A0 (R (p*q)) w):=by
 have q1:=Hr p hr.lp;rw [RD h1]at q1;have n1:=D4 Be;have n2:=D4 Bn;have n3:=O2 Er;have n4:=O2 B8;clear Be Bn Er B8;have hx:=Aa.refl w;have pa:=Ip p hr.a0 (by have:=hr.le;omega) hr.p;have pb:=Ip q hr.b0 (by have:=hr.le;omega) hr.q;have m1:=Ij p.num q.num hr.bn hr.bm;have m3:=Ij (p.den:Int) (q.den:Int) hr.bd hr.be;have lo:=Vs (p.num*q.num) ((p.den:Int)*(q.den:Int)) hr.nm hr.de (Xa p q);rw [Xb,←Rat.mul_def']at lo;clear h1 hr;go_enter Tryz.func67,Tryz.ntmps67;(go_wp2_with fail);(with_reducible refine(q1 _).mono ?_);rintro e w1 ⟨rfl,rfl⟩;(go_wp2_with fail);(with_reducible refine(pa _ (hw.ext hx)).mono ?_);rintro e w3 ⟨rfl,hx3⟩;replace hx:=hx.trans hx3;(go_wp2_with fail);(with_reducible refine(pb _ (hw.ext hx)).mono ?_);rintro e w4 ⟨rfl,Af⟩;replace hx:=hx.trans Af;(go_wp2_with fail);(with_reducible refine(m1 _ (hw.ext hx)).mono ?_);rintro e w5 ⟨rfl,Ae⟩;replace hx:=hx.trans Ae;(go_wp2_with fail);(with_reducible refine(m3 _ (hw.ext hx)).mono ?_);rintro e w8 ⟨rfl,AE⟩;replace hx:=hx.trans AE;(go_wp2_with fail);(with_reducible refine(lo _ (hw.ext hx)).mono ?_);rintro e w9 ⟨rfl,Az⟩;replace hx:=hx.trans Az;go_wp2;go_ret;exact⟨rfl,hx⟩
theorem Io(p q:Rat){a b:Nat}(hr:Rm a b p q)(w:World)(hw:Ai w):Calls Tryz.prog 67 #[S (R p),S (R q)] w (A0 (R (p*q)) w):=by
 by_cases Be:p=0
 ·subst Be;rw [Rat.zero_mul,G7];clear hr;go_enter Tryz.func67,Tryz.ntmps67;go_wp2;go_ret;exact⟨rfl,Aa.refl _⟩
 by_cases Bn:q=0
 ·subst Bn;rw [Rat.mul_zero,G7];have n1:=D4 Be;clear hr Be;go_enter Tryz.func67,Tryz.ntmps67;go_wp2;go_ret;exact⟨rfl,Aa.refl _⟩
 by_cases Er:p=1
 ·subst Er;rw [Rat.one_mul,S3];have n1:=D4 Bn;clear hr Bn Be;go_enter Tryz.func67,Tryz.ntmps67;go_wp2;go_ret;exact⟨rfl,Aa.refl _⟩
 by_cases B8:q=1
 ·subst B8;rw [Rat.mul_one,S3];have n1:=D4 Be;have n2:=O2 Er;clear hr Bn Be Er;go_enter Tryz.func67,Tryz.ntmps67;go_wp2;go_ret;exact⟨rfl,Aa.refl _⟩
 by_cases h1:D5 p
 ·by_cases h2:D5 q
  ·exact AmA p q hr Be Bn Er B8 h1 h2 w hw
  ·exact Am8 p q hr Be Bn Er B8 h1 h2 w hw
 ·exact Am9 p q hr Be Bn Er B8 h1 w hw
def AD(p q:Rat):Int:=if p<q then -1 else if p=q then 0 else 1
theorem OB{p q:Rat}(h:p<q):AD p q = -1:=if_pos h
theorem Qu{p q:Rat}(h:p=q):AD p q=0:=by unfold AD;rw [if_neg (by rw [h];exact Rat.lt_irrefl),if_pos h]
theorem SR{p q:Rat}(h:q<p):AD p q=1:=by
 unfold AD;rw [if_neg (by grind),if_neg (by rintro rfl;exact Rat.lt_irrefl h)]
theorem dR(p q:Rat):Dt (p.num*(q.den:Int)) (q.num*(p.den:Int))=AD p q:=by
 unfold Dt AD;by_cases h:p<q
 ·rw [if_pos (Rat.lt_iff _ _ |>.1 h),if_pos h]
 ·rw [if_neg (fun k=>h (Rat.lt_iff _ _ |>.2 k)),if_neg h];by_cases e:p=q
  ·rw [if_pos (Rat.eq_iff_mul_eq_mul.1 e),if_pos e]
  ·rw [if_neg (fun k=>e (Rat.eq_iff_mul_eq_mul.2 k)),if_neg e]
theorem Am6(p q:Rat){a b:Nat}(hr:Rm a b p q)(hne:p≠q)(h1:D5 p)(h2:D5 q)(w:World):Calls Tryz.prog 71 #[S (R p),S (R q)] w (AQ (AD p q) w):=by
 have q1:=Hr p hr.lp;have q2:=Hr q hr.lq;rw [Mz h1]at q1;rw [Mz h2]at q2;have n1:(R p == R q)=false:=(by rw [beq_eq_false_iff_ne];exact fun e=>hne (JH e));have w1:=IU (x:=p.num) (y:=(q.den:Int)) h1.num (by rw [Ash];exact h2.den);have w2:=IU (x:=q.num) (y:=(p.den:Int)) h2.num (by rw [Ash];exact h1.den);have hc:=dR p q;obtain⟨x,hx⟩:=AcG (p.num*(q.den:Int));obtain⟨y,hy⟩:=AcG (q.num*(p.den:Int));rw [←hx]at w1 hc;rw [←hy]at w2 hc;rw [hx]at w1;rw [hy]at w2;have w1':IntKind.i64.wrap (p.num*(q.den:Int))=x:=(by rw [hx];exact w1);have w2':IntKind.i64.wrap (q.num*(p.den:Int))=y:=(by rw [hy];exact w2);have HC:=Asb hc;clear h1 h2 hr hne w1 w2 hx hy hc
 rcases Int.lt_trichotomy x y with h|h|h
 ·have HR:=Asb (uO h);go_enter Tryz.func71,Tryz.ntmps71;(go_wp2_with fail);(with_reducible refine(q1 _).mono ?_);rintro e w1 ⟨rfl,rfl⟩;(go_wp2_with fail);(with_reducible refine(q2 _).mono ?_);rintro e w2 ⟨rfl,rfl⟩;go_wp2;go_ret;exact⟨DJ (by rw [←HC.out,HR.out]),Aa.refl _⟩
 ·have HR:=Asb (Afw h);have h1:¬x<y:=(by omega);have h2:¬y<x:=(by omega);clear h;go_enter Tryz.func71,Tryz.ntmps71;(go_wp2_with fail);(with_reducible refine(q1 _).mono ?_);rintro e w1 ⟨rfl,rfl⟩;(go_wp2_with fail);(with_reducible refine(q2 _).mono ?_);rintro e w2 ⟨rfl,rfl⟩;go_wp2;go_ret;exact⟨DJ (by rw [←HC.out,HR.out]),Aa.refl _⟩
 ·have HR:=Asb (dT h);have h1:¬x<y:=(by omega);go_enter Tryz.func71,Tryz.ntmps71;(go_wp2_with fail);(with_reducible refine(q1 _).mono ?_);rintro e w1 ⟨rfl,rfl⟩;(go_wp2_with fail);(with_reducible refine(q2 _).mono ?_);rintro e w2 ⟨rfl,rfl⟩;go_wp2;go_ret;exact⟨DJ (by rw [←HC.out,HR.out]),Aa.refl _⟩
theorem CJ(p q:Rat){a b:Nat}(hr:Rm a b p q)(w:World)(hw:Ai w):Calls Tryz.prog 71 #[S (R p),S (R q)] w (AQ (AD p q) w):=by
 by_cases EF:p=q
 ·subst EF;have HR:=Asb (Qu (rfl:p=p));have n1:(R p == R p)=true:=(by simp);clear hr;go_enter Tryz.func71,Tryz.ntmps71;go_wp2;go_ret;exact⟨DJ HR.out,Aa.refl _⟩
 by_cases h1:D5 p
 ·by_cases h2:D5 q
  ·exact Am6 p q hr EF h1 h2 w
  ·have q1:=Hr p hr.lp;have q2:=Hr q hr.lq;rw [Mz h1]at q1;rw [RD h2]at q2;have n1:(R p == R q)=false:=(by rw [beq_eq_false_iff_ne];exact fun e=>EF (JH e));have pa:=Ip p hr.a0 (by have:=hr.le;omega) hr.p;have pb:=Ip q hr.b0 (by have:=hr.le;omega) hr.q;have m1:=Ij p.num (q.den:Int) hr.bn hr.be;have m2:=Ij q.num (p.den:Int) hr.bm hr.bd;have cp:=UO _ _ hr.ne hr.md;rw [dR]at cp;have hx:=Aa.refl w;clear h1 h2 hr EF;go_enter Tryz.func71,Tryz.ntmps71;(go_wp2_with fail);(with_reducible refine(q1 _).mono ?_);rintro e w1 ⟨rfl,rfl⟩;(go_wp2_with fail);(with_reducible refine(q2 _).mono ?_);rintro e w2 ⟨rfl,rfl⟩;(go_wp2_with fail);(with_reducible refine(pa _ (hw.ext hx)).mono ?_);rintro e w3 ⟨rfl,hx3⟩;replace hx:=hx.trans hx3;(go_wp2_with fail);(with_reducible refine(pb _ (hw.ext hx)).mono ?_);rintro e w4 ⟨rfl,Af⟩;replace hx:=hx.trans Af;(go_wp2_with fail);(with_reducible refine(m1 _ (hw.ext hx)).mono ?_);rintro e w5 ⟨rfl,Ae⟩;replace hx:=hx.trans Ae;(go_wp2_with fail);(with_reducible refine(m2 _ (hw.ext hx)).mono ?_);rintro e w6 ⟨rfl,Ao⟩;replace hx:=hx.trans Ao;(go_wp2_with fail);(with_reducible refine(cp _).mono ?_);rintro e w7 ⟨rfl,Aj⟩;replace hx:=hx.trans Aj;go_wp2;go_ret;exact⟨rfl,hx⟩
 ·have q1:=Hr p hr.lp;rw [RD h1]at q1;have n1:(R p == R q)=false:=(by rw [beq_eq_false_iff_ne];exact fun e=>EF (JH e));have pa:=Ip p hr.a0 (by have:=hr.le;omega) hr.p;have pb:=Ip q hr.b0 (by have:=hr.le;omega) hr.q;have m1:=Ij p.num (q.den:Int) hr.bn hr.be;have m2:=Ij q.num (p.den:Int) hr.bm hr.bd;have cp:=UO _ _ hr.ne hr.md;rw [dR]at cp;have hx:=Aa.refl w;clear h1 hr EF;go_enter Tryz.func71,Tryz.ntmps71;(go_wp2_with fail);(with_reducible refine(q1 _).mono ?_);rintro e w1 ⟨rfl,rfl⟩;(go_wp2_with fail);(with_reducible refine(pa _ (hw.ext hx)).mono ?_);rintro e w3 ⟨rfl,hx3⟩;replace hx:=hx.trans hx3;(go_wp2_with fail);(with_reducible refine(pb _ (hw.ext hx)).mono ?_);rintro e w4 ⟨rfl,Af⟩;replace hx:=hx.trans Af;(go_wp2_with fail);(with_reducible refine(m1 _ (hw.ext hx)).mono ?_);rintro e w5 ⟨rfl,Ae⟩;replace hx:=hx.trans Ae;(go_wp2_with fail);(with_reducible refine(m2 _ (hw.ext hx)).mono ?_);rintro e w6 ⟨rfl,Ao⟩;replace hx:=hx.trans Ao;(go_wp2_with fail);(with_reducible refine(cp _).mono ?_);rintro e w7 ⟨rfl,Aj⟩;replace hx:=hx.trans Aj;go_wp2;go_ret;exact⟨rfl,hx⟩
section
theorem Rm.swap{a b:Nat}{p q:Rat}(h:Rm a b p q):Rm b a q p:=⟨h.q,h.p,h.b0,h.a0,by have:=h.le;omega⟩
theorem Aav(p q:Rat){a b:Nat}(hr:Rm a b p q)(w:World)(hw:Ai w):Calls Tryz.prog 208 #[S (R p),S (R q)] w (A0 (R (BD p q)) w):=by
 have hc:=CJ q p hr.swap w hw;clear hr;by_cases h:p<q
 ·have HM:Hid (BD p q=q):=Asb (if_pos h);rw [SR h]at hc;go_enter Tryz.func208,Tryz.ntmps208;(go_wp2_with fail);(with_reducible refine hc.mono ?_);rintro e w1 ⟨rfl,hx⟩;go_wp2;go_ret;exact⟨Ch (by rw [HM.out]),hx⟩
 ·have HM:Hid (BD p q=p):=Asb (if_neg h)
  obtain⟨s,hs,hs0⟩:∃s:Int,s=AD q p/\¬s>0:=by
   by_cases e:q=p
   ·exact⟨_,rfl,by rw [Qu e];omega⟩
   ·exact⟨_,rfl,by rw [OB (by grind)];omega⟩
  rw [←hs]at hc;clear hs h;go_enter Tryz.func208,Tryz.ntmps208;(go_wp2_with fail);(with_reducible refine hc.mono ?_);rintro e w1 ⟨rfl,hx⟩;go_wp2;go_ret;exact⟨Ch (by rw [HM.out]),hx⟩
theorem Aaw(p q:Rat){a b:Nat}(hr:Rm a b p q)(w:World)(hw:Ai w):Calls Tryz.prog 209 #[S (R p),S (R q)] w (A0 (R (BE p q)) w):=by
 have hc:=CJ q p hr.swap w hw;clear hr;by_cases h:q<p
 ·have HM:Hid (BE p q=q):=Asb (if_pos h);rw [OB h]at hc;go_enter Tryz.func209,Tryz.ntmps209;(go_wp2_with fail);(with_reducible refine hc.mono ?_);rintro e w1 ⟨rfl,hx⟩;go_wp2;go_ret;exact⟨Ch (by rw [HM.out]),hx⟩
 ·have HM:Hid (BE p q=p):=Asb (if_neg h)
  obtain⟨s,hs,hs0⟩:∃s:Int,s=AD q p/\¬s<0:=by
   by_cases e:q=p
   ·exact⟨_,rfl,by rw [Qu e];omega⟩
   ·exact⟨_,rfl,by rw [SR (by grind)];omega⟩
  rw [←hs]at hc;clear hs h;go_enter Tryz.func209,Tryz.ntmps209;(go_wp2_with fail);(with_reducible refine hc.mono ?_);rintro e w1 ⟨rfl,hx⟩;go_wp2;go_ret;exact⟨Ch (by rw [HM.out]),hx⟩
theorem BS(p q:Rat){a b:Nat}(hr:Rm a b p q)(w:World)(hw:Ai w):Calls Tryz.prog 78 #[S (R p),S (R q)] w (A0 (R (p-q)) w):=by
 have hn:=Vt q hr.b0 (by have:=hr.le;omega) hr.q;have ha:=Ol p (-q) (a:=a) (b:=b) ⟨hr.p,hr.q.neg,hr.a0,hr.b0,hr.le⟩;rw [←Rat.sub_eq_add_neg]at ha;clear hr;go_enter Tryz.func78,Tryz.ntmps78;(go_wp2_with fail);(with_reducible refine(hn _).mono ?_);rintro e w1 ⟨rfl,hx1⟩;(go_wp2_with fail);(with_reducible refine(ha _ (hw.ext hx1)).mono ?_);rintro e w2 ⟨rfl,hx2⟩;go_wp2;go_ret;exact⟨rfl,hx1.trans hx2⟩
theorem nY(n:Int)(h0:-9223372036854775808<=n)(h1:n<=9223372036854775807)(w:World)(hw:Ai w):Calls Tryz.prog 186 #[.int .i64 n] w (A0 (R (n:Rat)) w):=by
 have ho:=P7 n h0 h1 w hw;rw [Wr];clear h0 h1;go_enter Tryz.func186,Tryz.ntmps186;(go_wp2_with fail);(with_reducible refine ho.mono ?_);rintro e w1 ⟨rfl,hx1⟩;go_wp2;go_ret;exact⟨rfl,hx1⟩
theorem rV{q:Rat}(h:0<q):R q⁻¹=EQ (q.den:Int) q.num.toNat:=by
 have hn:0<q.num:=Zq.2 h;rw [LC,Rat.num_inv,Rat.den_inv,if_neg (by omega),Int.sign_eq_one_of_pos hn,Int.one_mul,show q.num.natAbs=q.num.toNat by omega]
theorem rU{q:Rat}(h:q<0):R q⁻¹=EQ (-(q.den:Int)) (-q.num).toNat:=by
 have hn:q.num<0:=IK.2 h;rw [LC,Rat.num_inv,Rat.den_inv,if_neg (by omega),Int.sign_eq_neg_one_of_neg hn,Int.neg_one_mul,show q.num.natAbs=(-q.num).toNat by omega]
theorem Av.neg{z:Int}(h:Av z):Av (-z):=by unfold Av at h ⊢;rw [Int.natAbs_neg];exact h
def GQ(q:Rat):Value:=.tuple #[S (R q),.int .i64 0]
attribute [local go_sem] SI
theorem PI(p q:Rat)(Bn:q≠0){a b:Nat}(hr:Rm a b p q)(w:World)(hw:Ai w):Calls Tryz.prog 65 #[S (R p),S (R q)] w (Bg (GQ (p/q)) w):=by
 have n1:=D4 Bn;have pb:=Ip q hr.b0 (by have:=hr.le;omega) hr.q;have hm:=Io p q⁻¹ (a:=a) (b:=b) ⟨hr.p,hr.q.inv hr.b0,hr.a0,hr.b0,hr.le⟩;rw [←Rat.div_def]at hm
 rcases Wq q with⟨hn,e⟩|⟨hp,c,l,e,hd,hc⟩
 ·rw [rU hn]at hm;have Rt:=P6 q.num hr.bm;have Mv:=P6 (q.den:Int) hr.be;have hj:=ZG (-(q.den:Int)) (-q.num) (by have:=IK.2 hn;omega) hr.be.neg hr.bm.neg;obtain⟨c,hc⟩:=AcG (45:UInt8);have hl:0<(R q).length:=(by rw [e];simp);have hg:(R q)[0]'hl=c:=(by rw [List.getElem_of_eq e hl,hc];rfl);have hcb:((c.toNat:Int) == 45)=true:=(by rw [hc];rfl);clear e hc hn hr Bn;unfold GQ;go_enter Tryz.func65,Tryz.ntmps65;(go_wp2_with fail);(with_reducible refine(pb _ hw).mono ?_);rintro e w1 ⟨rfl,hx⟩;(go_wp2_with fail);(with_reducible refine(Rt _).mono ?_);rintro e w2 ⟨rfl,hx2⟩;replace hx:=hx.trans hx2;(go_wp2_with fail);(with_reducible refine(Mv _).mono ?_);rintro e w3 ⟨rfl,hx3⟩;replace hx:=hx.trans hx3;(go_wp2_with fail);(with_reducible refine(hj _).mono ?_);rintro e w4 ⟨rfl,Af⟩;replace hx:=hx.trans Af;(go_wp2_with fail);(with_reducible refine(hm _ (hw.ext hx)).mono ?_);rintro e w5 ⟨rfl,Ae⟩;replace hx:=hx.trans Ae;go_wp2;go_ret2;exact⟨rfl,hx⟩
 ·have hp:0<q:=(by grind);rw [rV hp]at hm;have hj:=ZG (q.den:Int) q.num (Zq.2 hp) hr.be hr.bm;have hl:0<(R q).length:=(by rw [e];simp);have hg:(R q)[0]'hl=c:=(by rw [List.getElem_of_eq e hl];rfl);have hcb:((c.toNat:Int) == 45)=false:=(by rw [beq_eq_false_iff_ne];intro k;exact hc (UInt8.toNat_inj.1 (by simp;omega)));clear e hc hp hd hr Bn;unfold GQ;go_enter Tryz.func65,Tryz.ntmps65;(go_wp2_with fail);(with_reducible refine(pb _ hw).mono ?_);rintro e w1 ⟨rfl,hx⟩;(go_wp2_with fail);(with_reducible refine(hj _).mono ?_);rintro e w4 ⟨rfl,Af⟩;replace hx:=hx.trans Af;(go_wp2_with fail);(with_reducible refine(hm _ (hw.ext hx)).mono ?_);rintro e w5 ⟨rfl,Ae⟩;replace hx:=hx.trans Ae;go_wp2;go_ret2;exact⟨rfl,hx⟩
theorem AgI(n:Int)(d:Nat)(hd:0<d):n/(d:Int) = -((-n)/(d:Int)+if (-n)%(d:Int)=0 then 0 else 1):=by
 have h1:=Int.mul_ediv_add_emod (-n) (d:Int);have h2:=Int.emod_nonneg (-n) (b:=(d:Int)) (by omega);have h3:=Int.emod_lt_of_pos (-n) (b:=(d:Int)) (by omega);obtain⟨q,hq⟩:=AcG ((-n)/(d:Int));obtain⟨r,hr⟩:=AcG ((-n)%(d:Int));rw [←hq,←hr]at h1;rw [←hr]at h2 h3;rw [←hq,←hr]
 split
 ·next h0=>
  refine(ud n d _ 0 (by omega) ?_ (by omega) (by omega)).1;rw [Int.add_zero,Int.mul_neg];omega
 ·next h0=>
  refine(ud n d _ (d-r) (by omega) ?_ (by omega) (by omega)).1;rw [Int.mul_neg,Int.mul_add,Int.mul_one];omega
theorem nW(q:Rat){k:Nat}(hk:0<k)(hk2:k<=3990)(hz:Sz k q)(w:World)(hw:Ai w):Calls Tryz.prog 69 #[S (R q)] w (A0 (I q.floor) w):=by
 have pb:=Ip q hk (by omega) hz;have bn:Av q.num:=Av.of hz.num (by omega);have be:Av (q.den:Int):=Av.of (k:=k) (by rw [Ash];exact hz.den) (by omega);have hs:=NT q.num;have FI:=q.den_pos;by_cases hn:q.num<0
 ·rw [V8 hn]at hs;have Rt:=P6 q.num bn;have dm:=Zb (-q.num) (q.den:Int) bn.neg be (by omega);have hf:=AgI q.num q.den FI;rw [←Rat.floor_def]at hf
  have KW:(-q.num/(q.den:Int)).natAbs<=q.num.natAbs:=by
   have:=Int.natAbs_ediv_le_natAbs (-q.num) (q.den:Int)
   rwa [Int.natAbs_neg]at this
  unfold OF at dm;by_cases h0:(-q.num)%(q.den:Int)=0
  ·rw [if_pos h0,Int.add_zero]at hf;have Mv:=P6 (-q.num/(q.den:Int)) (Nat.lt_of_le_of_lt KW bn);rw [←hf]at Mv;have hz0:(I ((-q.num)%(q.den:Int)) == [48])=true:=(by rw [h0,ML];rfl);clear h0 hf KW hz FI bn be;go_enter Tryz.func69,Tryz.ntmps69;(go_wp2_with fail);(with_reducible refine(pb _ hw).mono ?_);rintro e w1 ⟨rfl,hx⟩;(go_wp2_with fail);(with_reducible refine(hs _).mono ?_);rintro e w2 ⟨rfl,hx2⟩;replace hx:=hx.trans hx2;(go_wp2_with fail);(with_reducible refine(Rt _).mono ?_);rintro e w3 ⟨rfl,hx3⟩;replace hx:=hx.trans hx3;(go_wp2_with fail);(with_reducible refine(dm _ (hw.ext hx)).mono ?_);rintro e w4 ⟨rfl,Af⟩;replace hx:=hx.trans Af;(go_wp2_with fail);(with_reducible refine(Mv _).mono ?_);rintro e w5 ⟨rfl,Ae⟩;replace hx:=hx.trans Ae;go_wp2;go_ret;exact⟨rfl,hx⟩
  ·rw [if_neg h0]at hf;have hb2:Av (-q.num/(q.den:Int)):=Nat.lt_of_le_of_lt KW bn;have hb1:Av 1:=Av.of (k:=1) (by decide) (by omega);have ad:=NS (-q.num/(q.den:Int)) 1 hb2 hb1;rw [MK]at ad;have Mv:=P6 (-q.num/(q.den:Int)+1) (Av.of (k:=k+1) (Nat.lt_of_le_of_lt (Int.natAbs_add_le _ _) (WA (Nat.lt_of_le_of_lt KW hz.num) (Nat.one_lt_pow (by omega) (by omega)))) (by omega));rw [←hf]at Mv;have hz0:(I ((-q.num)%(q.den:Int)) == [48])=false:=MJ h0;clear h0 hf KW hz FI bn be hb2 hb1;go_enter Tryz.func69,Tryz.ntmps69;(go_wp2_with fail);(with_reducible refine(pb _ hw).mono ?_);rintro e w1 ⟨rfl,hx⟩;(go_wp2_with fail);(with_reducible refine(hs _).mono ?_);rintro e w2 ⟨rfl,hx2⟩;replace hx:=hx.trans hx2;(go_wp2_with fail);(with_reducible refine(Rt _).mono ?_);rintro e w3 ⟨rfl,hx3⟩;replace hx:=hx.trans hx3;(go_wp2_with fail);(with_reducible refine(dm _ (hw.ext hx)).mono ?_);rintro e w4 ⟨rfl,Af⟩;replace hx:=hx.trans Af;(go_wp2_with fail);(with_reducible refine(ad _ (hw.ext hx)).mono ?_);rintro e w6 ⟨rfl,Ao⟩;replace hx:=hx.trans Ao;(go_wp2_with fail);(with_reducible refine(Mv _).mono ?_);rintro e w5 ⟨rfl,Ae⟩;replace hx:=hx.trans Ae;go_wp2;go_ret;exact⟨rfl,hx⟩
 ·have dm:=Zb q.num (q.den:Int) bn be (by omega);unfold OF at dm;rw [←Rat.floor_def]at dm;obtain⟨s,EH,hs0⟩:∃s:Int,s=Fb q.num/\0<=s:=⟨_,rfl,by unfold Fb;split<;>(try split)<;>omega⟩;rw [←EH]at hs;clear EH hn hz FI bn be;go_enter Tryz.func69,Tryz.ntmps69;(go_wp2_with fail);(with_reducible refine(pb _ hw).mono ?_);rintro e w1 ⟨rfl,hx⟩;(go_wp2_with fail);(with_reducible refine(hs _).mono ?_);rintro e w2 ⟨rfl,hx2⟩;replace hx:=hx.trans hx2;(go_wp2_with fail);(with_reducible refine(dm _ (hw.ext hx)).mono ?_);rintro e w4 ⟨rfl,Af⟩;replace hx:=hx.trans Af;go_wp2;go_ret;exact⟨rfl,hx⟩
theorem AmB(n m:Int)(hn:Av n)(hm:Av m)(hm0:0<m)(w:World)(hw:Ai w):Calls Tryz.prog 90 #[S (I n),S (I m)] w (Bg (GQ (mkRat n m.toNat)) w):=by
 have hs:=NT m;rw [RU hm0]at hs;have lo:=Vs n m hn hm hm0;clear hn hm hm0;unfold GQ;go_enter Tryz.func90,Tryz.ntmps90;(go_wp2_with fail);(with_reducible refine(hs _).mono ?_);rintro e w1 ⟨rfl,hx⟩;(go_wp2_with fail);(with_reducible refine(lo _ (hw.ext hx)).mono ?_);rintro e w2 ⟨rfl,hx2⟩;go_wp2;go_ret2;exact⟨rfl,hx.trans hx2⟩
theorem Av.small{z:Int}(h0:-9223372036854775808<=z)(h1:z<=9223372036854775807):Av z:=by
 refine Av.of (k:=19) ?_ (by omega);have e:(10:Nat)^19=10000000000000000000:=(by decide);omega
theorem nX(n m:Int)(h0:-9223372036854775808<=n)(h1:n<=9223372036854775807)(hm0:0<m)(hm1:m<=9223372036854775807)(w:World)(hw:Ai w):Calls Tryz.prog 32 #[.int .i64 n,.int .i64 m] w (Bg (GQ (mkRat n m.toNat)) w):=by
 have o1:=P7 n h0 h1;have o2:=P7 m (by omega) hm1;have nw:=AmB n m (Av.small h0 h1) (Av.small (by omega) hm1) hm0;clear h0 h1 hm0 hm1;unfold GQ at nw ⊢;go_enter Tryz.func32,Tryz.ntmps32;(go_wp2_with fail);(with_reducible refine(o1 _ hw).mono ?_);rintro e w1 ⟨rfl,hx⟩;(go_wp2_with fail);(with_reducible refine(o2 _ (hw.ext hx)).mono ?_);rintro e w2 ⟨rfl,hx2⟩;replace hx:=hx.trans hx2;(go_wp2_with fail);(with_reducible refine(nw _ (hw.ext hx)).mono ?_);rintro e w3 ⟨rfl,hx3⟩;replace hx:=hx.trans hx3;go_wp2;go_ret2;exact⟨rfl,hx⟩
end
theorem Av.of_len{z:Int}{k:Nat}(h:(D z.natAbs).length<=k)(hk:k<=4000):Av z:=Av.of (J1 h) hk
section
variable {l n d : Bs}
theorem Am5(hl:l.length<100000)(hn:(47:UInt8)∉l)(b:Bool)(hb:∀W,Calls Tryz.prog 134 #[S l] W (AQ (E8 b) W))(w:World)(hw:Ai w) :
  Calls Tryz.prog 63 #[S l] w (AQ (E8 b) w):=by
 have hc:=cut_c l [47] w hw (by omega);rw [dX hn]at hc
 cases b
 ·rw [OA]at hb ⊢;go_enter Tryz.func63,Tryz.ntmps63;(go_wp2_with fail);(with_reducible refine hc.mono ?_);rintro e w1 ⟨rfl,hx⟩;(go_wp2_with fail);(with_reducible refine(hb _).mono ?_);rintro e w2 ⟨rfl,hx2⟩;go_wp2;go_ret;exact⟨rfl,hx.trans hx2⟩
 ·rw [GA]at hb ⊢;go_enter Tryz.func63,Tryz.ntmps63;(go_wp2_with fail);(with_reducible refine hc.mono ?_);rintro e w1 ⟨rfl,hx⟩;(go_wp2_with fail);(with_reducible refine(hb _).mono ?_);rintro e w2 ⟨rfl,hx2⟩;go_wp2;go_ret;exact⟨rfl,hx.trans hx2⟩
theorem Am4(hl:(n++47::d).length<100000)(hn:(47:UInt8)∉n)(hb:∀W,Calls Tryz.prog 134 #[S n] W (AQ 2 W))(w:World)(hw:Ai w) :
  Calls Tryz.prog 63 #[S (n++47::d)] w (AQ 2 w):=by
 have hc:=cut_c (n++47::d) [47] w hw (by omega);rw [Qw hn]at hc;go_enter Tryz.func63,Tryz.ntmps63;(go_wp2_with fail);(with_reducible refine hc.mono ?_);rintro e w1 ⟨rfl,hx⟩;(go_wp2_with fail);(with_reducible refine(hb _).mono ?_);rintro e w2 ⟨rfl,hx2⟩;go_wp2;go_ret;exact⟨rfl,hx.trans hx2⟩
theorem Am3(hl:(n++47::d).length<100000)(hn:(47:UInt8)∉n)(ha:∀W,Calls Tryz.prog 134 #[S n] W (AQ 0 W))(hb:∀W,Calls Tryz.prog 134 #[S d] W (AQ 2 W))(w:World)(hw:Ai w) :
  Calls Tryz.prog 63 #[S (n++47::d)] w (AQ 2 w):=by
 have hc:=cut_c (n++47::d) [47] w hw (by omega);rw [Qw hn]at hc;go_enter Tryz.func63,Tryz.ntmps63;(go_wp2_with fail);(with_reducible refine hc.mono ?_);rintro e w1 ⟨rfl,hx⟩;(go_wp2_with fail);(with_reducible refine(ha _).mono ?_);rintro e w2 ⟨rfl,hx2⟩;replace hx:=hx.trans hx2;(go_wp2_with fail);(with_reducible refine(hb _).mono ?_);rintro e w3 ⟨rfl,hx3⟩;replace hx:=hx.trans hx3;go_wp2;go_ret;exact⟨rfl,hx⟩
end
def M9(a b:Int):Bool:=decide (1<b)&&decide (a≠0)&&decide (Int.gcd a b=1)
theorem Am2(a b:Int)(Gu:(D a.natAbs).length<=200)(EW:(D b.natAbs).length<=200)(w:World)(hw:Ai w) :
  Calls Tryz.prog 63 #[S (I a++47::I b)] w (AQ (E8 (M9 a b)) w):=by
 have ba:=Av.of_len Gu (by omega);have bb:=Av.of_len EW (by omega);have l1:=ba.len;have l2:=bb.len;have hc:=cut_c (I a++47::I b) [47] w hw (by rw [List.length_append,List.length_cons];omega);rw [Qw (S0 a)]at hc;have ca:=UN (I a);have cb:=UN (I b);rw [if_pos ⟨a,rfl,Gu⟩]at ca;rw [if_pos ⟨b,rfl,EW⟩]at cb;have hb1:Av 1:=Av.of (k:=1) (by decide) (by omega);have cp:=UO b 1 bb hb1;rw [MK]at cp;have gc:=un a b ba bb;have hlen:(I a++47::I b).length<10000:=(by rw [List.length_append,List.length_cons];omega);obtain⟨l,hl⟩:=AcG (I a++47::I b);rw [←hl]at hc ⊢;clear hl Gu EW ba bb hlen;by_cases h1:1<b
 ·rw [dT h1]at cp;by_cases h2:a=0
  ·have HV:Hid (E8 (M9 a b)=2):=Asb (by unfold M9;rw [decide_eq_false (p:=a≠0) (by simpa using h2)];simp;rfl);have hz:(I a == [48])=true:=(by rw [h2,ML];rfl);clear gc h2;go_enter Tryz.func63,Tryz.ntmps63;(go_wp2_with fail);(with_reducible refine hc.mono ?_);rintro e w1 ⟨rfl,hx⟩;(go_wp2_with fail);(with_reducible refine(ca _).mono ?_);rintro e w2 ⟨rfl,hx2⟩;replace hx:=hx.trans hx2;(go_wp2_with fail);(with_reducible refine(cb _).mono ?_);rintro e w3 ⟨rfl,hx3⟩;replace hx:=hx.trans hx3;(go_wp2_with fail);(with_reducible refine(cp _).mono ?_);rintro e w4 ⟨rfl,Af⟩;replace hx:=hx.trans Af;go_wp2;go_ret;exact⟨DJ HV.out,hx⟩
  ·have hz:=MJ h2
   have HV:Hid (E8 (M9 a b)=if Int.gcd a b=1 then 0 else 2):=Asb (by
    unfold M9;rw [decide_eq_true h1,decide_eq_true (p:=a≠0) h2];by_cases h:Int.gcd a b=1
    ·rw [if_pos h,decide_eq_true h];rfl
    ·rw [if_neg h,decide_eq_false h];rfl)
   by_cases h3:Int.gcd a b=1
   ·rw [if_pos h3]at HV;have hg1:(I (Int.gcd a b:Nat) == [49])=true:=(by rw [h3];rw [show ((1:Nat):Int)=1 from rfl,MK];rfl);clear h3 h2;go_enter Tryz.func63,Tryz.ntmps63;(go_wp2_with fail);(with_reducible refine hc.mono ?_);rintro e w1 ⟨rfl,hx⟩;(go_wp2_with fail);(with_reducible refine(ca _).mono ?_);rintro e w2 ⟨rfl,hx2⟩;replace hx:=hx.trans hx2;(go_wp2_with fail);(with_reducible refine(cb _).mono ?_);rintro e w3 ⟨rfl,hx3⟩;replace hx:=hx.trans hx3;(go_wp2_with fail);(with_reducible refine(cp _).mono ?_);rintro e w4 ⟨rfl,Af⟩;replace hx:=hx.trans Af;(go_wp2_with fail);(with_reducible refine(gc _ (hw.ext hx)).mono ?_);rintro e w5 ⟨rfl,Ae⟩;replace hx:=hx.trans Ae;go_wp2;go_ret;exact⟨DJ HV.out,hx⟩
   ·rw [if_neg h3]at HV;have hg1:(I (Int.gcd a b:Nat) == [49])=false:=rQ (by omega);clear h3 h2;go_enter Tryz.func63,Tryz.ntmps63;(go_wp2_with fail);(with_reducible refine hc.mono ?_);rintro e w1 ⟨rfl,hx⟩;(go_wp2_with fail);(with_reducible refine(ca _).mono ?_);rintro e w2 ⟨rfl,hx2⟩;replace hx:=hx.trans hx2;(go_wp2_with fail);(with_reducible refine(cb _).mono ?_);rintro e w3 ⟨rfl,hx3⟩;replace hx:=hx.trans hx3;(go_wp2_with fail);(with_reducible refine(cp _).mono ?_);rintro e w4 ⟨rfl,Af⟩;replace hx:=hx.trans Af;(go_wp2_with fail);(with_reducible refine(gc _ (hw.ext hx)).mono ?_);rintro e w5 ⟨rfl,Ae⟩;replace hx:=hx.trans Ae;go_wp2;go_ret;exact⟨DJ HV.out,hx⟩
 ·have HV:Hid (E8 (M9 a b)=2):=Asb (by unfold M9;rw [decide_eq_false h1];rfl);obtain⟨s,hs,hs0⟩:∃s:Int,s=Dt b 1/\s<=0:=⟨_,rfl,by unfold Dt;split<;>(try split)<;>omega⟩;rw [←hs]at cp;clear hs gc h1;go_enter Tryz.func63,Tryz.ntmps63;(go_wp2_with fail);(with_reducible refine hc.mono ?_);rintro e w1 ⟨rfl,hx⟩;(go_wp2_with fail);(with_reducible refine(ca _).mono ?_);rintro e w2 ⟨rfl,hx2⟩;replace hx:=hx.trans hx2;(go_wp2_with fail);(with_reducible refine(cb _).mono ?_);rintro e w3 ⟨rfl,hx3⟩;replace hx:=hx.trans hx3;(go_wp2_with fail);(with_reducible refine(cp _).mono ?_);rintro e w4 ⟨rfl,Af⟩;replace hx:=hx.trans Af;go_wp2;go_ret;exact⟨DJ HV.out,hx⟩
open Classical in
theorem Afk(l:Bs):(if LA l then (0:Int)else 2)=E8 (decide (LA l)):=by
 by_cases h:LA l
 ·rw [if_pos h,decide_eq_true h];rfl
 ·rw [if_neg h,decide_eq_false h];rfl
open Classical in
theorem Aau(l:Bs)(hl:l.length<100000)(w:World)(hw:Ai w):Calls Tryz.prog 63 #[S l] w (AQ (E8 (decide (EK l))) w):=by
 rcases Af6 l with⟨n,d,rfl,hn,-⟩|⟨hn,-⟩
 ·have ca:=UN n;have cb:=UN d;by_cases h1:LA n
  ·rw [if_pos h1]at ca;by_cases h2:LA d
   ·obtain⟨a,rfl,ha⟩:=h1;obtain⟨b,rfl,hb⟩:=h2;have h:=Am2 a b ha hb w hw
    have e:M9 a b=decide (EK (I a++47::I b)):=by
     rw [Bool.eq_iff_iff,decide_eq_true_eq,nC hn];unfold M9;simp only [Bool.and_eq_true,decide_eq_true_eq];constructor
     ·rintro⟨⟨x1,x2⟩,x3⟩;exact⟨a,b,rfl,rfl,ha,hb,x1,x2,x3⟩
     ·rintro⟨a',b',e1,e2,_,_,x1,x2,x3⟩;obtain rfl:=Qa e1;obtain rfl:=Qa e2;exact⟨⟨x1,x2⟩,x3⟩
    rw [←e];exact h
   ·rw [if_neg h2]at cb
    have e:decide (EK (n++47::d))=false:=by rw [decide_eq_false_iff_not,nC hn];rintro⟨a,b,_,e2,_,hb,_⟩;exact h2 ⟨b,e2,hb⟩
    rw [e];exact Am3 hl hn ca cb w hw
  ·rw [if_neg h1]at ca
   have e:decide (EK (n++47::d))=false:=by rw [decide_eq_false_iff_not,nC hn];rintro⟨a,b,e1,_,ha,_⟩;exact h1 ⟨a,e1,ha⟩
   rw [e];exact Am4 hl hn ca w hw
 ·have ca:=UN l;simp only [Afk]at ca;have e:decide (EK l)=decide (LA l):=(by rw [Bool.eq_iff_iff,decide_eq_true_eq,decide_eq_true_eq];exact Al5 hn);rw [e];exact Am5 hl hn _ ca w hw
end Go.Proofs.YtdaefncphfeaeaaGreatDoor
