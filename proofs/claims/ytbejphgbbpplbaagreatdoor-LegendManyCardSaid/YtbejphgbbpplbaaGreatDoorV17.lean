/- V17: R3 R4 R5 R6 G1 G2 G3 G4 G5 G6 G7 G8A G9 G10 G11 F1 F2 F3 F4 H1 H2 H3 H4. -/
import Derived.Test.YtbejphgbbpplbaaGreatDoorV16
import Derived.Test.YtbejphgbbpplbaaGreatDoorV06
set_option maxRecDepth 100000
set_option maxHeartbeats 8000000
namespace Go.Proofs.YtbejphgbbpplbaaGreatDoor
open Go.RowKit Kl
theorem AB.of{z:Int}{k:Nat}(h:z.natAbs<10^k)(hk:k<=4000):AB z:=Anh h (Nat.pow_le_pow_right (by omega) hk)
theorem GW(q:Rat){k:Nat}(hk:0<k)(hk2:k<=100000)(hz:Sz k q)(w:World)(hw:An w):Calls Tryz.prog 143 #[S (R q)] w (CU (.tuple #[S (I q.num),S (I (q.den:Int))]) w):=by
 have h:=Ai4 q hk hk2 hz w hw;unfold Tj at h;rw [DU];exact h
structure Rm(a b:Nat)(p q:Rat):Prop where
 p:Sz a p
 q:Sz b q
 a0:0<a
 b0:0<b
 le:a+b<=3990
section
variable {a b : Nat} {p q : Rat}
theorem Rm.lp(h:Rm a b p q):(R p).length<=100000:=by have:=Nk h.a0 h.p;have:=h.le;omega
theorem Rm.lq(h:Rm a b p q):(R q).length<=100000:=by have:=Nk h.b0 h.q;have:=h.le;omega
theorem Rm.bn(h:Rm a b p q):AB p.num:=AB.of h.p.num (by have:=h.le;omega)
theorem Rm.bd(h:Rm a b p q):AB (p.den:Int):=AB.of (k:=a) (by rw [AmZ];exact h.p.den) (by have:=h.le;omega)
theorem Rm.bm(h:Rm a b p q):AB q.num:=AB.of h.q.num (by have:=h.le;omega)
theorem Rm.be(h:Rm a b p q):AB (q.den:Int):=AB.of (k:=b) (by rw [AmZ];exact h.q.den) (by have:=h.le;omega)
theorem Rm.ne'(h:Rm a b p q):(p.num*(q.den:Int)).natAbs<10^(a+b):=by rw [Int.natAbs_mul,AmZ];exact Lk h.p.num h.q.den
theorem Rm.md'(h:Rm a b p q):(q.num*(p.den:Int)).natAbs<10^(a+b):=by rw [Int.natAbs_mul,AmZ,Nat.add_comm];exact Lk h.q.num h.p.den
theorem Rm.ne(h:Rm a b p q):AB (p.num*(q.den:Int)):=AB.of h.ne' (by have:=h.le;omega)
theorem Rm.md(h:Rm a b p q):AB (q.num*(p.den:Int)):=AB.of h.md' (by have:=h.le;omega)
theorem Rm.nm(h:Rm a b p q):AB (p.num*q.num):=AB.of (k:=a+b) (by rw [Int.natAbs_mul];exact Lk h.p.num h.q.num) (by have:=h.le;omega)
theorem Rm.de(h:Rm a b p q):AB ((p.den:Int)*(q.den:Int)):=AB.of (k:=a+b) (by rw [Int.natAbs_mul,AmZ,AmZ];exact Lk h.p.den h.q.den) (by have:=h.le;omega)
theorem Rm.sum(h:Rm a b p q):AB (p.num*(q.den:Int)+q.num*(p.den:Int)):=AB.of (k:=a+b+1) (Nat.lt_of_le_of_lt (Int.natAbs_add_le _ _) (mA h.ne' h.md')) (by have:=h.le;omega)
end
theorem Uz(p q:Rat):0<(p.den:Int)*(q.den:Int):=Int.mul_pos (by have:=p.den_pos;omega) (by have:=q.den_pos;omega)
theorem U0(p q:Rat):((p.den:Int)*(q.den:Int)).toNat=p.den*q.den:=by rw [←Int.natCast_mul,Int.toNat_natCast]
def CE(q:Rat):Prop:=(D q.num.natAbs).length<=9/\(D q.den).length<=9
theorem Lo{q:Rat}(h:CE q):Qb q=.tuple #[.int .i64 q.num,.int .i64 q.den,.bool true]:=if_pos h
theorem Qc{q:Rat}(h:¬CE q):Qb q=.tuple #[.int .i64 0,.int .i64 0,.bool false]:=if_neg h
theorem CE.num{q:Rat}(h:CE q):q.num.natAbs<1000000000:=Lh (k:=9) h.1
theorem CE.den{q:Rat}(h:CE q):q.den<1000000000:=Lh (k:=9) h.2
theorem Gb(q:Rat)(hl:(R q).length<=100000)(w:World):Calls Tryz.prog 142 #[S (R q)] w (fun e w'=>e=.returned (Qb q)/\w=w'):=Ai5 q hl w
theorem QK{x y:Int}(hx:x.natAbs<1000000000)(hy:y.natAbs<1000000000):(x*y).natAbs<=999999998000000001:=by
 rw [Int.natAbs_mul];exact SX hx hy
theorem Ais(p q:Rat){a b:Nat}(hr:Rm a b p q)(Bw:p≠0)(AE:q≠0)(h1:CE p)(h2:CE q)(w:World)(hw:An w):Calls Tryz.prog 270 #[S (R p),S (R q)] w (Bc (R (p+q)) w):=by
 have q1:=Gb p hr.lp;have q2:=Gb q hr.lq;rw [Lo h1]at q1;rw [Lo h2]at q2;have n1:=D5 Bw;have n2:=D5 AE;clear Bw AE;have w1:=MS (x:=p.num) (y:=(q.den:Int)) h1.num (by rw [AmZ];exact h2.den);have w2:=MS (x:=q.num) (y:=(p.den:Int)) h2.num (by rw [AmZ];exact h1.den);have w3:=MS (x:=(p.den:Int)) (y:=(q.den:Int)) (by rw [AmZ];exact h1.den) (by rw [AmZ];exact h2.den);have b1:=QK (x:=p.num) (y:=(q.den:Int)) h1.num (by rw [AmZ];exact h2.den);have b2:=QK (x:=q.num) (y:=(p.den:Int)) h2.num (by rw [AmZ];exact h1.den);have b3:=QK (x:=(p.den:Int)) (y:=(q.den:Int)) (by rw [AmZ];exact h1.den) (by rw [AmZ];exact h2.den);have w4:IntKind.i64.wrap (p.num*(q.den:Int)+q.num*(p.den:Int))=p.num*(q.den:Int)+q.num*(p.den:Int):=Ane _ (by omega);have sm:=j9 (p.num*(q.den:Int)+q.num*(p.den:Int)) (p.den*q.den) (Nat.mul_pos p.den_pos q.den_pos) (by omega) (by omega) (by rw [←Int.natCast_mul,AmZ]at b3;omega);rw [Int.natCast_mul,←Rat.add_def']at sm;clear b1 b2 b3;have hx:=Aa.refl w;clear h1 h2 hr;go_enter Tryz.func270,Tryz.ntmps270;(go_wp2_with fail);(with_reducible refine(q1 _).mono ?_);rintro e w1 ⟨rfl,rfl⟩;(go_wp2_with fail);(with_reducible refine(q2 _).mono ?_);rintro e w2 ⟨rfl,rfl⟩;(go_wp2_with fail);(with_reducible refine(sm _ hw).mono ?_);rintro e w3 ⟨rfl,hx3⟩;go_wp2;go_ret;exact⟨rfl,hx3⟩
theorem Aiq(p q:Rat){a b:Nat}(hr:Rm a b p q)(Bw:p≠0)(AE:q≠0)(h1:CE p)(h2:¬CE q)(w:World)(hw:An w):Calls Tryz.prog 270 #[S (R p),S (R q)] w (Bc (R (p+q)) w):=by
 have q1:=Gb p hr.lp;have q2:=Gb q hr.lq;rw [Lo h1]at q1;rw [Qc h2]at q2;have n1:=D5 Bw;have n2:=D5 AE;clear Bw AE;have hx:=Aa.refl w;have pa:=GW p hr.a0 (by have:=hr.le;omega) hr.p;have pb:=GW q hr.b0 (by have:=hr.le;omega) hr.q;have m1:=G0 p.num (q.den:Int) hr.bn hr.be;have m2:=G0 q.num (p.den:Int) hr.bm hr.bd;have ad:=zM (p.num*(q.den:Int)) (q.num*(p.den:Int)) hr.ne hr.md;have m3:=G0 (p.den:Int) (q.den:Int) hr.bd hr.be;have lo:=WP (p.num*(q.den:Int)+q.num*(p.den:Int)) ((p.den:Int)*(q.den:Int)) hr.sum hr.de (Uz p q);rw [U0,←Rat.add_def']at lo;clear h1 h2 hr;go_enter Tryz.func270,Tryz.ntmps270;(go_wp2_with fail);(with_reducible refine(q1 _).mono ?_);rintro e w1 ⟨rfl,rfl⟩;(go_wp2_with fail);(with_reducible refine(q2 _).mono ?_);rintro e w2 ⟨rfl,rfl⟩;(go_wp2_with fail);(with_reducible refine(pa _ (hw.ext hx)).mono ?_);rintro e w3 ⟨rfl,hx3⟩;replace hx:=hx.trans hx3;(go_wp2_with fail);(with_reducible refine(pb _ (hw.ext hx)).mono ?_);rintro e w4 ⟨rfl,Ai⟩;replace hx:=hx.trans Ai;(go_wp2_with fail);(with_reducible refine(m1 _ (hw.ext hx)).mono ?_);rintro e w5 ⟨rfl,Ad⟩;replace hx:=hx.trans Ad;(go_wp2_with fail);(with_reducible refine(m2 _ (hw.ext hx)).mono ?_);rintro e w6 ⟨rfl,AC⟩;replace hx:=hx.trans AC;(go_wp2_with fail);(with_reducible refine(ad _ (hw.ext hx)).mono ?_);rintro e w7 ⟨rfl,AG⟩;replace hx:=hx.trans AG;(go_wp2_with fail);(with_reducible refine(m3 _ (hw.ext hx)).mono ?_);rintro e w8 ⟨rfl,Bq⟩;replace hx:=hx.trans Bq;(go_wp2_with fail);(with_reducible refine(lo _ (hw.ext hx)).mono ?_);rintro e w9 ⟨rfl,Cl⟩;replace hx:=hx.trans Cl;go_wp2;go_ret;exact⟨rfl,hx⟩
theorem Air(p q:Rat){a b:Nat}(hr:Rm a b p q)(Bw:p≠0)(AE:q≠0)(h1:¬CE p)(w:World)(hw:An w):Calls Tryz.prog 270 #[S (R p),S (R q)] w (Bc (R (p+q)) w):=by
 have q1:=Gb p hr.lp;rw [Qc h1]at q1;have n1:=D5 Bw;have n2:=D5 AE;clear Bw AE;have hx:=Aa.refl w;have pa:=GW p hr.a0 (by have:=hr.le;omega) hr.p;have pb:=GW q hr.b0 (by have:=hr.le;omega) hr.q;have m1:=G0 p.num (q.den:Int) hr.bn hr.be;have m2:=G0 q.num (p.den:Int) hr.bm hr.bd;have ad:=zM (p.num*(q.den:Int)) (q.num*(p.den:Int)) hr.ne hr.md;have m3:=G0 (p.den:Int) (q.den:Int) hr.bd hr.be;have lo:=WP (p.num*(q.den:Int)+q.num*(p.den:Int)) ((p.den:Int)*(q.den:Int)) hr.sum hr.de (Uz p q);rw [U0,←Rat.add_def']at lo;clear h1 hr;go_enter Tryz.func270,Tryz.ntmps270;(go_wp2_with fail);(with_reducible refine(q1 _).mono ?_);rintro e w1 ⟨rfl,rfl⟩;(go_wp2_with fail);(with_reducible refine(pa _ (hw.ext hx)).mono ?_);rintro e w3 ⟨rfl,hx3⟩;replace hx:=hx.trans hx3;(go_wp2_with fail);(with_reducible refine(pb _ (hw.ext hx)).mono ?_);rintro e w4 ⟨rfl,Ai⟩;replace hx:=hx.trans Ai;(go_wp2_with fail);(with_reducible refine(m1 _ (hw.ext hx)).mono ?_);rintro e w5 ⟨rfl,Ad⟩;replace hx:=hx.trans Ad;(go_wp2_with fail);(with_reducible refine(m2 _ (hw.ext hx)).mono ?_);rintro e w6 ⟨rfl,AC⟩;replace hx:=hx.trans AC;(go_wp2_with fail);(with_reducible refine(ad _ (hw.ext hx)).mono ?_);rintro e w7 ⟨rfl,AG⟩;replace hx:=hx.trans AG;(go_wp2_with fail);(with_reducible refine(m3 _ (hw.ext hx)).mono ?_);rintro e w8 ⟨rfl,Bq⟩;replace hx:=hx.trans Bq;(go_wp2_with fail);(with_reducible refine(lo _ (hw.ext hx)).mono ?_);rintro e w9 ⟨rfl,Cl⟩;replace hx:=hx.trans Cl;go_wp2;go_ret;exact⟨rfl,hx⟩
theorem iC(p q:Rat){a b:Nat}(hr:Rm a b p q)(w:World)(hw:An w):Calls Tryz.prog 270 #[S (R p),S (R q)] w (Bc (R (p+q)) w):=by
 by_cases Bw:p=0
 ·subst Bw;rw [Rat.zero_add,Ki];clear hr;go_enter Tryz.func270,Tryz.ntmps270;go_wp2;go_ret;exact⟨rfl,Aa.refl _⟩
 ·by_cases AE:q=0
  ·subst AE;rw [Rat.add_zero,Ki];have n1:=D5 Bw;clear hr Bw;go_enter Tryz.func270,Tryz.ntmps270;go_wp2;go_ret;exact⟨rfl,Aa.refl _⟩
  ·by_cases h1:CE p
   ·by_cases h2:CE q
    ·exact Ais p q hr Bw AE h1 h2 w hw
    ·exact Aiq p q hr Bw AE h1 h2 w hw
   ·exact Air p q hr Bw AE h1 w hw
theorem Ai2(p q:Rat){a b:Nat}(hr:Rm a b p q)(Bw:p≠0)(AE:q≠0)(Dx:p≠1)(AQ:q≠1)(h1:CE p)(h2:CE q)(w:World)(hw:An w):Calls Tryz.prog 256 #[S (R p),S (R q)] w (Bc (R (p*q)) w):=by
 have q1:=Gb p hr.lp;have q2:=Gb q hr.lq;rw [Lo h1]at q1;rw [Lo h2]at q2;have n1:=D5 Bw;have n2:=D5 AE;have n3:=Nl Dx;have n4:=Nl AQ;clear Bw AE Dx AQ;have w1:=MS (x:=p.num) (y:=q.num) h1.num h2.num;have w3:=MS (x:=(p.den:Int)) (y:=(q.den:Int)) (by rw [AmZ];exact h1.den) (by rw [AmZ];exact h2.den);have b1:=QK (x:=p.num) (y:=q.num) h1.num h2.num;have b3:=QK (x:=(p.den:Int)) (y:=(q.den:Int)) (by rw [AmZ];exact h1.den) (by rw [AmZ];exact h2.den);have sm:=j9 (p.num*q.num) (p.den*q.den) (Nat.mul_pos p.den_pos q.den_pos) (by omega) (by omega) (by rw [←Int.natCast_mul,AmZ]at b3;omega);rw [Int.natCast_mul,←Rat.mul_def']at sm;clear b1 b3;have hx:=Aa.refl w;clear h1 h2 hr;go_enter Tryz.func256,Tryz.ntmps256;(go_wp2_with fail);(with_reducible refine(q1 _).mono ?_);rintro e w1 ⟨rfl,rfl⟩;(go_wp2_with fail);(with_reducible refine(q2 _).mono ?_);rintro e w2 ⟨rfl,rfl⟩;(go_wp2_with fail);(with_reducible refine(sm _ hw).mono ?_);rintro e w3 ⟨rfl,hx3⟩;go_wp2;go_ret;exact⟨rfl,hx3⟩
theorem Ai0(p q:Rat){a b:Nat}(hr:Rm a b p q)(Bw:p≠0)(AE:q≠0)(Dx:p≠1)(AQ:q≠1)(h1:CE p)(h2:¬CE q)(w:World)(hw:An w):Calls Tryz.prog 256 #[S (R p),S (R q)] w (Bc (R (p*q)) w):=by
 have q1:=Gb p hr.lp;have q2:=Gb q hr.lq;rw [Lo h1]at q1;rw [Qc h2]at q2;have n1:=D5 Bw;have n2:=D5 AE;have n3:=Nl Dx;have n4:=Nl AQ;clear Bw AE Dx AQ;have hx:=Aa.refl w;have pa:=GW p hr.a0 (by have:=hr.le;omega) hr.p;have pb:=GW q hr.b0 (by have:=hr.le;omega) hr.q;have m1:=G0 p.num q.num hr.bn hr.bm;have m3:=G0 (p.den:Int) (q.den:Int) hr.bd hr.be;have lo:=WP (p.num*q.num) ((p.den:Int)*(q.den:Int)) hr.nm hr.de (Uz p q);rw [U0,←Rat.mul_def']at lo;clear h1 h2 hr;go_enter Tryz.func256,Tryz.ntmps256;(go_wp2_with fail);(with_reducible refine(q1 _).mono ?_);rintro e w1 ⟨rfl,rfl⟩;(go_wp2_with fail);(with_reducible refine(q2 _).mono ?_);rintro e w2 ⟨rfl,rfl⟩;(go_wp2_with fail);(with_reducible refine(pa _ (hw.ext hx)).mono ?_);rintro e w3 ⟨rfl,hx3⟩;replace hx:=hx.trans hx3;(go_wp2_with fail);(with_reducible refine(pb _ (hw.ext hx)).mono ?_);rintro e w4 ⟨rfl,Ai⟩;replace hx:=hx.trans Ai;(go_wp2_with fail);(with_reducible refine(m1 _ (hw.ext hx)).mono ?_);rintro e w5 ⟨rfl,Ad⟩;replace hx:=hx.trans Ad;(go_wp2_with fail);(with_reducible refine(m3 _ (hw.ext hx)).mono ?_);rintro e w8 ⟨rfl,Bq⟩;replace hx:=hx.trans Bq;(go_wp2_with fail);(with_reducible refine(lo _ (hw.ext hx)).mono ?_);rintro e w9 ⟨rfl,Cl⟩;replace hx:=hx.trans Cl;go_wp2;go_ret;exact⟨rfl,hx⟩
theorem Ai1(p q:Rat){a b:Nat}(hr:Rm a b p q)(Bw:p≠0)(AE:q≠0)(Dx:p≠1)(AQ:q≠1)(h1:¬CE p)(w:World)(hw:An w):Calls Tryz.prog 256 #[S (R p),S (R q)] w (Bc (R (p*q)) w):=by
 have q1:=Gb p hr.lp;rw [Qc h1]at q1;have n1:=D5 Bw;have n2:=D5 AE;have n3:=Nl Dx;have n4:=Nl AQ;clear Bw AE Dx AQ;have hx:=Aa.refl w;have pa:=GW p hr.a0 (by have:=hr.le;omega) hr.p;have pb:=GW q hr.b0 (by have:=hr.le;omega) hr.q;have m1:=G0 p.num q.num hr.bn hr.bm;have m3:=G0 (p.den:Int) (q.den:Int) hr.bd hr.be;have lo:=WP (p.num*q.num) ((p.den:Int)*(q.den:Int)) hr.nm hr.de (Uz p q);rw [U0,←Rat.mul_def']at lo;clear h1 hr;go_enter Tryz.func256,Tryz.ntmps256;(go_wp2_with fail);(with_reducible refine(q1 _).mono ?_);rintro e w1 ⟨rfl,rfl⟩;(go_wp2_with fail);(with_reducible refine(pa _ (hw.ext hx)).mono ?_);rintro e w3 ⟨rfl,hx3⟩;replace hx:=hx.trans hx3;(go_wp2_with fail);(with_reducible refine(pb _ (hw.ext hx)).mono ?_);rintro e w4 ⟨rfl,Ai⟩;replace hx:=hx.trans Ai;(go_wp2_with fail);(with_reducible refine(m1 _ (hw.ext hx)).mono ?_);rintro e w5 ⟨rfl,Ad⟩;replace hx:=hx.trans Ad;(go_wp2_with fail);(with_reducible refine(m3 _ (hw.ext hx)).mono ?_);rintro e w8 ⟨rfl,Bq⟩;replace hx:=hx.trans Bq;(go_wp2_with fail);(with_reducible refine(lo _ (hw.ext hx)).mono ?_);rintro e w9 ⟨rfl,Cl⟩;replace hx:=hx.trans Cl;go_wp2;go_ret;exact⟨rfl,hx⟩
theorem Qf(p q:Rat){a b:Nat}(hr:Rm a b p q)(w:World)(hw:An w):Calls Tryz.prog 256 #[S (R p),S (R q)] w (Bc (R (p*q)) w):=by
 by_cases Bw:p=0
 ·subst Bw;rw [Rat.zero_mul,Ki];clear hr;go_enter Tryz.func256,Tryz.ntmps256;go_wp2;go_ret;exact⟨rfl,Aa.refl _⟩
 by_cases AE:q=0
 ·subst AE;rw [Rat.mul_zero,Ki];have n1:=D5 Bw;clear hr Bw;go_enter Tryz.func256,Tryz.ntmps256;go_wp2;go_ret;exact⟨rfl,Aa.refl _⟩
 by_cases Dx:p=1
 ·subst Dx;rw [Rat.one_mul,Ua];have n1:=D5 AE;clear hr AE Bw;go_enter Tryz.func256,Tryz.ntmps256;go_wp2;go_ret;exact⟨rfl,Aa.refl _⟩
 by_cases AQ:q=1
 ·subst AQ;rw [Rat.mul_one,Ua];have n1:=D5 Bw;have n2:=Nl Dx;clear hr AE Bw Dx;go_enter Tryz.func256,Tryz.ntmps256;go_wp2;go_ret;exact⟨rfl,Aa.refl _⟩
 by_cases h1:CE p
 ·by_cases h2:CE q
  ·exact Ai2 p q hr Bw AE Dx AQ h1 h2 w hw
  ·exact Ai0 p q hr Bw AE Dx AQ h1 h2 w hw
 ·exact Ai1 p q hr Bw AE Dx AQ h1 w hw
def AN(p q:Rat):Int:=if p<q then -1 else if p=q then 0 else 1
theorem Abe{p q:Rat}(h:p=q):AN p q=0:=by unfold AN;rw [if_neg (by rw [h];exact Rat.lt_irrefl),if_pos h]
theorem YE(p q:Rat):DX (p.num*(q.den:Int)) (q.num*(p.den:Int))=AN p q:=by
 unfold DX AN;by_cases h:p<q
 ·rw [if_pos (Rat.lt_iff _ _ |>.1 h),if_pos h]
 ·rw [if_neg (fun k=>h (Rat.lt_iff _ _ |>.2 k)),if_neg h];by_cases e:p=q
  ·rw [if_pos (Rat.eq_iff_mul_eq_mul.1 e),if_pos e]
  ·rw [if_neg (fun k=>e (Rat.eq_iff_mul_eq_mul.2 k)),if_neg e]
theorem Aix(p q:Rat){a b:Nat}(hr:Rm a b p q)(hne:p≠q)(h1:CE p)(h2:CE q)(w:World):Calls Tryz.prog 76 #[S (R p),S (R q)] w (AA (AN p q) w):=by
 have q1:=Gb p hr.lp;have q2:=Gb q hr.lq;rw [Lo h1]at q1;rw [Lo h2]at q2;have n1:(R p == R q)=false:=(by rw [beq_eq_false_iff_ne];exact fun e=>hne (Nj e));have w1:=MS (x:=p.num) (y:=(q.den:Int)) h1.num (by rw [AmZ];exact h2.den);have w2:=MS (x:=q.num) (y:=(p.den:Int)) h2.num (by rw [AmZ];exact h1.den);have hc:=YE p q;obtain⟨x,hx⟩:=AmT (p.num*(q.den:Int));obtain⟨y,hy⟩:=AmT (q.num*(p.den:Int));rw [←hx]at w1 hc;rw [←hy]at w2 hc;rw [hx]at w1;rw [hy]at w2;have w1':IntKind.i64.wrap (p.num*(q.den:Int))=x:=(by rw [hx];exact w1);have w2':IntKind.i64.wrap (q.num*(p.den:Int))=y:=(by rw [hy];exact w2);have HC:=AmU hc;clear h1 h2 hr hne w1 w2 hx hy hc
 rcases Int.lt_trichotomy x y with h|h|h
 ·have HR:=AmU (oL h);go_enter Tryz.func76,Tryz.ntmps76;(go_wp2_with fail);(with_reducible refine(q1 _).mono ?_);rintro e w1 ⟨rfl,rfl⟩;(go_wp2_with fail);(with_reducible refine(q2 _).mono ?_);rintro e w2 ⟨rfl,rfl⟩;go_wp2;go_ret;exact⟨Be (by rw [←HC.out,HR.out]),Aa.refl _⟩
 ·have HR:=AmU (Abg h);have h1:¬x<y:=(by omega);have h2:¬y<x:=(by omega);clear h;go_enter Tryz.func76,Tryz.ntmps76;(go_wp2_with fail);(with_reducible refine(q1 _).mono ?_);rintro e w1 ⟨rfl,rfl⟩;(go_wp2_with fail);(with_reducible refine(q2 _).mono ?_);rintro e w2 ⟨rfl,rfl⟩;go_wp2;go_ret;exact⟨Be (by rw [←HC.out,HR.out]),Aa.refl _⟩
 ·have HR:=AmU (YG h);have h1:¬x<y:=(by omega);go_enter Tryz.func76,Tryz.ntmps76;(go_wp2_with fail);(with_reducible refine(q1 _).mono ?_);rintro e w1 ⟨rfl,rfl⟩;(go_wp2_with fail);(with_reducible refine(q2 _).mono ?_);rintro e w2 ⟨rfl,rfl⟩;go_wp2;go_ret;exact⟨Be (by rw [←HC.out,HR.out]),Aa.refl _⟩
theorem Jd(p q:Rat){a b:Nat}(hr:Rm a b p q)(w:World)(hw:An w):Calls Tryz.prog 76 #[S (R p),S (R q)] w (AA (AN p q) w):=by
 by_cases Mx:p=q
 ·subst Mx;have HR:=AmU (Abe (rfl:p=p));have n1:(R p == R p)=true:=(by simp);clear hr;go_enter Tryz.func76,Tryz.ntmps76;go_wp2;go_ret;exact⟨Be HR.out,Aa.refl _⟩
 by_cases h1:CE p
 ·by_cases h2:CE q
  ·exact Aix p q hr Mx h1 h2 w
  ·have q1:=Gb p hr.lp;have q2:=Gb q hr.lq;rw [Lo h1]at q1;rw [Qc h2]at q2;have n1:(R p == R q)=false:=(by rw [beq_eq_false_iff_ne];exact fun e=>Mx (Nj e));have pa:=GW p hr.a0 (by have:=hr.le;omega) hr.p;have pb:=GW q hr.b0 (by have:=hr.le;omega) hr.q;have m1:=G0 p.num (q.den:Int) hr.bn hr.be;have m2:=G0 q.num (p.den:Int) hr.bm hr.bd;have cp:=dW _ _ hr.ne hr.md;rw [YE]at cp;have hx:=Aa.refl w;clear h1 h2 hr Mx;go_enter Tryz.func76,Tryz.ntmps76;(go_wp2_with fail);(with_reducible refine(q1 _).mono ?_);rintro e w1 ⟨rfl,rfl⟩;(go_wp2_with fail);(with_reducible refine(q2 _).mono ?_);rintro e w2 ⟨rfl,rfl⟩;(go_wp2_with fail);(with_reducible refine(pa _ (hw.ext hx)).mono ?_);rintro e w3 ⟨rfl,hx3⟩;replace hx:=hx.trans hx3;(go_wp2_with fail);(with_reducible refine(pb _ (hw.ext hx)).mono ?_);rintro e w4 ⟨rfl,Ai⟩;replace hx:=hx.trans Ai;(go_wp2_with fail);(with_reducible refine(m1 _ (hw.ext hx)).mono ?_);rintro e w5 ⟨rfl,Ad⟩;replace hx:=hx.trans Ad;(go_wp2_with fail);(with_reducible refine(m2 _ (hw.ext hx)).mono ?_);rintro e w6 ⟨rfl,AC⟩;replace hx:=hx.trans AC;(go_wp2_with fail);(with_reducible refine(cp _).mono ?_);rintro e w7 ⟨rfl,AG⟩;replace hx:=hx.trans AG;go_wp2;go_ret;exact⟨rfl,hx⟩
 ·have q1:=Gb p hr.lp;rw [Qc h1]at q1;have n1:(R p == R q)=false:=(by rw [beq_eq_false_iff_ne];exact fun e=>Mx (Nj e));have pa:=GW p hr.a0 (by have:=hr.le;omega) hr.p;have pb:=GW q hr.b0 (by have:=hr.le;omega) hr.q;have m1:=G0 p.num (q.den:Int) hr.bn hr.be;have m2:=G0 q.num (p.den:Int) hr.bm hr.bd;have cp:=dW _ _ hr.ne hr.md;rw [YE]at cp;have hx:=Aa.refl w;clear h1 hr Mx;go_enter Tryz.func76,Tryz.ntmps76;(go_wp2_with fail);(with_reducible refine(q1 _).mono ?_);rintro e w1 ⟨rfl,rfl⟩;(go_wp2_with fail);(with_reducible refine(pa _ (hw.ext hx)).mono ?_);rintro e w3 ⟨rfl,hx3⟩;replace hx:=hx.trans hx3;(go_wp2_with fail);(with_reducible refine(pb _ (hw.ext hx)).mono ?_);rintro e w4 ⟨rfl,Ai⟩;replace hx:=hx.trans Ai;(go_wp2_with fail);(with_reducible refine(m1 _ (hw.ext hx)).mono ?_);rintro e w5 ⟨rfl,Ad⟩;replace hx:=hx.trans Ad;(go_wp2_with fail);(with_reducible refine(m2 _ (hw.ext hx)).mono ?_);rintro e w6 ⟨rfl,AC⟩;replace hx:=hx.trans AC;(go_wp2_with fail);(with_reducible refine(cp _).mono ?_);rintro e w7 ⟨rfl,AG⟩;replace hx:=hx.trans AG;go_wp2;go_ret;exact⟨rfl,hx⟩
section
theorem Rm.swap{a b:Nat}{p q:Rat}(h:Rm a b p q):Rm b a q p:=⟨h.q,h.p,h.b0,h.a0,by have:=h.le;omega⟩
theorem GX(p q:Rat){a b:Nat}(hr:Rm a b p q)(w:World)(hw:An w):Calls Tryz.prog 254 #[S (R p),S (R q)] w (Bc (R (p-q)) w):=by
 have hn:=Ai3 q hr.b0 (by have:=hr.le;omega) hr.q;have ha:=iC p (-q) (a:=a) (b:=b) ⟨hr.p,hr.q.neg,hr.a0,hr.b0,hr.le⟩;rw [←Rat.sub_eq_add_neg]at ha;clear hr;go_enter Tryz.func254,Tryz.ntmps254;(go_wp2_with fail);(with_reducible refine(hn _).mono ?_);rintro e w1 ⟨rfl,hx1⟩;(go_wp2_with fail);(with_reducible refine(ha _ (hw.ext hx1)).mono ?_);rintro e w2 ⟨rfl,hx2⟩;go_wp2;go_ret;exact⟨rfl,hx1.trans hx2⟩
theorem yc{q:Rat}(h:0<q):R q⁻¹=EP (q.den:Int) q.num.toNat:=by
 have hn:0<q.num:=fp.2 h;rw [Ni,Rat.num_inv,Rat.den_inv,if_neg (by omega),Int.sign_eq_one_of_pos hn,Int.one_mul,show q.num.natAbs=q.num.toNat by omega]
theorem yb{q:Rat}(h:q<0):R q⁻¹=EP (-(q.den:Int)) (-q.num).toNat:=by
 have hn:q.num<0:=IZ.2 h;rw [Ni,Rat.num_inv,Rat.den_inv,if_neg (by omega),Int.sign_eq_neg_one_of_neg hn,Int.neg_one_mul,show q.num.natAbs=(-q.num).toNat by omega]
theorem AB.neg{z:Int}(h:AB z):AB (-z):=by unfold AB at h ⊢;rw [Int.natAbs_neg];exact h
def WQ(q:Rat):Value:=.tuple #[S (R q),.int .i64 0]
attribute [local go_sem] QN
theorem Aiy(p q:Rat)(AE:q≠0){a b:Nat}(hr:Rm a b p q)(w:World)(hw:An w):Calls Tryz.prog 253 #[S (R p),S (R q)] w (CU (WQ (p/q)) w):=by
 have n1:=D5 AE;have pb:=GW q hr.b0 (by have:=hr.le;omega) hr.q;have hm:=Qf p q⁻¹ (a:=a) (b:=b) ⟨hr.p,hr.q.inv hr.b0,hr.a0,hr.b0,hr.le⟩;rw [←Rat.div_def]at hm
 rcases XX q with⟨hn,e⟩|⟨hp,c,l,e,hd,hc⟩
 ·rw [yb hn]at hm;have ne1:=zP q.num hr.bm;have ne2:=zP (q.den:Int) hr.be;have hj:=WO (-(q.den:Int)) (-q.num) (by have:=IZ.2 hn;omega) hr.be.neg hr.bm.neg;obtain⟨c,hc⟩:=AmT (45:UInt8);have hl:0<(R q).length:=(by rw [e];simp);have hg:(R q)[0]'hl=c:=(by rw [List.getElem_of_eq e hl,hc];rfl);have hcb:((c.toNat:Int) == 45)=true:=(by rw [hc];rfl);clear e hc hn hr AE;unfold WQ;go_enter Tryz.func253,Tryz.ntmps253;(go_wp2_with fail);(with_reducible refine(pb _ hw).mono ?_);rintro e w1 ⟨rfl,hx⟩;(go_wp2_with fail);(with_reducible refine(ne1 _).mono ?_);rintro e w2 ⟨rfl,hx2⟩;replace hx:=hx.trans hx2;(go_wp2_with fail);(with_reducible refine(ne2 _).mono ?_);rintro e w3 ⟨rfl,hx3⟩;replace hx:=hx.trans hx3;(go_wp2_with fail);(with_reducible refine(hj _).mono ?_);rintro e w4 ⟨rfl,Ai⟩;replace hx:=hx.trans Ai;(go_wp2_with fail);(with_reducible refine(hm _ (hw.ext hx)).mono ?_);rintro e w5 ⟨rfl,Ad⟩;replace hx:=hx.trans Ad;go_wp2;go_ret2;exact⟨rfl,hx⟩
 ·have hp:0<q:=(by grind);rw [yc hp]at hm;have hj:=WO (q.den:Int) q.num (fp.2 hp) hr.be hr.bm;have hl:0<(R q).length:=(by rw [e];simp);have hg:(R q)[0]'hl=c:=(by rw [List.getElem_of_eq e hl];rfl);have hcb:((c.toNat:Int) == 45)=false:=(by rw [beq_eq_false_iff_ne];intro k;exact hc (UInt8.toNat_inj.1 (by simp;omega)));clear e hc hp hd hr AE;unfold WQ;go_enter Tryz.func253,Tryz.ntmps253;(go_wp2_with fail);(with_reducible refine(pb _ hw).mono ?_);rintro e w1 ⟨rfl,hx⟩;(go_wp2_with fail);(with_reducible refine(hj _).mono ?_);rintro e w4 ⟨rfl,Ai⟩;replace hx:=hx.trans Ai;(go_wp2_with fail);(with_reducible refine(hm _ (hw.ext hx)).mono ?_);rintro e w5 ⟨rfl,Ad⟩;replace hx:=hx.trans Ad;go_wp2;go_ret2;exact⟨rfl,hx⟩
end
theorem AB.of_len{z:Int}{k:Nat}(h:(D z.natAbs).length<=k)(hk:k<=4000):AB z:=AB.of (Lh h) hk
section
variable {l n d : Bs}
theorem Aiw(hl:l.length<100000)(hn:(47:UInt8)∉l)(b:Bool)(hb:∀W,Calls Tryz.prog 219 #[S l] W (AA (FD b) W))(w:World)(hw:An w) :
  Calls Tryz.prog 140 #[S l] w (AA (FD b) w):=by
 have hc:=cut_c l [47] w hw (by omega);rw [YL hn]at hc
 cases b
 ·rw [Np]at hb ⊢;go_enter Tryz.func140,Tryz.ntmps140;(go_wp2_with fail);(with_reducible refine hc.mono ?_);rintro e w1 ⟨rfl,hx⟩;(go_wp2_with fail);(with_reducible refine(hb _).mono ?_);rintro e w2 ⟨rfl,hx2⟩;go_wp2;go_ret;exact⟨rfl,hx.trans hx2⟩
 ·rw [Kr]at hb ⊢;go_enter Tryz.func140,Tryz.ntmps140;(go_wp2_with fail);(with_reducible refine hc.mono ?_);rintro e w1 ⟨rfl,hx⟩;(go_wp2_with fail);(with_reducible refine(hb _).mono ?_);rintro e w2 ⟨rfl,hx2⟩;go_wp2;go_ret;exact⟨rfl,hx.trans hx2⟩
theorem Aiv(hl:(n++47::d).length<100000)(hn:(47:UInt8)∉n)(hb:∀W,Calls Tryz.prog 219 #[S n] W (AA 2 W))(w:World)(hw:An w) :
  Calls Tryz.prog 140 #[S (n++47::d)] w (AA 2 w):=by
 have hc:=cut_c (n++47::d) [47] w hw (by omega);rw [OM hn]at hc;go_enter Tryz.func140,Tryz.ntmps140;(go_wp2_with fail);(with_reducible refine hc.mono ?_);rintro e w1 ⟨rfl,hx⟩;(go_wp2_with fail);(with_reducible refine(hb _).mono ?_);rintro e w2 ⟨rfl,hx2⟩;go_wp2;go_ret;exact⟨rfl,hx.trans hx2⟩
theorem Aiu(hl:(n++47::d).length<100000)(hn:(47:UInt8)∉n)(ha:∀W,Calls Tryz.prog 219 #[S n] W (AA 0 W))(hb:∀W,Calls Tryz.prog 219 #[S d] W (AA 2 W))(w:World)(hw:An w) :
  Calls Tryz.prog 140 #[S (n++47::d)] w (AA 2 w):=by
 have hc:=cut_c (n++47::d) [47] w hw (by omega);rw [OM hn]at hc;go_enter Tryz.func140,Tryz.ntmps140;(go_wp2_with fail);(with_reducible refine hc.mono ?_);rintro e w1 ⟨rfl,hx⟩;(go_wp2_with fail);(with_reducible refine(ha _).mono ?_);rintro e w2 ⟨rfl,hx2⟩;replace hx:=hx.trans hx2;(go_wp2_with fail);(with_reducible refine(hb _).mono ?_);rintro e w3 ⟨rfl,hx3⟩;replace hx:=hx.trans hx3;go_wp2;go_ret;exact⟨rfl,hx⟩
end
def Lu(a b:Int):Bool:=decide (1<b)&&decide (a≠0)&&decide (Int.gcd a b=1)
theorem Ait(a b:Int)(FT:(D a.natAbs).length<=200)(FU:(D b.natAbs).length<=200)(w:World)(hw:An w) :
  Calls Tryz.prog 140 #[S (I a++47::I b)] w (AA (FD (Lu a b)) w):=by
 have ba:=AB.of_len FT (by omega);have bb:=AB.of_len FU (by omega);have l1:=ba.len;have l2:=bb.len;have hc:=cut_c (I a++47::I b) [47] w hw (by rw [List.length_append,List.length_cons];omega);rw [OM (XQ a)]at hc;have ca:=SJ (I a);have cb:=SJ (I b);rw [if_pos ⟨a,rfl,FT⟩]at ca;rw [if_pos ⟨b,rfl,FU⟩]at cb;have hb1:AB 1:=AB.of (k:=1) (by decide) (by omega);have cp:=dW b 1 bb hb1;rw [Q8]at cp;have gc:=zO a b ba bb;have hlen:(I a++47::I b).length<10000:=(by rw [List.length_append,List.length_cons];omega);obtain⟨l,hl⟩:=AmT (I a++47::I b);rw [←hl]at hc ⊢;clear hl FT FU ba bb hlen;by_cases h1:1<b
 ·rw [YG h1]at cp;by_cases h2:a=0
  ·have HV:Hid (FD (Lu a b)=2):=AmU (by unfold Lu;rw [decide_eq_false (p:=a≠0) (by simpa using h2)];simp;rfl);have hz:(I a == [48])=true:=(by rw [h2,Q9];rfl);clear gc h2;go_enter Tryz.func140,Tryz.ntmps140;(go_wp2_with fail);(with_reducible refine hc.mono ?_);rintro e w1 ⟨rfl,hx⟩;(go_wp2_with fail);(with_reducible refine(ca _).mono ?_);rintro e w2 ⟨rfl,hx2⟩;replace hx:=hx.trans hx2;(go_wp2_with fail);(with_reducible refine(cb _).mono ?_);rintro e w3 ⟨rfl,hx3⟩;replace hx:=hx.trans hx3;(go_wp2_with fail);(with_reducible refine(cp _).mono ?_);rintro e w4 ⟨rfl,Ai⟩;replace hx:=hx.trans Ai;go_wp2;go_ret;exact⟨Be HV.out,hx⟩
  ·have hz:=Q7 h2
   have HV:Hid (FD (Lu a b)=if Int.gcd a b=1 then 0 else 2):=AmU (by
    unfold Lu;rw [decide_eq_true h1,decide_eq_true (p:=a≠0) h2];by_cases h:Int.gcd a b=1
    ·rw [if_pos h,decide_eq_true h];rfl
    ·rw [if_neg h,decide_eq_false h];rfl)
   by_cases h3:Int.gcd a b=1
   ·rw [if_pos h3]at HV;have hg1:(I (Int.gcd a b:Nat) == [49])=true:=(by rw [h3];rw [show ((1:Nat):Int)=1 from rfl,Q8];rfl);clear h3 h2;go_enter Tryz.func140,Tryz.ntmps140;(go_wp2_with fail);(with_reducible refine hc.mono ?_);rintro e w1 ⟨rfl,hx⟩;(go_wp2_with fail);(with_reducible refine(ca _).mono ?_);rintro e w2 ⟨rfl,hx2⟩;replace hx:=hx.trans hx2;(go_wp2_with fail);(with_reducible refine(cb _).mono ?_);rintro e w3 ⟨rfl,hx3⟩;replace hx:=hx.trans hx3;(go_wp2_with fail);(with_reducible refine(cp _).mono ?_);rintro e w4 ⟨rfl,Ai⟩;replace hx:=hx.trans Ai;(go_wp2_with fail);(with_reducible refine(gc _ (hw.ext hx)).mono ?_);rintro e w5 ⟨rfl,Ad⟩;replace hx:=hx.trans Ad;go_wp2;go_ret;exact⟨Be HV.out,hx⟩
   ·rw [if_neg h3]at HV;have hg1:(I (Int.gcd a b:Nat) == [49])=false:=lH (by omega);clear h3 h2;go_enter Tryz.func140,Tryz.ntmps140;(go_wp2_with fail);(with_reducible refine hc.mono ?_);rintro e w1 ⟨rfl,hx⟩;(go_wp2_with fail);(with_reducible refine(ca _).mono ?_);rintro e w2 ⟨rfl,hx2⟩;replace hx:=hx.trans hx2;(go_wp2_with fail);(with_reducible refine(cb _).mono ?_);rintro e w3 ⟨rfl,hx3⟩;replace hx:=hx.trans hx3;(go_wp2_with fail);(with_reducible refine(cp _).mono ?_);rintro e w4 ⟨rfl,Ai⟩;replace hx:=hx.trans Ai;(go_wp2_with fail);(with_reducible refine(gc _ (hw.ext hx)).mono ?_);rintro e w5 ⟨rfl,Ad⟩;replace hx:=hx.trans Ad;go_wp2;go_ret;exact⟨Be HV.out,hx⟩
 ·have HV:Hid (FD (Lu a b)=2):=AmU (by unfold Lu;rw [decide_eq_false h1];rfl);obtain⟨s,hs,hs0⟩:∃s:Int,s=DX b 1/\s<=0:=⟨_,rfl,by unfold DX;split<;>(try split)<;>omega⟩;rw [←hs]at cp;clear hs gc h1;go_enter Tryz.func140,Tryz.ntmps140;(go_wp2_with fail);(with_reducible refine hc.mono ?_);rintro e w1 ⟨rfl,hx⟩;(go_wp2_with fail);(with_reducible refine(ca _).mono ?_);rintro e w2 ⟨rfl,hx2⟩;replace hx:=hx.trans hx2;(go_wp2_with fail);(with_reducible refine(cb _).mono ?_);rintro e w3 ⟨rfl,hx3⟩;replace hx:=hx.trans hx3;(go_wp2_with fail);(with_reducible refine(cp _).mono ?_);rintro e w4 ⟨rfl,Ai⟩;replace hx:=hx.trans Ai;go_wp2;go_ret;exact⟨Be HV.out,hx⟩
open Classical in
theorem AaV(l:Bs):(if Kh l then (0:Int)else 2)=FD (decide (Kh l)):=by
 by_cases h:Kh l
 ·rw [if_pos h,decide_eq_true h];rfl
 ·rw [if_neg h,decide_eq_false h];rfl
open Classical in
theorem iD(l:Bs)(hl:l.length<100000)(w:World)(hw:An w):Calls Tryz.prog 140 #[S l] w (AA (FD (decide (BK l))) w):=by
 rcases Ab4 l with⟨n,d,rfl,hn,-⟩|⟨hn,-⟩
 ·have ca:=SJ n;have cb:=SJ d;by_cases h1:Kh n
  ·rw [if_pos h1]at ca;by_cases h2:Kh d
   ·obtain⟨a,rfl,ha⟩:=h1;obtain⟨b,rfl,hb⟩:=h2;have h:=Ait a b ha hb w hw
    have e:Lu a b=decide (BK (I a++47::I b)):=by
     rw [Bool.eq_iff_iff,decide_eq_true_eq,fP hn];unfold Lu;simp only [Bool.and_eq_true,decide_eq_true_eq];constructor
     ·rintro⟨⟨x1,x2⟩,x3⟩;exact⟨a,b,rfl,rfl,ha,hb,x1,x2,x3⟩
     ·rintro⟨a',b',e1,e2,_,_,x1,x2,x3⟩;obtain rfl:=O4 e1;obtain rfl:=O4 e2;exact⟨⟨x1,x2⟩,x3⟩
    rw [←e];exact h
   ·rw [if_neg h2]at cb
    have e:decide (BK (n++47::d))=false:=by rw [decide_eq_false_iff_not,fP hn];rintro⟨a,b,_,e2,_,hb,_⟩;exact h2 ⟨b,e2,hb⟩
    rw [e];exact Aiu hl hn ca cb w hw
  ·rw [if_neg h1]at ca
   have e:decide (BK (n++47::d))=false:=by rw [decide_eq_false_iff_not,fP hn];rintro⟨a,b,e1,_,ha,_⟩;exact h1 ⟨a,e1,ha⟩
   rw [e];exact Aiv hl hn ca w hw
 ·have ca:=SJ l;simp only [AaV]at ca;have e:decide (BK l)=decide (Kh l):=(by rw [Bool.eq_iff_iff,decide_eq_true_eq,decide_eq_true_eq];exact Ahu hn);rw [e];exact Aiw hl hn _ ca w hw
structure Ae(w:World)(A:Option Addr)(cs:List Value):Prop where
 ad:0<cs.length→∃b o,A=some ⟨b,o,none⟩/\∀j (h:j<cs.length),w.cell? ⟨b,o+j,none⟩=some cs[j]
theorem Ae.ext{w w':World}{A:Option Addr}{cs:List Value}(h:Ae w A cs)(hx:Aa w w'):Ae w' A cs:=
 ⟨fun h0=>by
  obtain⟨b,o,e,hc⟩:=h.ad h0
  exact⟨b,o,e,fun j hj=>hx.cellS (hc j hj)⟩⟩
theorem Ae.lit(w:World)(cs:Array Value)(t:TypeId):Ae (w.alloc (.cells cs t)) (some ⟨w.heap.size,0,none⟩) cs.toList:=
 ⟨fun _=>⟨w.heap.size,0,rfl,fun j hj=>by
  refine Ab (AmW w _) ?_
  rw [Nat.zero_add,←Array.getElem?_toList,Anc hj]⟩⟩
def fK(l:List Bs):Prop:=∀x∈l,BK x
theorem Ahi{x y:Bs} : fK [x,y]↔BK x/\BK y:=by unfold fK;simp
open Classical in
theorem Ahd(l:List Bs)(ok:Bool)(Aj:ok=true↔fK l)(A:Option Addr)(c:Nat)(w:World)(hw:An w)(hr:Ae w A (l.map S))(_:l.length<=c)(_:c<=9223372036854775807)(hl:l.length<=100000)(hlen:∀x∈l,x.length<100000) :
  Calls Tryz.prog 146 #[.slice A l.length c] w (AA (FD ok) w):=by
 have HV:=AmU Aj;have HL:=AmU hlen;clear Aj hlen;go_enter Tryz.func146,Tryz.ntmps146;go_wp2
 go_loopw [8] (fun i wr=>∃j:Nat,i=.int .i64 (j:Nat)/\j<=l.length/\(∀x∈l.take j,BK x)/\Aa w wr) (fun i _=>l.length-(intOf i).toNat)
 case atStart=>exact⟨0,rfl,by omega,by simp,Aa.refl _⟩
 case round=>
  obtain⟨j,rfl,hj,Aj,Ac⟩:=hrel;have HO:=AmU Aj;clear Aj;by_cases hlt:j<l.length
  ·obtain⟨b,o,rfl,hcs⟩:=(hr.ext Ac).ad (by simp;omega);have hg:=hcs j (by simp;omega);rw [List.getElem_map]at hg;clear hcs;obtain⟨x,hx⟩:=AmT (l[j]);rw [←hx]at hg;have hmem:x∈l:=(by rw [hx];exact AmY hlt);have ck:=iD x (HL.out x hmem) wr (hw.ext Ac);have HX:=AmU hx;clear hx;have hj0:(0:Int)<=(j:Int):=(by omega);have AV:(j:Int)<(l.length:Int):=(by omega);by_cases hx:BK x
   ·rw [decide_eq_true hx,Kr]at ck;(go_wp2_with fail);(with_reducible refine ck.mono ?_);rintro e w2 ⟨rfl,hx2⟩;go_wp2;go_roundw
    case rel=>
     refine⟨j+1,by go_num,hlt,?_,Ac.trans hx2⟩;intro y hy;rw [Ana hlt,←HX.out]at hy
     rcases List.mem_append.1 hy with h|h
     ·exact HO.out y h
     ·simp only [Ank]at h;rw [h];exact hx
    case measure=>simp [intOf];omega
   ·rw [decide_eq_false hx,Np]at ck
    have hv:ok=false:=by
     cases ok
     ·rfl
     ·exact absurd (HV.out.1 rfl x hmem) hx
    subst hv;rw [Np];(go_wp2_with fail);(with_reducible refine ck.mono ?_);rintro e w2 ⟨rfl,hx2⟩;go_wp2;go_ret;exact⟨rfl,Ac.trans hx2⟩
  ·have hv:ok=true:=HV.out.2 (by
    have:=HO.out
    rwa [Ang (by omega)]at this)
   subst hv;rw [Kr];go_wp2;go_ret;exact⟨rfl,Ac⟩
theorem nQ(x y:Bs)(ok:Bool)(Aj:ok=true↔BK x/\BK y)(hx:x.length<100000)(hy:y.length<100000)(w:World)(hw:An w) :
  Calls Tryz.prog 77 #[.agg #[S x,S y]] w (AA (FD ok) w):=by
 have e1:=(Aa.refl w).alloc (.cells #[S x,S y] 94);have e2:=e1.alloc (.cells #[S x,S y] 24);have hr:=Ae.lit (w.alloc (.cells #[S x,S y] 94)) #[S x,S y] 24;have nm:=Ahd [x,y] ok (by rw [Aj,Ahi]) _ 2 _ (hw.ext e2) hr (by simp) (by omega) (by simp) (by intro z hz;simp only [List.mem_cons,Anj,or_false]at hz;rcases hz with rfl|rfl<;>assumption);simp only [List.length_cons,List.length_nil,Nat.zero_add,Nat.reduceAdd,Anf]at nm;clear hr Aj;go_enter Tryz.func77,Tryz.ntmps77;(go_wp2_with fail);(with_reducible refine nm.mono ?_);rintro e w2 ⟨rfl,hx2⟩;go_wp2;go_ret;exact⟨rfl,e2.trans hx2⟩
def flat(l:List (Bs×Bs)):List Value:=l.flatMap fun p=>[S p.1,S p.2]
theorem flat_length(l:List (Bs×Bs)):(flat l).length=l.length*2:=by
 induction l with
 | nil=>rfl
 | cons p l ih=>unfold flat at *;simp only [List.flatMap_cons,List.length_append,List.length_cons,List.length_nil];omega
theorem flat_get:∀(l:List (Bs×Bs)) (j:Nat) (h:j<l.length),(flat l)[j*2]?=some (S l[j].1)/\(flat l)[j*2+1]?=some (S l[j].2)
 | p::l,0,_=>⟨rfl,rfl⟩
 | p::l,j+1,h=>by have ih:=flat_get l j (by simpa using h);have e:flat (p::l)=S p.1::S p.2::flat l:=rfl;rw [e,show (j+1)*2=j*2+1+1 by omega];exact ih
theorem OF(w:World)(o1 o2 o3:Obj):∃W,W=((w.alloc o1).alloc o2).alloc o3/\Aa w W/\W.heap[w.heap.size]?=some o1/\W.heap[w.heap.size+1]?=some o2/\W.heap[w.heap.size+1+1]?=some o3:=by
 have h2:=AmW (w.alloc o1) o2;have h3:=AmW ((w.alloc o1).alloc o2) o3;rw [Anf]at h2;rw [Anf,Anf]at h3;refine⟨_,rfl,(((Aa.refl _).alloc _).alloc _).alloc _,?_,?_,h3⟩
 ·exact(Below.heap_alloc _ _ _ (by simp;omega)).trans ((Below.heap_alloc _ _ _ (by simp)).trans (AmW w o1))
 ·exact(Below.heap_alloc _ _ _ (by simp)).trans h2
theorem set2{w:World}{b:Nat}{a0 a1:Value}(v0 v1:Value)(g1:w.cell? ⟨b,0,none⟩=some a0)(g2:w.cell? ⟨b,1,none⟩=some a1) :
  ((w.setCell ⟨b,0,none⟩ v0).setCell ⟨b,1,none⟩ v1).cell? ⟨b,0,none⟩=some v0/\((w.setCell ⟨b,0,none⟩ v0).setCell ⟨b,1,none⟩ v1).cell? ⟨b,1,none⟩=some v1:=by
 refine⟨(World.cell?_setCell_other _ _ _ _ (by simp)).trans (World.cell?_setCell_same _ _ _ g1),?_⟩;exact World.cell?_setCell_same _ _ _ ((World.cell?_setCell_other _ _ _ _ (by simp)).trans g2)
def Ak(p:Pt):Value:=.agg #[S (R p.x),S (R p.y)]
def As(s:Sg):Value:=.agg #[S (R s.a.x),S (R s.a.y),S (R s.b.x),S (R s.b.y)]
structure Ar(k:Nat)(p:Pt):Prop where
 x:Sz k p.x
 y:Sz k p.y
structure Ei(k:Nat)(s:Sg):Prop where
 a:Ar k s.a
 b:Ar k s.b
structure L6(W:World)(b:Nat)(c:Cv):Prop where
 k1:W.cell? ⟨b,0,none⟩=some (S (R c.low.x))
 k2:W.cell? ⟨b,1,none⟩=some (S (R c.low.y))
 k3:W.cell? ⟨b,2,none⟩=some (S (R c.high.x))
 k4:W.cell? ⟨b,3,none⟩=some (S (R c.high.y))
 k5:W.cell? ⟨b,4,none⟩=some (.int .i64 (c.W:Nat))
 k6:W.cell? ⟨b,5,none⟩=some (.int .i64 (c.H:Nat))
theorem L6.ext{W V:World}{b:Nat}{c:Cv}(h:L6 W b c)(hx:Aa W V):L6 V b c:=
 ⟨hx.cellS h.k1,hx.cellS h.k2,hx.cellS h.k3,hx.cellS h.k4,hx.cellS h.k5,hx.cellS h.k6⟩
theorem L6.of{W:World}{b:Nat}{c:Cv}{t:TypeId}(h:W.heap[b]?=some (.cells #[S (R c.low.x),S (R c.low.y),S (R c.high.x),S (R c.high.y),.int .i64 (c.W:Nat),.int .i64 (c.H:Nat)] t)):L6 W b c:=
 ⟨Ab h rfl,Ab h rfl,Ab h rfl,Ab h rfl,Ab h rfl,Ab h rfl⟩
structure Jl(W:World)(b:Nat)(p:Pt):Prop where
 k1:W.cell? ⟨b,0,none⟩=some (S (R p.x))
 k2:W.cell? ⟨b,1,none⟩=some (S (R p.y))
theorem Jl.ext{W V:World}{b:Nat}{p:Pt}(h:Jl W b p)(hx:Aa W V):Jl V b p:=⟨hx.cellS h.k1,hx.cellS h.k2⟩
structure Xi(W:World)(bl:Nat)(l h:Rat):Prop where
 l:W.heap[bl]?=some (.cells #[S (R l)] 24)
 h:W.heap[bl+1]?=some (.cells #[S (R h)] 24)
theorem Xi.ext{W V:World}{bl:Nat}{l h:Rat}(hb:Xi W bl l h)(hx:Aa W V):Xi V bl l h:=
 ⟨(hx.block _ (AmV hb.l)).trans hb.l,(hx.block _ (AmV hb.h)).trans hb.h⟩
structure Oo(W:World)(b:Nat)(s:Sg):Prop where
 k1:W.cell? ⟨b,0,none⟩=some (S (R s.a.x))
 k2:W.cell? ⟨b,1,none⟩=some (S (R s.a.y))
 k3:W.cell? ⟨b,2,none⟩=some (S (R s.b.x))
 k4:W.cell? ⟨b,3,none⟩=some (S (R s.b.y))
theorem Oo.ext{W V:World}{b:Nat}{s:Sg}(h:Oo W b s)(hx:Aa W V):Oo V b s:=⟨hx.cellS h.k1,hx.cellS h.k2,hx.cellS h.k3,hx.cellS h.k4⟩
theorem J0{B:Nat}{W V:World}(h:Below B W V){b o:Nat}{v:Value}(hb:b<B)(hc:W.cell? ⟨b,o,none⟩=some v):V.cell? ⟨b,o,none⟩=some v:=
 (Below.cell h (p:=⟨b,o,none⟩) hb).trans hc
theorem Oo.below{B:Nat}{W V:World}{b:Nat}{s:Sg}(h:Oo W b s)(hx:Below B W V)(hb:b<B):Oo V b s:=⟨J0 hx hb h.k1,J0 hx hb h.k2,J0 hx hb h.k3,J0 hx hb h.k4⟩
theorem L6.below{B:Nat}{W V:World}{b:Nat}{c:Cv}(h:L6 W b c)(hx:Below B W V)(hb:b<B):L6 V b c:=
 ⟨J0 hx hb h.k1,J0 hx hb h.k2,J0 hx hb h.k3,J0 hx hb h.k4,J0 hx hb h.k5,J0 hx hb h.k6⟩
theorem WC{q:Rat}{k:Nat}(h:Sz k q)(hk:0<k)(hk2:k<=200):BK (R q):=
 ⟨q,rfl,Ani (Hd hk h.num) hk2,Ani (Hd hk h.den) hk2⟩
theorem Xc{q:Rat}{k:Nat}(h:Sz k q)(hk:0<k)(hk2:k<=40000):(R q).length<100000:=by have:=Nk hk h;omega
def Lm(p:Pt):Bs×Bs:=(R p.x,R p.y)
structure lT where
 fx:Bs
 fy:Bs
 tx:Bs
 ty:Bs
def lT.pts(t:lT):List (Bs×Bs):=[(t.fx,t.fy),(t.tx,t.ty)]
theorem OG{w:World}{b:Nat}{a0 a1 a2 a3:Value}{t:TypeId}(v0 v1 v2 v3:Value)(h:w.heap[b]?=some (.cells #[a0,a1,a2,a3] t)) :
  ((((w.setCell ⟨b,0,none⟩ v0).setCell ⟨b,1,none⟩ v1).setCell ⟨b,2,none⟩ v2).setCell ⟨b,3,none⟩ v3).heap[b]?=some (.cells #[v0,v1,v2,v3] t):=by
 simp only [World.setCell,Array.getElem?_modify,h];simp
def Uy(l:List (Int×Int)):List Value:=l.flatMap fun d=>[.int .i64 d.1,.int .i64 d.2]
theorem pI(l:List (Int×Int)):(Uy l).length=l.length*2:=by
 induction l with
 | nil=>rfl
 | cons p l ih=>unfold Uy at *;simp only [List.flatMap_cons,List.length_append,List.length_cons,List.length_nil];omega
theorem Ae.of_own{w:World}{base:Nat}{e:TypeId}{v:Value}{n:Nat}{l:List (Int×Int)}(h:w.ownsRow base e 2 v n (Uy l))(hn:n=l.length):∃A c,v=.slice A n c/\Ae w A (Uy l)/\n<=c/\c<=9223372036854775807:=by
 subst hn
 rcases h.2 with⟨rfl,h0⟩|⟨g,cap,cur,rfl,_,hg,hn,hm,_,_⟩
 ·exact⟨none,0,by rw [h0],⟨fun h1=>by rw [pI]at h1;omega⟩,by omega,by omega⟩
 ·refine⟨some ⟨g,0,none⟩,cap,rfl,⟨fun _=>⟨g,0,rfl,fun j hj=>?_⟩⟩,hn,by unfold maxLen at hm;omega⟩;rw [Nat.zero_add,h.cellAt j (by rw [pI]at hj;exact hj),Anc hj]
section
variable {ops : Array Oper} {rest : List Oper} {o : Oper} {a : Act} {Q : Exit → Act → World → Prop}
end
section
theorem AiY{P:Program}{w:World}(ts:Array TypeId)(t:TypeId)(k:IntKind)(a b c d e:Int):(Builtin.max_ ts t #[.int k a,.int k b,.int k c,.int k d,.int k e]).run P w=.ok (.int k (max (max (max (max a b) c) d) e)) w:=by
 have m:∀x y:Int,(if y>x then y else x)=max x y:=(by intro x y;split<;>omega);simp only [Builtin.max_,List.foldlM_cons,List.foldlM_nil,Builtin.max2];simp [m]
attribute [local go_sem] AiY
theorem nC{w:World}{b:Nat}{a0 a1:Value}{t:TypeId}(v0 v1:Value)(h:w.heap[b]?=some (.cells #[a0,a1] t)) :
  ((w.setCell ⟨b,0,none⟩ v0).setCell ⟨b,1,none⟩ v1).heap[b]?=some (.cells #[v0,v1] t):=by
 simp only [World.setCell,Array.getElem?_modify,h];simp
def steps(c:Cv)(p:Sg):Nat:=(max (max (max (max 1 (QT c p.a-QT c p.b)) (QT c p.b-QT c p.a)) (Tq c p.a-Tq c p.b)) (Tq c p.b-Tq c p.a)).toNat
def AbR(c:Cv)(p:Sg)(n i:Nat):Int×Int:=(QT c (atR p (mkRat i n)),Tq c (atR p (mkRat i n)))
def Alo(c:Cv)(p:Sg):List (Int×Int):=(List.range (steps c p+1)).map (AbR c p (steps c p))
end
theorem kg(z:Int)(h0:-9223372036854775808<=z)(h1:z<=9223372036854775807)(w:World)(hw:An w):Calls Tryz.prog 39 #[.int .i64 z] w (Bc (I z) w):=by
 have hi:=PE z h0 h1 w hw;clear h0 h1;go_enter Tryz.func39,Tryz.ntmps39;(go_wp2_with fail);(with_reducible refine hi.mono ?_);rintro e w1 ⟨rfl,hx1⟩;go_wp2;go_ret;exact⟨rfl,hx1⟩
structure xz(n:Int)(d g:Nat)(n':Int)(d':Nat):Prop where
 R:R (mkRat n d)=EP n' d'
 e1:n.tdiv (g:Int)=n'
 e2:(d:Int)/(g:Int)=(d':Int)
 g0:0<g
 gd:g<=d
 b1:n'.natAbs<=n.natAbs
 b2:d'<=d
theorem Agr(n:Int){d:Nat}(hd:0<d):∃n' d',xz n d (Nat.gcd n.natAbs d) n' d':=by
 have hgn:((Nat.gcd n.natAbs d:Nat):Int)∣n:=Int.natAbs_dvd_natAbs.1 (by rw [AmZ];exact Nat.gcd_dvd_left ..);refine⟨n/(Nat.gcd n.natAbs d:Nat),d/Nat.gcd n.natAbs d,XY n hd,Int.tdiv_eq_ediv_of_dvd hgn,by simp,Nat.gcd_pos_of_pos_right _ hd,Nat.gcd_le_right _ hd,SY _ _ hgn,Nat.div_le_self _ _⟩
theorem AiB(n:Int)(d:Nat)(hd:0<d)(P1:-9000000000000000000<=n)(Dc:n<=9000000000000000000)(Et:d<=9000000000000000000)(w:World)(hw:An w) :
  Calls Tryz.prog 89 #[S (I n),S (I (d:Int))] w (Bc (R (mkRat n d)) w):=by
 obtain⟨n',d',Sq⟩:=Agr n hd;obtain⟨g,hg⟩:=AmT (Nat.gcd n.natAbs d);rw [←hg]at Sq;obtain⟨hR,e1,e2,hg0,hgd,b1,b2⟩:=Sq;have ln:(I n').length<=20:=Nf (z:=n') (k:=19) (by omega) (by omega);have ld:(D d').length<=19:=Hd (by omega) (by omega);have Nn:=Yt n (by omega) (by omega);have at2:=Yt (d:Int) (by omega) (by omega);have HR:=AmU hR;have HG:=AmU hg;have H1:=AmU e1;have H2:=AmU e2;have i1:=fun W hW=>PE n' (by omega) (by omega) W hW;have i2:=fun W hW=>PE (d':Int) (by omega) (by omega) W hW;rw [DU]at i2;obtain⟨na,xC⟩:=AmT (n.natAbs:Nat);have Aew:na<=9000000000000000000:=(by omega);have XA:=AmU xC;clear hR hg e1 e2 xC;by_cases Mw:n<0
 case' pos=>have Aey:-n=(na:Int):=(by have:=XA.out;omega);go_enter Tryz.func89,Tryz.ntmps89;(go_wp2_with fail);(with_reducible refine(Nn _).mono ?_);rintro e w1 ⟨rfl,hx⟩;(go_wp2_with fail);(with_reducible refine(at2 _).mono ?_);rintro e w2 ⟨rfl,hx2⟩;have hE:=hx.trans hx2;go_wp2;clear Aey
 case' neg=>obtain⟨m,hm⟩:=Int.eq_ofNat_of_zero_le (show 0<=n by omega);obtain rfl:m=na:=(by have:=XA.out;omega);subst hm;go_enter Tryz.func89,Tryz.ntmps89;(go_wp2_with fail);(with_reducible refine(Nn _).mono ?_);rintro e w1 ⟨rfl,hx⟩;(go_wp2_with fail);(with_reducible refine(at2 _).mono ?_);rintro e w2 ⟨rfl,hx2⟩;have hE:=hx.trans hx2;go_wp2
 all_goals
  clear Nn at2 hx hx2
  go_loopw [9,10] (fun x y wr=>∃a b:Nat,x=.int .i64 (a:Nat)/\y=.int .i64 (b:Nat)/\Nat.gcd a b=g/\a<=9000000000000000000/\b<=9000000000000000000/\Aa w wr) (fun _ y _=>(intOf y).natAbs)
  case atStart=>exact⟨_,d,rfl,rfl,by rw [HG.out,←XA.out],Aew,Et,hE⟩
  case round=>
   obtain⟨a,b,rfl,rfl,Gt,ha,hb,Ac⟩:=hrel;by_cases hb0:b=0
   ·subst hb0;obtain rfl:a=g:=(by rw [←Gt];simp);clear Gt;have e1:=H1.out;have e2:=H2.out;have Mp:(0:Int)<(a:Int):=(by omega);have hgz:((a:Int) == 0)=false:=(by rw [beq_eq_false_iff_ne];omega);by_cases FS:d'=1
    ·subst FS;have HF:Hid (R (mkRat _ d)=I n'):=AmU (by rw [HR.out];rfl);(go_wp2_with fail)
     go_quiet (fail)
     (go_wp2_with fail);(with_reducible refine(i1 _ (hw.ext (Ac.drewN _))).mono ?_);rintro e w3 ⟨rfl,hx3⟩;go_wp2;go_ret;exact⟨Im (by rw [HF.out]),(Ac.drewN _).trans hx3⟩
    ·have HF:Hid (R (mkRat _ d)=I n'++47::D d'):=AmU (by rw [HR.out];exact if_neg FS);have vJ:((d':Int) == 1)=false:=(by rw [beq_eq_false_iff_ne];omega);clear FS;(go_wp2_with fail)
     go_quiet (fail)
     (go_wp2_with fail);(with_reducible refine(i1 _ (hw.ext (Ac.drewN _))).mono ?_);rintro e w3 ⟨rfl,hx3⟩;have hx3:=(Ac.drewN _).trans hx3;(go_wp2_with fail);(with_reducible refine(i2 _ (hw.ext hx3)).mono ?_);rintro e w4 ⟨rfl,Ai⟩;go_wp2;go_ret;exact⟨Im (by rw [HF.out];apply ByteArray.ext;simp),hx3.trans Ai⟩
   ·have hlt:a%b<b:=Nat.mod_lt _ (by omega);have RP:((b:Int) != 0)=true:=(by rw [bne_iff_ne];omega);have CZ:((b:Int) == 0)=false:=(by rw [beq_eq_false_iff_ne];omega);have Bu:(0:Int)<(b:Int):=(by omega);have LF:Hid (Nat.gcd b (a%b)=g):=AmU (by rw [←Gt,Nat.gcd_comm b,←Nat.gcd_rec,Nat.gcd_comm]);clear Gt;(go_wp2_with fail)
    go_quiet (fail)
    go_wp2;go_roundw
    case rel=>exact⟨b,a%b,rfl,by go_num,LF.out,hb,by omega,Ac.drewN _⟩
    case measure=>simp [intOf];omega
theorem AiA(n:Int)(d:Nat)(hd:0<d)(l1:(I n).length<=9)(l2:(I (d:Int)).length<=9)(w:World)(hw:An w) :
  Calls Tryz.prog 38 #[S (I n),S (I (d:Int))] w (Bc (R (mkRat n d)) w):=by
 have b1:=MQ l1;have b2:=MQ l2;have e9:(10:Nat)^9=1000000000:=(by decide);rw [e9]at b1 b2;have sm:=AiB n d hd (by omega) (by omega) (by omega);have i1:decide (((I n).length:Int)<=9)=true:=(by rw [decide_eq_true_eq];omega);have i2:decide (((I (d:Int)).length:Int)<=9)=true:=(by rw [decide_eq_true_eq];omega);have l1':((I n).length:Int)<=9:=(by omega);have l2':((I (d:Int)).length:Int)<=9:=(by omega);clear b1 b2 e9 hd l1 l2;go_enter Tryz.func38,Tryz.ntmps38;(go_wp2_with fail);(with_reducible refine(sm _ hw).mono ?_);rintro e w3 ⟨rfl,hx3⟩;go_wp2;go_ret;exact⟨rfl,hx3⟩
theorem iG(n:Int)(d:Nat)(hd:0<d)(h1:n.natAbs<10000000)(h2:d<10000000)(w:World)(hw:An w) :
  Calls Tryz.prog 9 #[.int .i64 n,.int .i64 (d:Nat)] w (Bc (R (mkRat n d)) w):=by
 have e7:(10:Nat)^7=10000000:=(by decide);have l1:(I n).length<=9:=Ani (Nf (k:=7) (by omega) (by omega)) (by omega);have l2:(I (d:Int)).length<=9:=Ani (Nf (z:=(d:Int)) (k:=7) (by omega) (by rw [AmZ];omega)) (by omega);have o1:=kg n (by omega) (by omega);have o2:=kg (d:Int) (by omega) (by omega);have fr:=AiA n d hd l1 l2;clear e7 l1 l2 hd h1 h2;go_enter Tryz.func9,Tryz.ntmps9;(go_wp2_with fail);(with_reducible refine(o1 _ hw).mono ?_);rintro e w1 ⟨rfl,hx⟩;(go_wp2_with fail);(with_reducible refine(o2 _ (hw.ext hx)).mono ?_);rintro e w2 ⟨rfl,hx2⟩;replace hx:=hx.trans hx2;(go_wp2_with fail);(with_reducible refine(fr _ (hw.ext hx)).mono ?_);rintro e w3 ⟨rfl,hx3⟩;go_wp2;go_ret;exact⟨rfl,hx.trans hx3⟩
theorem eQ(x:Int):mkRat x 1=(x:Rat):=by
 apply Rat.ext
 ·rw [Rat.num_mkRat];simp
 ·rw [Rat.den_mkRat];simp
structure Fr where
 a:Int
 b:Int
 s:Int
 t:Int
 u:Int
 v:Int
structure Fr.Ok(f:Fr):Prop where
 a1:-128<=f.a
 a2:f.a<=127
 b1:-128<=f.b
 b2:f.b<=127
 s1:0<=f.s
 s2:f.s<=255
 t1:0<=f.t
 t2:f.t<=255
 u1:0<=f.u
 u2:f.u<=255
 v1:0<=f.v
 v2:f.v<=255
def Al(a b c:Pt):Rat:=(b.x-a.x)*(c.y-a.y)-(b.y-a.y)*(c.x-a.x)
theorem mM(a b c:Pt){k:Nat}(ha:Ar k a)(hb:Ar k b)(hc:Ar k c)(hk:0<k)(hk2:k<=400)(w:World)(hw:An w) :
  Calls Tryz.prog 176 #[Ak a,Ak b,Ak c] w (Bc (R (Al a b c)) w):=by
 have s1:=GX b.x a.x (a:=k) (b:=k) ⟨hb.x,ha.x,hk,hk,by omega⟩;have s2:=GX b.y a.y (a:=k) (b:=k) ⟨hb.y,ha.y,hk,hk,by omega⟩;have s3:=GX c.x a.x (a:=k) (b:=k) ⟨hc.x,ha.x,hk,hk,by omega⟩;have s4:=GX c.y a.y (a:=k) (b:=k) ⟨hc.y,ha.y,hk,hk,by omega⟩;have m1:=Qf (b.x-a.x) (c.y-a.y) (a:=k+k+1) (b:=k+k+1) ⟨hb.x.sub ha.x,hc.y.sub ha.y,by omega,by omega,by omega⟩;have m2:=Qf (b.y-a.y) (c.x-a.x) (a:=k+k+1) (b:=k+k+1) ⟨hb.y.sub ha.y,hc.x.sub ha.x,by omega,by omega,by omega⟩;have sb:=GX ((b.x-a.x)*(c.y-a.y)) ((b.y-a.y)*(c.x-a.x)) (a:=k+k+1+(k+k+1)) (b:=k+k+1+(k+k+1)) ⟨(hb.x.sub ha.x).mul (hc.y.sub ha.y),(hb.y.sub ha.y).mul (hc.x.sub ha.x),by omega,by omega,by omega⟩;have e:Al a b c=(b.x-a.x)*(c.y-a.y)-(b.y-a.y)*(c.x-a.x):=rfl;rw [←e]at sb;obtain⟨r,hr⟩:=AmT (Al a b c);rw [←hr]at sb ⊢;unfold Ak;clear ha hb hc e hr;go_enter Tryz.func176,Tryz.ntmps176;(go_wp2_with fail);obtain⟨W,hW,hE,hb1,hb2,hb3⟩:=OF w (.cells #[S (R a.x),S (R a.y)] 94) (.cells #[S (R b.x),S (R b.y)] 94) (.cells #[S (R c.x),S (R c.y)] 94);rw [←hW];clear hW;have hA:Jl W w.heap.size a:=⟨Ab hb1 rfl,Ab hb1 rfl⟩;have hB:Jl W (w.heap.size+1) b:=⟨Ab hb2 rfl,Ab hb2 rfl⟩;have hC:Jl W (w.heap.size+1+1) c:=⟨Ab hb3 rfl,Ab hb3 rfl⟩;clear hb1 hb2 hb3;have GN:=(Aa.refl W).drew;have Gl:=hE.drew;obtain⟨k1,k2⟩:=hA;obtain⟨k3,k4⟩:=hB;have hA:=Jl.mk k1 k2;have hB:=Jl.mk k3 k4
 go_region_held3 (fun w'=>w'.cell? ⟨w.heap.size,0,none⟩=some (S (R a.x))/\w'.cell? ⟨w.heap.size,1,none⟩=some (S (R a.y))/\w'.cell? ⟨w.heap.size+1,0,none⟩=some (S (R b.x))/\w'.cell? ⟨w.heap.size+1,1,none⟩=some (S (R b.y)))
  (go_keep)
  (first|((with_reducible refine(s1 _ (hw.ext Gl)).mono ?_);rintro e w1 ⟨rfl,hx1⟩;obtain⟨q1,q2⟩:=hA.ext (GN.trans hx1);obtain⟨q3,q4⟩:=hB.ext (GN.trans hx1))|((with_reducible refine(s2 _ (hw.ext (Gl.trans hx1))).mono ?_);rintro e w2 ⟨rfl,hx2⟩;obtain⟨t1,t2⟩:=hA.ext (GN.trans (hx1.trans hx2));obtain⟨t3,t4⟩:=hB.ext (GN.trans (hx1.trans hx2))))
 have hV:=GN.trans (hx1.trans hx2);replace hE:=hE.trans hV;replace hA:=hA.ext hV;replace hC:=hC.ext hV;clear GN Gl hx1 hx2 k1 k2 k3 k4 q1 q2 q3 q4 t1 t2 t3 t4 hV hB s1 s2;have GN:=(Aa.refl w2).drew;have Gl:=hE.drew;obtain⟨k1,k2⟩:=hA;obtain⟨k3,k4⟩:=hC;have hA:=Jl.mk k1 k2;have hC:=Jl.mk k3 k4;(go_wp2_with fail)
 go_region_held3 (fun w'=>w'.cell? ⟨w.heap.size,0,none⟩=some (S (R a.x))/\w'.cell? ⟨w.heap.size,1,none⟩=some (S (R a.y))/\w'.cell? ⟨w.heap.size+1+1,0,none⟩=some (S (R c.x))/\w'.cell? ⟨w.heap.size+1+1,1,none⟩=some (S (R c.y)))
  (go_keep)
  (first|((with_reducible refine(s3 _ (hw.ext Gl)).mono ?_);rintro e w3 ⟨rfl,hx1⟩;obtain⟨q1,q2⟩:=hA.ext (GN.trans hx1);obtain⟨q3,q4⟩:=hC.ext (GN.trans hx1))|((with_reducible refine(s4 _ (hw.ext (Gl.trans hx1))).mono ?_);rintro e w4 ⟨rfl,hx2⟩;obtain⟨t1,t2⟩:=hA.ext (GN.trans (hx1.trans hx2));obtain⟨t3,t4⟩:=hC.ext (GN.trans (hx1.trans hx2))))
 replace hE:=hE.trans (GN.trans (hx1.trans hx2));clear hA hC GN Gl hx1 hx2 k1 k2 k3 k4 q1 q2 q3 q4 t1 t2 t3 t4 s3 s4;(go_wp2_with fail);(with_reducible refine(m1 _ (hw.ext hE)).mono ?_);rintro e w5 ⟨rfl,hx⟩;replace hE:=hE.trans hx;(go_wp2_with fail);(with_reducible refine(m2 _ (hw.ext hE)).mono ?_);rintro e w6 ⟨rfl,hx2⟩;replace hE:=hE.trans hx2;(go_wp2_with fail);(with_reducible refine(sb _ (hw.ext hE)).mono ?_);rintro e w7 ⟨rfl,hx3⟩;replace hE:=hE.trans hx3;go_wp2;go_ret;exact⟨rfl,hE⟩
theorem Akl(a b c:Pt){k:Nat}(ha:Ar k a)(hb:Ar k b)(hc:Ar k c)(hk:0<k)(hk2:k<=400)(w:World)(hw:An w) :
  Calls Tryz.prog 170 #[Ak a,Ak b,Ak c] w (AA (AD (Al a b c)) w):=by
 have ar:=mM a b c ha hb hc hk hk2;have sg:=Qg (Al a b c);have hE:=(((Aa.refl w).alloc (.cells #[S (R a.x),S (R a.y)] 94)).alloc (.cells #[S (R b.x),S (R b.y)] 94)).alloc (.cells #[S (R c.x),S (R c.y)] 94);unfold Ak at ar ⊢;clear ha hb hc;go_enter Tryz.func170,Tryz.ntmps170;(go_wp2_with fail);(with_reducible refine(ar _ (hw.ext hE)).mono ?_);rintro e w1 ⟨rfl,hx⟩;(go_wp2_with fail);(with_reducible refine(sg _).mono ?_);rintro e w2 ⟨rfl,hx2⟩;go_wp2;go_ret;exact⟨rfl,hE.trans (hx.trans hx2)⟩
def AW(a b:Pt):Int:=if AN a.x b.x≠0 then AN a.x b.x else AN a.y b.y
theorem Age(a b:Pt){k:Nat}(ha:Ar k a)(hb:Ar k b)(hk:0<k)(hk2:k<=400)(w:World)(hw:An w) :
  Calls Tryz.prog 171 #[Ak a,Ak b] w (AA (AW a b) w):=by
 have c1:=Jd a.x b.x (a:=k) (b:=k) ⟨ha.x,hb.x,hk,hk,by omega⟩;have c2:=Jd a.y b.y (a:=k) (b:=k) ⟨ha.y,hb.y,hk,hk,by omega⟩;have hE:=((Aa.refl w).alloc (.cells #[S (R a.x),S (R a.y)] 94)).alloc (.cells #[S (R b.x),S (R b.y)] 94);obtain⟨r,hr⟩:=AmT (AW a b);rw [←hr]
 have hA:(w.alloc (.cells #[S (R a.x),S (R a.y)] 94)).alloc (.cells #[S (R b.x),S (R b.y)] 94) |>.heap[w.heap.size]?=some (.cells #[S (R a.x),S (R a.y)] 94):=(Below.heap_alloc _ _ _ (by simp)).trans (AmW w _)
 have hB:=AmW (w.alloc (.cells #[S (R a.x),S (R a.y)] 94)) (.cells #[S (R b.x),S (R b.y)] 94);rw [Anf]at hB;obtain⟨x,hx0⟩:=AmT (AN a.x b.x)
 have KV:r=if x≠0 then x else AN a.y b.y:=by rw [hr,hx0];rfl
 rw [←hx0]at c1;unfold Ak;clear ha hb hr hx0;by_cases h:x=0
 ·subst h;replace KV:r=AN a.y b.y:=(by rw [KV];rfl);simp only [←KV]at c2;clear KV;go_enter Tryz.func171,Tryz.ntmps171;(go_wp2_with fail);(with_reducible refine(c1 _ (hw.ext hE)).mono ?_);rintro e w1 ⟨rfl,hx⟩;replace hE:=hE.trans hx;replace hA:=(hx.block _ (AmV hA)).trans hA;replace hB:=(hx.block _ (AmV hB)).trans hB;have k1:=Ab (o:=1) hA rfl;have k2:=Ab (o:=1) hB rfl;(go_wp2_with fail);(with_reducible refine(c2 _ (hw.ext hE)).mono ?_);rintro e w2 ⟨rfl,hx2⟩;go_wp2;go_ret;exact⟨rfl,hE.trans hx2⟩
 ·replace KV:r=x:=(by rw [KV,if_pos h]);have hne:(x != 0)=true:=(by rw [bne_iff_ne];exact h);subst KV;clear c2 h;go_enter Tryz.func171,Tryz.ntmps171;(go_wp2_with fail);(with_reducible refine(c1 _ (hw.ext hE)).mono ?_);rintro e w1 ⟨rfl,hx⟩;go_wp2;go_ret;exact⟨rfl,hE.trans hx⟩
def Ao(l:List Pt):List (Bs×Bs):=l.map Lm
theorem Cy{w:World}{A:Option Addr}{l:List Pt}(hr:Ae w A (flat (Ao l))){j:Nat}(h:j<l.length):∃b o,A=some ⟨b,o,none⟩/\w.cell? ⟨b,o+j*2,none⟩=some (S (R l[j].x))/\w.cell? ⟨b,o+j*2+1,none⟩=some (S (R l[j].y)):=by
 have hl:(Ao l).length=l.length:=(by simp [Ao]);obtain⟨b,o,e,hcs⟩:=hr.ad (by rw [flat_length];omega);obtain⟨f1,f2⟩:=flat_get (Ao l) j (by omega);have hg1:=hcs (j*2) (by rw [flat_length];omega);have hg2:=hcs (j*2+1) (by rw [flat_length];omega);rw [Anc (by rw [flat_length];omega),Anb]at f1 f2;rw [f1]at hg1;rw [f2,←Nat.add_assoc]at hg2;have e2:(Ao l)[j]'(by omega)=Lm l[j]:=(by simp [Ao]);rw [e2]at hg1 hg2;exact⟨b,o,e,hg1,hg2⟩
structure Nh(l:List Pt):Prop where
 n3:3<=l.length
 n60:l.length<=60
 turn:∀(i n:Nat) (hi:i<l.length) (hn:n<l.length),n≠i→n≠(i+1)%l.length→0<Al l[i] (l[(i+1)%l.length]'(Nat.mod_lt _ (by omega))) l[n]
 less:∀(n:Nat) (h:n+1<l.length),¬AW l[n+1] (l[0]'(by omega))<0
theorem gQ(l:List Pt)(hp:Nh l){k:Nat}(hz:∀p∈l,Ar k p)(hk:0<k)(hk2:k<=200)(A:Option Addr)(c:Nat)(w:World)(hw:An w)(hr:Ae w A (flat (Ao l)))(hc:l.length<=c)(_:c<=9223372036854775807) :
  Calls Tryz.prog 101 #[.slice A l.length c] w (AA 0 w):=by
 obtain⟨h3,Zf,hturn,wT⟩:=hp;have HT:=AmU hturn;have HL:=AmU wT;have HZ:=AmU hz;clear hturn wT hz;go_enter Tryz.func101,Tryz.ntmps101;go_wp2
 go_loopw [21] (fun i wr=>∃j:Nat,i=.int .i64 (j:Nat)/\j<=l.length/\Aa w wr) (fun i _=>l.length-(intOf i).toNat)
 case atStart=>exact⟨0,rfl,by omega,Aa.refl _⟩
 case round=>
  obtain⟨j,rfl,hj,Ac⟩:=hrel;by_cases hlt:j<l.length
  ·obtain⟨b,o,rfl,hg1,hg2⟩:=Cy (hr.ext Ac) hlt;have KZ:=HZ.out l[j] (AmY hlt);obtain⟨p,hp⟩:=AmT (l[j]);rw [←hp]at hg1 hg2 KZ;have hx1:=Ac.alloc (.cells #[S (R p.x),S (R p.y)] 94);have ck:=nQ (R p.x) (R p.y) true (by simp only [true_iff];exact⟨WC KZ.x hk hk2,WC KZ.y hk hk2⟩) (Xc KZ.x hk (by omega)) (Xc KZ.y hk (by omega)) _ (hw.ext hx1);rw [Kr]at ck;have hj0:(0:Int)<=(j:Int):=(by omega);have AV:(j:Int)<(l.length:Int):=(by omega);clear hp KZ;(go_wp2_with fail);(with_reducible refine ck.mono ?_);rintro e w2 ⟨rfl,hx2⟩;go_wp2;go_roundw
   case rel=>exact⟨j+1,by go_num,hlt,hx1.trans hx2⟩
   case measure=>simp [intOf];omega
  ·have hle:(l.length:Int)<=(j:Int):=(by omega);have hd:decide (j<l.length)=false:=(by simp [hlt]);have BW:decide ((j:Int)<(l.length:Int))=false:=(by simp;omega);clear hlt;go_wp2
   (try first|simp only [hd]|simp only [BW])
   clear hle hd BW
   go_loopw [33] (fun i wr=>∃i':Nat,i=.int .i64 (i':Nat)/\i'<=l.length/\Aa w wr) (fun i _=>l.length-(intOf i).toNat)
   case atStart=>exact⟨0,rfl,by omega,Ac⟩
   case round=>
    obtain⟨i,rfl,hi,Sa⟩:=hrel;by_cases hlt:i<l.length
    ·obtain⟨b,o,rfl,hg1,hg2⟩:=Cy (hr.ext Sa) hlt;obtain⟨kk,B6⟩:=AmT ((i+1)%l.length);have Cp:kk<l.length:=(by rw [B6];exact Nat.mod_lt _ (by omega));have Py:((i:Int)+1)%(l.length:Int)=(kk:Int):=(by rw [B6];simp);obtain⟨pa,DK⟩:=AmT (l[i]);have PC:=HZ.out l[i] (AmY hlt);rw [←DK]at hg1 hg2 PC;have NG:(0:Int)<=(i:Int):=(by omega);have Sf:(i:Int)<(l.length:Int):=(by omega);have hx1:=Sa.alloc (.cells #[S (R pa.x),S (R pa.y)] 94);have Aq:=AmW wr (.cells #[S (R pa.x),S (R pa.y)] 94);have kO:=AmU B6;have TL:=AmU DK;clear B6 DK;go_wp2;rw [Py];clear Py hg1 hg2;generalize wr.alloc (.cells #[S (R pa.x),S (R pa.y)] 94)=V at *;obtain⟨ba,uF⟩:=AmT wr.heap.size;rw [←uF]at Aq ⊢;clear uF Sa
     go_loopw [45] (fun i wr=>∃n:Nat,i=.int .i64 (n:Nat)/\n<=l.length/\Aa V wr) (fun i _=>l.length-(intOf i).toNat)
     case atStart=>exact⟨0,rfl,by omega,Aa.refl _⟩
     case round=>
      obtain⟨n,rfl,hn,JA⟩:=hrel;by_cases KO:n<l.length
      ·obtain⟨_,_,e1,hg1,hg2⟩:=Cy (hr.ext (hx1.trans JA)) KO;obtain⟨_,_,e2,hg3,hg4⟩:=Cy (hr.ext (hx1.trans JA)) Cp;simp only [Anb,Addr.mk.injEq,and_true]at e1 e2;obtain⟨rfl,rfl⟩:=e1;obtain⟨e2,e3⟩:=e2;subst e2 e3;obtain⟨px,NP⟩:=AmT (l[n]);obtain⟨pk,KU⟩:=AmT (l[kk]);have Lb:=HZ.out l[n] (AmY KO);have dV:=HZ.out l[kk] (AmY Cp);rw [←NP]at hg1 hg2 Lb;rw [←KU]at hg3 hg4 dV;have vw:=AmU NP;have vo:=AmU KU;clear NP KU;have RN:=(JA.block _ (AmV Aq)).trans Aq;have Dz:=JA.alloc (.cells #[S (R px.x),S (R px.y)] 94);have Ay:=AmW wr (.cells #[S (R px.x),S (R px.y)] 94);have Gw:(0:Int)<=(n:Int):=(by omega);have hnl:(n:Int)<(l.length:Int):=(by omega);have hk0:(0:Int)<=(kk:Int):=(by omega);have Ama:(kk:Int)<(l.length:Int):=(by omega);have hxx:=(Aa.refl wr).alloc (.cells #[S (R px.x),S (R px.y)] 94);replace RN:=(hxx.block _ (AmV RN)).trans RN;have hg3':=hxx.cellS hg3;have aX:=hxx.cellS hg4
       go_upto_region 19 with fail
       clear hg1 hg2 hg3 hg4;generalize wr.alloc (.cells #[S (R px.x),S (R px.y)] 94)=U at *;obtain⟨bx,Mn⟩:=AmT wr.heap.size;rw [←Mn]at Ay ⊢;clear Mn hxx;by_cases GR:n=i
       ·have t1:((n:Int) != (i:Int))=false:=(by rw [GR];simp);clear GR
        go_quiet (fail)
        go_wp2;go_roundw
        case rel=>exact⟨n+1,by go_num,KO,Dz.drewN _⟩
        case measure=>simp [intOf];omega
       ·have t1:((n:Int) != (i:Int))=true:=(by rw [bne_iff_ne];omega);have t1n:(n != i)=true:=(by rw [bne_iff_ne];exact GR);have t1e:(n == i)=false:=(by rw [beq_eq_false_iff_ne];exact GR);by_cases IO:n=kk
        ·have t2n:(n != kk)=false:=(by rw [IO];simp);have t2:((n:Int) != (kk:Int))=false:=(by rw [IO];simp);clear IO GR
         go_quiet (fail)
         go_wp2;go_roundw
         case rel=>exact⟨n+1,by go_num,KO,Dz.drewN _⟩
         case measure=>simp [intOf];omega
        ·have t2:((n:Int) != (kk:Int))=true:=(by rw [bne_iff_ne];omega);have t2n:(n != kk)=true:=(by rw [bne_iff_ne];exact IO);have t2e:(n == kk)=false:=by rw [beq_eq_false_iff_ne];exact IO
         have tY:0<Al pa pk px:=by have h:=HT.out i n hlt KO GR (by rw [←kO.out];exact IO);rw [TL.out,vo.out,vw.out];simp only [kO.out];exact h
         have tn:=Akl pa pk px PC dV Lb hk (by omega);rw [iS tY]at tn;have c1:=Ab (o:=0) RN rfl;have c2:=Ab (o:=1) RN rfl;have c3:=Ab (o:=0) Ay rfl;have c4:=Ab (o:=1) Ay rfl;have hU:=hw.ext (hx1.trans Dz);unfold Ak at tn;clear Lb dV tY GR IO
         go_region_held3 (fun w'=>w'.cell? ⟨ba,0,none⟩=some (S (R pa.x))/\w'.cell? ⟨ba,1,none⟩=some (S (R pa.y))/\w'.cell? ⟨b,o+kk*2,none⟩=some (S (R pk.x))/\w'.cell? ⟨b,o+kk*2+1,none⟩=some (S (R pk.y))/\w'.cell? ⟨bx,0,none⟩=some (S (R px.x))/\w'.cell? ⟨bx,1,none⟩=some (S (R px.y)))
          (go_keep)
          (first|((with_reducible refine(tn _ (hU.ext (Aa.refl U).drew)).mono ?_);rintro e w5 ⟨rfl,Ad⟩;have X5:=(Aa.refl U).drew.trans Ad;have d1:=X5.cellS c1;have d2:=X5.cellS c2;have d3:=X5.cellS c3;have d4:=X5.cellS c4;have d5:=X5.cellS hg3';have d6:=X5.cellS aX))
         go_wp2;go_roundw
         case rel=>exact⟨n+1,by go_num,KO,Dz.trans X5⟩
         case measure=>simp [intOf];omega
      ·have hle:(l.length:Int)<=(n:Int):=(by omega);go_wp2;go_roundw
       case rel=>exact⟨i+1,by go_num,hlt,hx1.trans JA⟩
       case measure=>simp [intOf];omega
    ·have hle:(l.length:Int)<=(i:Int):=(by omega);have hd:decide (i<l.length)=false:=(by simp [hlt]);have BW:decide ((i:Int)<(l.length:Int))=false:=(by simp;omega);have Aen:0<l.length:=(by omega);obtain⟨b,o,rfl,_,_⟩:=Cy (hr.ext Sa) Aen;have FS:(1:Int)<=(l.length:Int):=(by omega);have hlc:(l.length:Int)<=(c:Int):=(by omega);have hm1:(l.length:Int)-1=((l.length-1:Nat):Int):=(by omega);obtain⟨m,hme⟩:=AmT (l.length-1);rw [←hme]at hm1;have HM:=AmU hme;clear hme hlt;go_wp2;rw [←HM.out];clear hle hd BW hm1 FS hlc
     go_loopw [73] (fun i wr=>∃n:Nat,i=.int .i64 (n:Nat)/\n<=m/\Aa w wr) (fun i _=>m-(intOf i).toNat)
     case atStart=>exact⟨0,rfl,by omega,Sa⟩
     case round=>
      obtain⟨n,rfl,hn,JA⟩:=hrel;by_cases KO:n<m
      ·have BX:n+1<l.length:=(by rw [HM.out]at KO;omega);have hl0:0<l.length:=(by omega);obtain⟨_,_,e1,hg1,hg2⟩:=Cy (hr.ext JA) BX;obtain⟨_,_,e2,hg3,hg4⟩:=Cy (hr.ext JA) hl0;simp only [Anb,Addr.mk.injEq,and_true]at e1 e2;obtain⟨rfl,rfl⟩:=e1;obtain⟨e2,e3⟩:=e2;subst e2 e3;obtain⟨px,NP⟩:=AmT (l[n+1]);obtain⟨p0,Bw⟩:=AmT (l[0]);have Lb:=HZ.out l[n+1] (AmY BX);have hz0:=HZ.out l[0] (AmY hl0);have Dm:=HL.out n BX;rw [←NP]at hg1 hg2 Lb;rw [←Bw]at hg3 hg4 hz0;rw [←NP,←Bw]at Dm;have ls:=Age px p0 Lb hz0 hk (by omega);obtain⟨r,FW⟩:=AmT (AW px p0);rw [←FW]at Dm ls;have hr0:0<=r:=(by omega);have e2:o+(n+1)*2=o+2+n*2:=(by omega);rw [e2]at hg1 hg2;rw [Nat.zero_mul,Nat.add_zero]at hg3 hg4;have Gw:(0:Int)<=(n:Int):=(by omega);have hnl:(n:Int)<(m:Int):=(by omega);have hl0':(0:Int)<(l.length:Int):=(by omega);have Dz:=JA.alloc (.cells #[S (R px.x),S (R px.y)] 94);have Ay:=AmW wr (.cells #[S (R px.x),S (R px.y)] 94);have hxx:=(Aa.refl wr).alloc (.cells #[S (R px.x),S (R px.y)] 94);have hg3':=hxx.cellS hg3;have aX:=hxx.cellS hg4;unfold Ak at ls;clear Dm FW NP Bw Lb hz0 e2
       go_upto_region 26 with fail
       clear hg1 hg2 hg3 hg4;generalize wr.alloc (.cells #[S (R px.x),S (R px.y)] 94)=U at *;obtain⟨bx,Mn⟩:=AmT wr.heap.size;rw [←Mn]at Ay ⊢;clear Mn hxx;have c3:=Ab (o:=0) Ay rfl;have c4:=Ab (o:=1) Ay rfl;have hU:=hw.ext Dz
       go_region_held3 (fun w'=>w'.cell? ⟨b,o,none⟩=some (S (R p0.x))/\w'.cell? ⟨b,o+1,none⟩=some (S (R p0.y))/\w'.cell? ⟨bx,0,none⟩=some (S (R px.x))/\w'.cell? ⟨bx,1,none⟩=some (S (R px.y)))
        (go_keep)
        (first|((with_reducible refine(ls _ (hU.ext (Aa.refl U).drew)).mono ?_);rintro e w5 ⟨rfl,Ad⟩;have X5:=(Aa.refl U).drew.trans Ad;have d1:=X5.cellS c3;have d2:=X5.cellS c4;have d3:=X5.cellS hg3';have d4:=X5.cellS aX))
       go_wp2;go_roundw
       case rel=>exact⟨n+1,by go_num,KO,Dz.trans X5⟩
       case measure=>simp [intOf];omega
      ·have hle:(m:Int)<=(n:Int):=(by omega);go_wp2;go_ret;exact⟨rfl,JA⟩
theorem WE(x y:Int)(b o:Nat)(w:World)(h1:w.cell? ⟨b,o,none⟩=some (.int .i64 x))(h2:w.cell? ⟨b,o+1,none⟩=some (.int .i64 y)) :
  Calls Tryz.prog 98 #[.slice (some ⟨b,o,none⟩) 2 2] w (AA (if x≠0 then x else y) w):=by
 obtain⟨r,hr⟩:=AmT (if x≠0 then x else y);rw [←hr];have HR:=AmU hr;clear hr;go_enter Tryz.func98,Tryz.ntmps98;go_wp2
 go_loopw [8] (fun i wr=>∃j:Nat,i=.int .i64 (j:Nat)/\j<=2/\(1<=j→x=0)/\(2<=j→y=0)/\wr=w) (fun i _=>2-(intOf i).toNat)
 case atStart=>exact⟨0,rfl,by omega,by omega,by omega,rfl⟩
 case round=>
  obtain⟨j,rfl,hj,hx,hy,rfl⟩:=hrel;by_cases j0:j=0
  ·subst j0;by_cases hx0:x=0
   ·have t:(x != 0)=false:=(by rw [hx0];rfl);have HX:=AmU hx0;clear hx hy hx0;go_wp2;go_roundw
    case rel=>exact⟨1,rfl,by omega,fun _=>HX.out,by omega,by trivial⟩
    case measure=>simp [intOf]
   ·have t:(x != 0)=true:=(by rw [bne_iff_ne];exact hx0);have KV:r=x:=(by rw [HR.out,if_pos hx0]);subst KV;clear hx hy hx0;go_wp2;go_ret;exact⟨rfl,Aa.refl _⟩
  ·by_cases j1:j=1
   ·subst j1;have hx0:x=0:=hx (by omega);have hry:r=y:=(by rw [HR.out,if_neg (by omega)]);subst hry;have HX:=AmU hx0;by_cases Bh:r=0
    ·have t:(r != 0)=false:=(by rw [Bh];rfl);have HY:=AmU Bh;clear hx hy hx0 Bh j0;go_wp2;go_roundw
     case rel=>exact⟨2,rfl,by omega,fun _=>HX.out,fun _=>HY.out,by trivial⟩
     case measure=>simp [intOf]
    ·have t:(r != 0)=true:=(by rw [bne_iff_ne];exact Bh);clear hx hy hx0 Bh j0;go_wp2;go_ret;exact⟨rfl,Aa.refl _⟩
   ·have j2:j=2:=(by omega);subst j2;have hx0:x=0:=hx (by omega);have Bh:y=0:=hy (by omega);have hr0:r=0:=(by rw [HR.out,if_neg (by omega),Bh]);subst hr0;clear hx hy hx0 Bh j0 j1;go_wp2;go_ret;exact⟨rfl,Aa.refl _⟩
end Go.Proofs.YtbejphgbbpplbaaGreatDoor
