/- Y20: R2 R3 R4 R5 R6 G1 G2 G3 G4 G5 G6 G7 G8A G9 G10 G11 F1 F2 F3 F4 H1. -/
import Derived.Test.YtjalkoacphhgdaaGreatDoorY19
import Derived.Test.YtjalkoacphhgdaaGreatDoorY06
set_option maxRecDepth 100000
set_option maxHeartbeats 2000000
namespace Go.Proofs.YtjalkoacphhgdaaGreatDoor
open Go.RowKit Kl
theorem WC(n m:Int)(hm:0<m)(hn:AC n)(hd:AC m)(w:World):Calls Tryz.prog 304 #[S (I n),S (I m)] w (Bf (EN n m.toNat) w):=by
 obtain⟨d,rfl⟩:=Int.eq_ofNat_of_zero_le (Int.le_of_lt hm);rw [Ef];exact AhZ n d hn hd w
theorem yP(x y:Int)(hx:AC x)(hy:AC y)(w:World)(hw:An w):Calls Tryz.prog 220 #[S (I x),S (I y)] w (Bf (I (Int.gcd x y:Nat)) w):=by
 rw [Ef];exact AeR x y hx hy w hw
theorem WE(n m:Int)(hn:AC n)(hm:AC m)(hm0:0<m)(w:World)(hw:An w):Calls Tryz.prog 307 #[S (I n),S (I m)] w (Bf (R (mkRat n m.toNat)) w):=by
 have hs:=PE m;rw [iD hm0]at hs;have hg:=yP n m hn hm;obtain⟨g,hgd⟩:=Am8 (Int.gcd n m);have hR:=XQ n (d:=m.toNat) (by omega);have e0:Nat.gcd n.natAbs m.toNat=g:=(by rw [hgd];unfold Int.gcd;rw [show m.natAbs=m.toNat by omega]);rw [e0]at hR;have hg0:0<g:=(by rw [←e0];exact Nat.gcd_pos_of_pos_right _ (by omega));have hgb:g<=m.toNat:=(by rw [←e0];exact Nat.gcd_le_right _ (by omega));have hgn:((g:Nat):Int)∣n:=Int.natAbs_dvd_natAbs.1 (by rw [AmE,←e0];exact Nat.gcd_dvd_left ..);have Vn:((g:Nat):Int)∣m:=Int.natAbs_dvd_natAbs.1 (by rw [AmE,←e0,show m.natAbs=m.toNat by omega];exact Nat.gcd_dvd_right ..);rw [←hgd]at hg;have bg:AC (g:Int):=(by unfold AC at hm ⊢;rw [AmE];omega);by_cases h1:g=1
 ·have hj:=WC n m hm0 hn hm;have HR:Hid (R (mkRat n m.toNat)=EN n m.toNat):=Am9 (by rw [hR,h1];simp);subst h1;rw [show I ((1:Nat):Int) = [49] from Q6]at hg;clear hR e0 hgd hgn Vn;go_enter Tryz.func307,Tryz.ntmps307;(go_wp2_with fail);(with_reducible refine(hs _).mono ?_);rintro e w1 ⟨rfl,hx⟩;(go_wp2_with fail);(with_reducible refine(hg _ (hw.ext hx)).mono ?_);rintro e w2 ⟨rfl,hx2⟩;replace hx:=hx.trans hx2;(go_wp2_with fail);(with_reducible refine(hj _).mono ?_);rintro e w3 ⟨rfl,hx3⟩;replace hx:=hx.trans hx3;go_wp2;go_ret;exact⟨Il (by rw [HR.out]),hx⟩
 ·have aP:(I (g:Int) == [49])=false:=kT (by omega);have d1:=yO n g hn bg (by omega);have d2:=yO m g hm bg (by omega);have bn:AC (n/(g:Int)):=Nat.lt_of_le_of_lt (SR _ _ hgn) hn;have bm:AC (m/(g:Int)):=Nat.lt_of_le_of_lt (SR _ _ Vn) hm
  have hmg:0<m/(g:Int):=by obtain⟨k,hk⟩:=Vn;rw [hk,Int.mul_ediv_cancel_left _ (by omega)];rw [hk]at hm0;exact Int.pos_of_mul_pos_right hm0 (by omega)
  have hj:=WC (n/(g:Int)) (m/(g:Int)) hmg bn bm
  have HR:Hid (R (mkRat n m.toNat)=EN (n/(g:Int)) (m/(g:Int)).toNat):=Am9 (by
   rw [hR];obtain⟨d,rfl⟩:=Int.eq_ofNat_of_zero_le (Int.le_of_lt hm0)
   congr 1)
  clear hR e0 hgd hgn Vn h1;unfold QZ at d1 d2;go_enter Tryz.func307,Tryz.ntmps307;(go_wp2_with fail);(with_reducible refine(hs _).mono ?_);rintro e w1 ⟨rfl,hx⟩;(go_wp2_with fail);(with_reducible refine(hg _ (hw.ext hx)).mono ?_);rintro e w2 ⟨rfl,hx2⟩;replace hx:=hx.trans hx2;(go_wp2_with fail);(with_reducible refine(d1 _ (hw.ext hx)).mono ?_);rintro e w3 ⟨rfl,hx3⟩;replace hx:=hx.trans hx3;(go_wp2_with fail);(with_reducible refine(d2 _ (hw.ext hx)).mono ?_);rintro e w4 ⟨rfl,Ai⟩;replace hx:=hx.trans Ai;(go_wp2_with fail);(with_reducible refine(hj _).mono ?_);rintro e w5 ⟨rfl,Ad⟩;replace hx:=hx.trans Ad;go_wp2;go_ret;exact⟨Il (by rw [HR.out]),hx⟩
theorem AC.of{z:Int}{k:Nat}(h:z.natAbs<10^k)(hk:k<=4000):AC z:=AmL h (Nat.pow_le_pow_right (by omega) hk)
theorem GT(q:Rat){k:Nat}(hk:0<k)(hk2:k<=100000)(hz:Sz k q)(w:World)(hw:An w):Calls Tryz.prog 144 #[S (R q)] w (Ce (.tuple #[S (I q.num),S (I (q.den:Int))]) w):=by
 have h:=Aie q hk hk2 hz w hw;unfold Tf at h;rw [Ef];exact h
structure Rm(a b:Nat)(p q:Rat):Prop where
 p:Sz a p
 q:Sz b q
 a0:0<a
 b0:0<b
 le:a+b<=3990
section
variable {a b : Nat} {p q : Rat}
theorem Rm.lp(h:Rm a b p q):(R p).length<=100000:=by have:=QA h.a0 h.p;have:=h.le;omega
theorem Rm.lq(h:Rm a b p q):(R q).length<=100000:=by have:=QA h.b0 h.q;have:=h.le;omega
theorem Rm.bn(h:Rm a b p q):AC p.num:=AC.of h.p.num (by have:=h.le;omega)
theorem Rm.bd(h:Rm a b p q):AC (p.den:Int):=AC.of (k:=a) (by rw [AmE];exact h.p.den) (by have:=h.le;omega)
theorem Rm.bm(h:Rm a b p q):AC q.num:=AC.of h.q.num (by have:=h.le;omega)
theorem Rm.be(h:Rm a b p q):AC (q.den:Int):=AC.of (k:=b) (by rw [AmE];exact h.q.den) (by have:=h.le;omega)
theorem Rm.ne'(h:Rm a b p q):(p.num*(q.den:Int)).natAbs<10^(a+b):=by rw [Int.natAbs_mul,AmE];exact Lk h.p.num h.q.den
theorem Rm.md'(h:Rm a b p q):(q.num*(p.den:Int)).natAbs<10^(a+b):=by rw [Int.natAbs_mul,AmE,Nat.add_comm];exact Lk h.q.num h.p.den
theorem Rm.ne(h:Rm a b p q):AC (p.num*(q.den:Int)):=AC.of h.ne' (by have:=h.le;omega)
theorem Rm.md(h:Rm a b p q):AC (q.num*(p.den:Int)):=AC.of h.md' (by have:=h.le;omega)
theorem Rm.nm(h:Rm a b p q):AC (p.num*q.num):=AC.of (k:=a+b) (by rw [Int.natAbs_mul];exact Lk h.p.num h.q.num) (by have:=h.le;omega)
theorem Rm.de(h:Rm a b p q):AC ((p.den:Int)*(q.den:Int)):=AC.of (k:=a+b) (by rw [Int.natAbs_mul,AmE,AmE];exact Lk h.p.den h.q.den) (by have:=h.le;omega)
theorem Rm.sum(h:Rm a b p q):AC (p.num*(q.den:Int)+q.num*(p.den:Int)):=AC.of (k:=a+b+1) (Nat.lt_of_le_of_lt (Int.natAbs_add_le _ _) (lK h.ne' h.md')) (by have:=h.le;omega)
end
theorem Uu(p q:Rat):0<(p.den:Int)*(q.den:Int):=Int.mul_pos (by have:=p.den_pos;omega) (by have:=q.den_pos;omega)
theorem Uv(p q:Rat):((p.den:Int)*(q.den:Int)).toNat=p.den*q.den:=by rw [←Int.natCast_mul,Int.toNat_natCast]
def CE(q:Rat):Prop:=(D q.num.natAbs).length<=9/\(D q.den).length<=9
theorem Lo{q:Rat}(h:CE q):PZ q=.tuple #[.int .i64 q.num,.int .i64 q.den,.bool true]:=if_pos h
theorem Qa{q:Rat}(h:¬CE q):PZ q=.tuple #[.int .i64 0,.int .i64 0,.bool false]:=if_neg h
theorem CE.num{q:Rat}(h:CE q):q.num.natAbs<1000000000:=Li (k:=9) h.1
theorem CE.den{q:Rat}(h:CE q):q.den<1000000000:=Li (k:=9) h.2
theorem FW(q:Rat)(hl:(R q).length<=100000)(w:World):Calls Tryz.prog 143 #[S (R q)] w (fun e w'=>e=.returned (PZ q)/\w=w'):=Aif q hl w
theorem QJ{x y:Int}(hx:x.natAbs<1000000000)(hy:y.natAbs<1000000000):(x*y).natAbs<=999999998000000001:=by
 rw [Int.natAbs_mul];exact SQ hx hy
theorem AhS(p q:Rat){a b:Nat}(hr:Rm a b p q)(B5:p≠0)(AE:q≠0)(h1:CE p)(h2:CE q)(w:World)(hw:An w):Calls Tryz.prog 275 #[S (R p),S (R q)] w (Bf (R (p+q)) w):=by
 have q1:=FW p hr.lp;have q2:=FW q hr.lq;rw [Lo h1]at q1;rw [Lo h2]at q2;have n1:=D2 B5;have n2:=D2 AE;clear B5 AE;have w1:=MX (x:=p.num) (y:=(q.den:Int)) h1.num (by rw [AmE];exact h2.den);have w2:=MX (x:=q.num) (y:=(p.den:Int)) h2.num (by rw [AmE];exact h1.den);have w3:=MX (x:=(p.den:Int)) (y:=(q.den:Int)) (by rw [AmE];exact h1.den) (by rw [AmE];exact h2.den);have b1:=QJ (x:=p.num) (y:=(q.den:Int)) h1.num (by rw [AmE];exact h2.den);have b2:=QJ (x:=q.num) (y:=(p.den:Int)) h2.num (by rw [AmE];exact h1.den);have b3:=QJ (x:=(p.den:Int)) (y:=(q.den:Int)) (by rw [AmE];exact h1.den) (by rw [AmE];exact h2.den);have w4:IntKind.i64.wrap (p.num*(q.den:Int)+q.num*(p.den:Int))=p.num*(q.den:Int)+q.num*(p.den:Int):=AmI _ (by omega);have sm:=jc (p.num*(q.den:Int)+q.num*(p.den:Int)) (p.den*q.den) (Nat.mul_pos p.den_pos q.den_pos) (by omega) (by omega) (by rw [←Int.natCast_mul,AmE]at b3;omega);rw [Int.natCast_mul,←Rat.add_def']at sm;clear b1 b2 b3;have hx:=Aa.refl w;clear h1 h2 hr;go_enter Tryz.func275,Tryz.ntmps275;(go_wp2_with fail);(with_reducible refine(q1 _).mono ?_);rintro e w1 ⟨rfl,rfl⟩;(go_wp2_with fail);(with_reducible refine(q2 _).mono ?_);rintro e w2 ⟨rfl,rfl⟩;(go_wp2_with fail);(with_reducible refine(sm _ hw).mono ?_);rintro e w3 ⟨rfl,hx3⟩;go_wp2;go_ret;exact⟨rfl,hx3⟩
theorem AhQ(p q:Rat){a b:Nat}(hr:Rm a b p q)(B5:p≠0)(AE:q≠0)(h1:CE p)(h2:¬CE q)(w:World)(hw:An w):Calls Tryz.prog 275 #[S (R p),S (R q)] w (Bf (R (p+q)) w):=by
 have q1:=FW p hr.lp;have q2:=FW q hr.lq;rw [Lo h1]at q1;rw [Qa h2]at q2;have n1:=D2 B5;have n2:=D2 AE;clear B5 AE;have hx:=Aa.refl w;have pa:=GT p hr.a0 (by have:=hr.le;omega) hr.p;have pb:=GT q hr.b0 (by have:=hr.le;omega) hr.q;have m1:=Gt p.num (q.den:Int) hr.bn hr.be;have m2:=Gt q.num (p.den:Int) hr.bm hr.bd;have ad:=yN (p.num*(q.den:Int)) (q.num*(p.den:Int)) hr.ne hr.md;have m3:=Gt (p.den:Int) (q.den:Int) hr.bd hr.be;have lo:=WE (p.num*(q.den:Int)+q.num*(p.den:Int)) ((p.den:Int)*(q.den:Int)) hr.sum hr.de (Uu p q);rw [Uv,←Rat.add_def']at lo;clear h1 h2 hr;go_enter Tryz.func275,Tryz.ntmps275;(go_wp2_with fail);(with_reducible refine(q1 _).mono ?_);rintro e w1 ⟨rfl,rfl⟩;(go_wp2_with fail);(with_reducible refine(q2 _).mono ?_);rintro e w2 ⟨rfl,rfl⟩;(go_wp2_with fail);(with_reducible refine(pa _ (hw.ext hx)).mono ?_);rintro e w3 ⟨rfl,hx3⟩;replace hx:=hx.trans hx3;(go_wp2_with fail);(with_reducible refine(pb _ (hw.ext hx)).mono ?_);rintro e w4 ⟨rfl,Ai⟩;replace hx:=hx.trans Ai;(go_wp2_with fail);(with_reducible refine(m1 _ (hw.ext hx)).mono ?_);rintro e w5 ⟨rfl,Ad⟩;replace hx:=hx.trans Ad;(go_wp2_with fail);(with_reducible refine(m2 _ (hw.ext hx)).mono ?_);rintro e w6 ⟨rfl,AH⟩;replace hx:=hx.trans AH;(go_wp2_with fail);(with_reducible refine(ad _ (hw.ext hx)).mono ?_);rintro e w7 ⟨rfl,AB⟩;replace hx:=hx.trans AB;(go_wp2_with fail);(with_reducible refine(m3 _ (hw.ext hx)).mono ?_);rintro e w8 ⟨rfl,Bn⟩;replace hx:=hx.trans Bn;(go_wp2_with fail);(with_reducible refine(lo _ (hw.ext hx)).mono ?_);rintro e w9 ⟨rfl,BS⟩;replace hx:=hx.trans BS;go_wp2;go_ret;exact⟨rfl,hx⟩
theorem AhR(p q:Rat){a b:Nat}(hr:Rm a b p q)(B5:p≠0)(AE:q≠0)(h1:¬CE p)(w:World)(hw:An w):Calls Tryz.prog 275 #[S (R p),S (R q)] w (Bf (R (p+q)) w):=by
 have q1:=FW p hr.lp;rw [Qa h1]at q1;have n1:=D2 B5;have n2:=D2 AE;clear B5 AE;have hx:=Aa.refl w;have pa:=GT p hr.a0 (by have:=hr.le;omega) hr.p;have pb:=GT q hr.b0 (by have:=hr.le;omega) hr.q;have m1:=Gt p.num (q.den:Int) hr.bn hr.be;have m2:=Gt q.num (p.den:Int) hr.bm hr.bd;have ad:=yN (p.num*(q.den:Int)) (q.num*(p.den:Int)) hr.ne hr.md;have m3:=Gt (p.den:Int) (q.den:Int) hr.bd hr.be;have lo:=WE (p.num*(q.den:Int)+q.num*(p.den:Int)) ((p.den:Int)*(q.den:Int)) hr.sum hr.de (Uu p q);rw [Uv,←Rat.add_def']at lo;clear h1 hr;go_enter Tryz.func275,Tryz.ntmps275;(go_wp2_with fail);(with_reducible refine(q1 _).mono ?_);rintro e w1 ⟨rfl,rfl⟩;(go_wp2_with fail);(with_reducible refine(pa _ (hw.ext hx)).mono ?_);rintro e w3 ⟨rfl,hx3⟩;replace hx:=hx.trans hx3;(go_wp2_with fail);(with_reducible refine(pb _ (hw.ext hx)).mono ?_);rintro e w4 ⟨rfl,Ai⟩;replace hx:=hx.trans Ai;(go_wp2_with fail);(with_reducible refine(m1 _ (hw.ext hx)).mono ?_);rintro e w5 ⟨rfl,Ad⟩;replace hx:=hx.trans Ad;(go_wp2_with fail);(with_reducible refine(m2 _ (hw.ext hx)).mono ?_);rintro e w6 ⟨rfl,AH⟩;replace hx:=hx.trans AH;(go_wp2_with fail);(with_reducible refine(ad _ (hw.ext hx)).mono ?_);rintro e w7 ⟨rfl,AB⟩;replace hx:=hx.trans AB;(go_wp2_with fail);(with_reducible refine(m3 _ (hw.ext hx)).mono ?_);rintro e w8 ⟨rfl,Bn⟩;replace hx:=hx.trans Bn;(go_wp2_with fail);(with_reducible refine(lo _ (hw.ext hx)).mono ?_);rintro e w9 ⟨rfl,BS⟩;replace hx:=hx.trans BS;go_wp2;go_ret;exact⟨rfl,hx⟩
theorem fZ(p q:Rat){a b:Nat}(hr:Rm a b p q)(w:World)(hw:An w):Calls Tryz.prog 275 #[S (R p),S (R q)] w (Bf (R (p+q)) w):=by
 by_cases B5:p=0
 ·subst B5;rw [Rat.zero_add,Kh];clear hr;go_enter Tryz.func275,Tryz.ntmps275;go_wp2;go_ret;exact⟨rfl,Aa.refl _⟩
 ·by_cases AE:q=0
  ·subst AE;rw [Rat.add_zero,Kh];have n1:=D2 B5;clear hr B5;go_enter Tryz.func275,Tryz.ntmps275;go_wp2;go_ret;exact⟨rfl,Aa.refl _⟩
  ·by_cases h1:CE p
   ·by_cases h2:CE q
    ·exact AhS p q hr B5 AE h1 h2 w hw
    ·exact AhQ p q hr B5 AE h1 h2 w hw
   ·exact AhR p q hr B5 AE h1 w hw
theorem Aic(p q:Rat){a b:Nat}(hr:Rm a b p q)(B5:p≠0)(AE:q≠0)(Dv:p≠1)(AS:q≠1)(h1:CE p)(h2:CE q)(w:World)(hw:An w):Calls Tryz.prog 260 #[S (R p),S (R q)] w (Bf (R (p*q)) w):=by
 have q1:=FW p hr.lp;have q2:=FW q hr.lq;rw [Lo h1]at q1;rw [Lo h2]at q2;have n1:=D2 B5;have n2:=D2 AE;have n3:=Np Dv;have n4:=Np AS;clear B5 AE Dv AS;have w1:=MX (x:=p.num) (y:=q.num) h1.num h2.num;have w3:=MX (x:=(p.den:Int)) (y:=(q.den:Int)) (by rw [AmE];exact h1.den) (by rw [AmE];exact h2.den);have b1:=QJ (x:=p.num) (y:=q.num) h1.num h2.num;have b3:=QJ (x:=(p.den:Int)) (y:=(q.den:Int)) (by rw [AmE];exact h1.den) (by rw [AmE];exact h2.den);have sm:=jc (p.num*q.num) (p.den*q.den) (Nat.mul_pos p.den_pos q.den_pos) (by omega) (by omega) (by rw [←Int.natCast_mul,AmE]at b3;omega);rw [Int.natCast_mul,←Rat.mul_def']at sm;clear b1 b3;have hx:=Aa.refl w;clear h1 h2 hr;go_enter Tryz.func260,Tryz.ntmps260;(go_wp2_with fail);(with_reducible refine(q1 _).mono ?_);rintro e w1 ⟨rfl,rfl⟩;(go_wp2_with fail);(with_reducible refine(q2 _).mono ?_);rintro e w2 ⟨rfl,rfl⟩;(go_wp2_with fail);(with_reducible refine(sm _ hw).mono ?_);rintro e w3 ⟨rfl,hx3⟩;go_wp2;go_ret;exact⟨rfl,hx3⟩
theorem Aia(p q:Rat){a b:Nat}(hr:Rm a b p q)(B5:p≠0)(AE:q≠0)(Dv:p≠1)(AS:q≠1)(h1:CE p)(h2:¬CE q)(w:World)(hw:An w):Calls Tryz.prog 260 #[S (R p),S (R q)] w (Bf (R (p*q)) w):=by
 have q1:=FW p hr.lp;have q2:=FW q hr.lq;rw [Lo h1]at q1;rw [Qa h2]at q2;have n1:=D2 B5;have n2:=D2 AE;have n3:=Np Dv;have n4:=Np AS;clear B5 AE Dv AS;have hx:=Aa.refl w;have pa:=GT p hr.a0 (by have:=hr.le;omega) hr.p;have pb:=GT q hr.b0 (by have:=hr.le;omega) hr.q;have m1:=Gt p.num q.num hr.bn hr.bm;have m3:=Gt (p.den:Int) (q.den:Int) hr.bd hr.be;have lo:=WE (p.num*q.num) ((p.den:Int)*(q.den:Int)) hr.nm hr.de (Uu p q);rw [Uv,←Rat.mul_def']at lo;clear h1 h2 hr;go_enter Tryz.func260,Tryz.ntmps260;(go_wp2_with fail);(with_reducible refine(q1 _).mono ?_);rintro e w1 ⟨rfl,rfl⟩;(go_wp2_with fail);(with_reducible refine(q2 _).mono ?_);rintro e w2 ⟨rfl,rfl⟩;(go_wp2_with fail);(with_reducible refine(pa _ (hw.ext hx)).mono ?_);rintro e w3 ⟨rfl,hx3⟩;replace hx:=hx.trans hx3;(go_wp2_with fail);(with_reducible refine(pb _ (hw.ext hx)).mono ?_);rintro e w4 ⟨rfl,Ai⟩;replace hx:=hx.trans Ai;(go_wp2_with fail);(with_reducible refine(m1 _ (hw.ext hx)).mono ?_);rintro e w5 ⟨rfl,Ad⟩;replace hx:=hx.trans Ad;(go_wp2_with fail);(with_reducible refine(m3 _ (hw.ext hx)).mono ?_);rintro e w8 ⟨rfl,Bn⟩;replace hx:=hx.trans Bn;(go_wp2_with fail);(with_reducible refine(lo _ (hw.ext hx)).mono ?_);rintro e w9 ⟨rfl,BS⟩;replace hx:=hx.trans BS;go_wp2;go_ret;exact⟨rfl,hx⟩
theorem Aib(p q:Rat){a b:Nat}(hr:Rm a b p q)(B5:p≠0)(AE:q≠0)(Dv:p≠1)(AS:q≠1)(h1:¬CE p)(w:World)(hw:An w):Calls Tryz.prog 260 #[S (R p),S (R q)] w (Bf (R (p*q)) w):=by
 have q1:=FW p hr.lp;rw [Qa h1]at q1;have n1:=D2 B5;have n2:=D2 AE;have n3:=Np Dv;have n4:=Np AS;clear B5 AE Dv AS;have hx:=Aa.refl w;have pa:=GT p hr.a0 (by have:=hr.le;omega) hr.p;have pb:=GT q hr.b0 (by have:=hr.le;omega) hr.q;have m1:=Gt p.num q.num hr.bn hr.bm;have m3:=Gt (p.den:Int) (q.den:Int) hr.bd hr.be;have lo:=WE (p.num*q.num) ((p.den:Int)*(q.den:Int)) hr.nm hr.de (Uu p q);rw [Uv,←Rat.mul_def']at lo;clear h1 hr;go_enter Tryz.func260,Tryz.ntmps260;(go_wp2_with fail);(with_reducible refine(q1 _).mono ?_);rintro e w1 ⟨rfl,rfl⟩;(go_wp2_with fail);(with_reducible refine(pa _ (hw.ext hx)).mono ?_);rintro e w3 ⟨rfl,hx3⟩;replace hx:=hx.trans hx3;(go_wp2_with fail);(with_reducible refine(pb _ (hw.ext hx)).mono ?_);rintro e w4 ⟨rfl,Ai⟩;replace hx:=hx.trans Ai;(go_wp2_with fail);(with_reducible refine(m1 _ (hw.ext hx)).mono ?_);rintro e w5 ⟨rfl,Ad⟩;replace hx:=hx.trans Ad;(go_wp2_with fail);(with_reducible refine(m3 _ (hw.ext hx)).mono ?_);rintro e w8 ⟨rfl,Bn⟩;replace hx:=hx.trans Bn;(go_wp2_with fail);(with_reducible refine(lo _ (hw.ext hx)).mono ?_);rintro e w9 ⟨rfl,BS⟩;replace hx:=hx.trans BS;go_wp2;go_ret;exact⟨rfl,hx⟩
theorem Qd(p q:Rat){a b:Nat}(hr:Rm a b p q)(w:World)(hw:An w):Calls Tryz.prog 260 #[S (R p),S (R q)] w (Bf (R (p*q)) w):=by
 by_cases B5:p=0
 ·subst B5;rw [Rat.zero_mul,Kh];clear hr;go_enter Tryz.func260,Tryz.ntmps260;go_wp2;go_ret;exact⟨rfl,Aa.refl _⟩
 by_cases AE:q=0
 ·subst AE;rw [Rat.mul_zero,Kh];have n1:=D2 B5;clear hr B5;go_enter Tryz.func260,Tryz.ntmps260;go_wp2;go_ret;exact⟨rfl,Aa.refl _⟩
 by_cases Dv:p=1
 ·subst Dv;rw [Rat.one_mul,TT];have n1:=D2 AE;clear hr AE B5;go_enter Tryz.func260,Tryz.ntmps260;go_wp2;go_ret;exact⟨rfl,Aa.refl _⟩
 by_cases AS:q=1
 ·subst AS;rw [Rat.mul_one,TT];have n1:=D2 B5;have n2:=Np Dv;clear hr AE B5 Dv;go_enter Tryz.func260,Tryz.ntmps260;go_wp2;go_ret;exact⟨rfl,Aa.refl _⟩
 by_cases h1:CE p
 ·by_cases h2:CE q
  ·exact Aic p q hr B5 AE Dv AS h1 h2 w hw
  ·exact Aia p q hr B5 AE Dv AS h1 h2 w hw
 ·exact Aib p q hr B5 AE Dv AS h1 w hw
def AO(p q:Rat):Int:=if p<q then -1 else if p=q then 0 else 1
theorem AaA{p q:Rat}(h:p=q):AO p q=0:=by unfold AO;rw [if_neg (by rw [h];exact Rat.lt_irrefl),if_pos h]
theorem Y0(p q:Rat):DT (p.num*(q.den:Int)) (q.num*(p.den:Int))=AO p q:=by
 unfold DT AO;by_cases h:p<q
 ·rw [if_pos (Rat.lt_iff _ _ |>.1 h),if_pos h]
 ·rw [if_neg (fun k=>h (Rat.lt_iff _ _ |>.2 k)),if_neg h];by_cases e:p=q
  ·rw [if_pos (Rat.eq_iff_mul_eq_mul.1 e),if_pos e]
  ·rw [if_neg (fun k=>e (Rat.eq_iff_mul_eq_mul.2 k)),if_neg e]
theorem AhX(p q:Rat){a b:Nat}(hr:Rm a b p q)(hne:p≠q)(h1:CE p)(h2:CE q)(w:World):Calls Tryz.prog 76 #[S (R p),S (R q)] w (Az (AO p q) w):=by
 have q1:=FW p hr.lp;have q2:=FW q hr.lq;rw [Lo h1]at q1;rw [Lo h2]at q2;have n1:(R p == R q)=false:=(by rw [beq_eq_false_iff_ne];exact fun e=>hne (Nn e));have w1:=MX (x:=p.num) (y:=(q.den:Int)) h1.num (by rw [AmE];exact h2.den);have w2:=MX (x:=q.num) (y:=(p.den:Int)) h2.num (by rw [AmE];exact h1.den);have hc:=Y0 p q;obtain⟨x,hx⟩:=Am8 (p.num*(q.den:Int));obtain⟨y,hy⟩:=Am8 (q.num*(p.den:Int));rw [←hx]at w1 hc;rw [←hy]at w2 hc;rw [hx]at w1;rw [hy]at w2;have w1':IntKind.i64.wrap (p.num*(q.den:Int))=x:=(by rw [hx];exact w1);have w2':IntKind.i64.wrap (q.num*(p.den:Int))=y:=(by rw [hy];exact w2);have HC:=Am9 hc;clear h1 h2 hr hne w1 w2 hx hy hc
 rcases Int.lt_trichotomy x y with h|h|h
 ·have HR:=Am9 (nN h);go_enter Tryz.func76,Tryz.ntmps76;(go_wp2_with fail);(with_reducible refine(q1 _).mono ?_);rintro e w1 ⟨rfl,rfl⟩;(go_wp2_with fail);(with_reducible refine(q2 _).mono ?_);rintro e w2 ⟨rfl,rfl⟩;go_wp2;go_ret;exact⟨AN (by rw [←HC.out,HR.out]),Aa.refl _⟩
 ·have HR:=Am9 (AaC h);have h1:¬x<y:=(by omega);have h2:¬y<x:=(by omega);clear h;go_enter Tryz.func76,Tryz.ntmps76;(go_wp2_with fail);(with_reducible refine(q1 _).mono ?_);rintro e w1 ⟨rfl,rfl⟩;(go_wp2_with fail);(with_reducible refine(q2 _).mono ?_);rintro e w2 ⟨rfl,rfl⟩;go_wp2;go_ret;exact⟨AN (by rw [←HC.out,HR.out]),Aa.refl _⟩
 ·have HR:=Am9 (Y5 h);have h1:¬x<y:=(by omega);go_enter Tryz.func76,Tryz.ntmps76;(go_wp2_with fail);(with_reducible refine(q1 _).mono ?_);rintro e w1 ⟨rfl,rfl⟩;(go_wp2_with fail);(with_reducible refine(q2 _).mono ?_);rintro e w2 ⟨rfl,rfl⟩;go_wp2;go_ret;exact⟨AN (by rw [←HC.out,HR.out]),Aa.refl _⟩
theorem Jc(p q:Rat){a b:Nat}(hr:Rm a b p q)(w:World)(hw:An w):Calls Tryz.prog 76 #[S (R p),S (R q)] w (Az (AO p q) w):=by
 by_cases Mz:p=q
 ·subst Mz;have HR:=Am9 (AaA (rfl:p=p));have n1:(R p == R p)=true:=(by simp);clear hr;go_enter Tryz.func76,Tryz.ntmps76;go_wp2;go_ret;exact⟨AN HR.out,Aa.refl _⟩
 by_cases h1:CE p
 ·by_cases h2:CE q
  ·exact AhX p q hr Mz h1 h2 w
  ·have q1:=FW p hr.lp;have q2:=FW q hr.lq;rw [Lo h1]at q1;rw [Qa h2]at q2;have n1:(R p == R q)=false:=(by rw [beq_eq_false_iff_ne];exact fun e=>Mz (Nn e));have pa:=GT p hr.a0 (by have:=hr.le;omega) hr.p;have pb:=GT q hr.b0 (by have:=hr.le;omega) hr.q;have m1:=Gt p.num (q.den:Int) hr.bn hr.be;have m2:=Gt q.num (p.den:Int) hr.bm hr.bd;have cp:=dK _ _ hr.ne hr.md;rw [Y0]at cp;have hx:=Aa.refl w;clear h1 h2 hr Mz;go_enter Tryz.func76,Tryz.ntmps76;(go_wp2_with fail);(with_reducible refine(q1 _).mono ?_);rintro e w1 ⟨rfl,rfl⟩;(go_wp2_with fail);(with_reducible refine(q2 _).mono ?_);rintro e w2 ⟨rfl,rfl⟩;(go_wp2_with fail);(with_reducible refine(pa _ (hw.ext hx)).mono ?_);rintro e w3 ⟨rfl,hx3⟩;replace hx:=hx.trans hx3;(go_wp2_with fail);(with_reducible refine(pb _ (hw.ext hx)).mono ?_);rintro e w4 ⟨rfl,Ai⟩;replace hx:=hx.trans Ai;(go_wp2_with fail);(with_reducible refine(m1 _ (hw.ext hx)).mono ?_);rintro e w5 ⟨rfl,Ad⟩;replace hx:=hx.trans Ad;(go_wp2_with fail);(with_reducible refine(m2 _ (hw.ext hx)).mono ?_);rintro e w6 ⟨rfl,AH⟩;replace hx:=hx.trans AH;(go_wp2_with fail);(with_reducible refine(cp _).mono ?_);rintro e w7 ⟨rfl,AB⟩;replace hx:=hx.trans AB;go_wp2;go_ret;exact⟨rfl,hx⟩
 ·have q1:=FW p hr.lp;rw [Qa h1]at q1;have n1:(R p == R q)=false:=(by rw [beq_eq_false_iff_ne];exact fun e=>Mz (Nn e));have pa:=GT p hr.a0 (by have:=hr.le;omega) hr.p;have pb:=GT q hr.b0 (by have:=hr.le;omega) hr.q;have m1:=Gt p.num (q.den:Int) hr.bn hr.be;have m2:=Gt q.num (p.den:Int) hr.bm hr.bd;have cp:=dK _ _ hr.ne hr.md;rw [Y0]at cp;have hx:=Aa.refl w;clear h1 hr Mz;go_enter Tryz.func76,Tryz.ntmps76;(go_wp2_with fail);(with_reducible refine(q1 _).mono ?_);rintro e w1 ⟨rfl,rfl⟩;(go_wp2_with fail);(with_reducible refine(pa _ (hw.ext hx)).mono ?_);rintro e w3 ⟨rfl,hx3⟩;replace hx:=hx.trans hx3;(go_wp2_with fail);(with_reducible refine(pb _ (hw.ext hx)).mono ?_);rintro e w4 ⟨rfl,Ai⟩;replace hx:=hx.trans Ai;(go_wp2_with fail);(with_reducible refine(m1 _ (hw.ext hx)).mono ?_);rintro e w5 ⟨rfl,Ad⟩;replace hx:=hx.trans Ad;(go_wp2_with fail);(with_reducible refine(m2 _ (hw.ext hx)).mono ?_);rintro e w6 ⟨rfl,AH⟩;replace hx:=hx.trans AH;(go_wp2_with fail);(with_reducible refine(cp _).mono ?_);rintro e w7 ⟨rfl,AB⟩;replace hx:=hx.trans AB;go_wp2;go_ret;exact⟨rfl,hx⟩
section
theorem Rm.swap{a b:Nat}{p q:Rat}(h:Rm a b p q):Rm b a q p:=⟨h.q,h.p,h.b0,h.a0,by have:=h.le;omega⟩
theorem GU(p q:Rat){a b:Nat}(hr:Rm a b p q)(w:World)(hw:An w):Calls Tryz.prog 258 #[S (R p),S (R q)] w (Bf (R (p-q)) w):=by
 have hn:=Aid q hr.b0 (by have:=hr.le;omega) hr.q;have ha:=fZ p (-q) (a:=a) (b:=b) ⟨hr.p,hr.q.neg,hr.a0,hr.b0,hr.le⟩;rw [←Rat.sub_eq_add_neg]at ha;clear hr;go_enter Tryz.func258,Tryz.ntmps258;(go_wp2_with fail);(with_reducible refine(hn _).mono ?_);rintro e w1 ⟨rfl,hx1⟩;(go_wp2_with fail);(with_reducible refine(ha _ (hw.ext hx1)).mono ?_);rintro e w2 ⟨rfl,hx2⟩;go_wp2;go_ret;exact⟨rfl,hx1.trans hx2⟩
theorem wq{q:Rat}(h:0<q):R q⁻¹=EN (q.den:Int) q.num.toNat:=by
 have hn:0<q.num:=dc.2 h;rw [Nm,Rat.num_inv,Rat.den_inv,if_neg (by omega),Int.sign_eq_one_of_pos hn,Int.one_mul,show q.num.natAbs=q.num.toNat by omega]
theorem wn{q:Rat}(h:q<0):R q⁻¹=EN (-(q.den:Int)) (-q.num).toNat:=by
 have hn:q.num<0:=IY.2 h;rw [Nm,Rat.num_inv,Rat.den_inv,if_neg (by omega),Int.sign_eq_neg_one_of_neg hn,Int.neg_one_mul,show q.num.natAbs=(-q.num).toNat by omega]
theorem AC.neg{z:Int}(h:AC z):AC (-z):=by unfold AC at h ⊢;rw [Int.natAbs_neg];exact h
def WF(q:Rat):Value:=.tuple #[S (R q),.int .i64 0]
attribute [local go_sem] QM
theorem AhY(p q:Rat)(AE:q≠0){a b:Nat}(hr:Rm a b p q)(w:World)(hw:An w):Calls Tryz.prog 257 #[S (R p),S (R q)] w (Ce (WF (p/q)) w):=by
 have n1:=D2 AE;have pb:=GT q hr.b0 (by have:=hr.le;omega) hr.q;have hm:=Qd p q⁻¹ (a:=a) (b:=b) ⟨hr.p,hr.q.inv hr.b0,hr.a0,hr.b0,hr.le⟩;rw [←Rat.div_def]at hm
 rcases XP q with⟨hn,e⟩|⟨hp,c,l,e,hd,hc⟩
 ·rw [wn hn]at hm;have ne1:=yQ q.num hr.bm;have ne2:=yQ (q.den:Int) hr.be;have hj:=WC (-(q.den:Int)) (-q.num) (by have:=IY.2 hn;omega) hr.be.neg hr.bm.neg;obtain⟨c,hc⟩:=Am8 (45:UInt8);have hl:0<(R q).length:=(by rw [e];simp);have hg:(R q)[0]'hl=c:=(by rw [List.getElem_of_eq e hl,hc];rfl);have hcb:((c.toNat:Int) == 45)=true:=(by rw [hc];rfl);clear e hc hn hr AE;unfold WF;go_enter Tryz.func257,Tryz.ntmps257;(go_wp2_with fail);(with_reducible refine(pb _ hw).mono ?_);rintro e w1 ⟨rfl,hx⟩;(go_wp2_with fail);(with_reducible refine(ne1 _).mono ?_);rintro e w2 ⟨rfl,hx2⟩;replace hx:=hx.trans hx2;(go_wp2_with fail);(with_reducible refine(ne2 _).mono ?_);rintro e w3 ⟨rfl,hx3⟩;replace hx:=hx.trans hx3;(go_wp2_with fail);(with_reducible refine(hj _).mono ?_);rintro e w4 ⟨rfl,Ai⟩;replace hx:=hx.trans Ai;(go_wp2_with fail);(with_reducible refine(hm _ (hw.ext hx)).mono ?_);rintro e w5 ⟨rfl,Ad⟩;replace hx:=hx.trans Ad;go_wp2;go_ret2;exact⟨rfl,hx⟩
 ·have hp:0<q:=(by grind);rw [wq hp]at hm;have hj:=WC (q.den:Int) q.num (dc.2 hp) hr.be hr.bm;have hl:0<(R q).length:=(by rw [e];simp);have hg:(R q)[0]'hl=c:=(by rw [List.getElem_of_eq e hl];rfl);have hcb:((c.toNat:Int) == 45)=false:=(by rw [beq_eq_false_iff_ne];intro k;exact hc (UInt8.toNat_inj.1 (by simp;omega)));clear e hc hp hd hr AE;unfold WF;go_enter Tryz.func257,Tryz.ntmps257;(go_wp2_with fail);(with_reducible refine(pb _ hw).mono ?_);rintro e w1 ⟨rfl,hx⟩;(go_wp2_with fail);(with_reducible refine(hj _).mono ?_);rintro e w4 ⟨rfl,Ai⟩;replace hx:=hx.trans Ai;(go_wp2_with fail);(with_reducible refine(hm _ (hw.ext hx)).mono ?_);rintro e w5 ⟨rfl,Ad⟩;replace hx:=hx.trans Ad;go_wp2;go_ret2;exact⟨rfl,hx⟩
end
theorem AC.of_len{z:Int}{k:Nat}(h:(D z.natAbs).length<=k)(hk:k<=4000):AC z:=AC.of (Li h) hk
section
variable {l n d : Bs}
theorem AhW(hl:l.length<100000)(hn:(47:UInt8)∉l)(b:Bool)(hb:∀W,Calls Tryz.prog 219 #[S l] W (Az (F7 b) W))(w:World)(hw:An w) :
  Calls Tryz.prog 141 #[S l] w (Az (F7 b) w):=by
 have hc:=cut_c l [47] w hw (by omega);rw [YB hn]at hc
 cases b
 ·rw [Nu]at hb ⊢;go_enter Tryz.func141,Tryz.ntmps141;(go_wp2_with fail);(with_reducible refine hc.mono ?_);rintro e w1 ⟨rfl,hx⟩;(go_wp2_with fail);(with_reducible refine(hb _).mono ?_);rintro e w2 ⟨rfl,hx2⟩;go_wp2;go_ret;exact⟨rfl,hx.trans hx2⟩
 ·rw [Kp]at hb ⊢;go_enter Tryz.func141,Tryz.ntmps141;(go_wp2_with fail);(with_reducible refine hc.mono ?_);rintro e w1 ⟨rfl,hx⟩;(go_wp2_with fail);(with_reducible refine(hb _).mono ?_);rintro e w2 ⟨rfl,hx2⟩;go_wp2;go_ret;exact⟨rfl,hx.trans hx2⟩
theorem AhV(hl:(n++47::d).length<100000)(hn:(47:UInt8)∉n)(hb:∀W,Calls Tryz.prog 219 #[S n] W (Az 2 W))(w:World)(hw:An w) :
  Calls Tryz.prog 141 #[S (n++47::d)] w (Az 2 w):=by
 have hc:=cut_c (n++47::d) [47] w hw (by omega);rw [OL hn]at hc;go_enter Tryz.func141,Tryz.ntmps141;(go_wp2_with fail);(with_reducible refine hc.mono ?_);rintro e w1 ⟨rfl,hx⟩;(go_wp2_with fail);(with_reducible refine(hb _).mono ?_);rintro e w2 ⟨rfl,hx2⟩;go_wp2;go_ret;exact⟨rfl,hx.trans hx2⟩
theorem AhU(hl:(n++47::d).length<100000)(hn:(47:UInt8)∉n)(ha:∀W,Calls Tryz.prog 219 #[S n] W (Az 0 W))(hb:∀W,Calls Tryz.prog 219 #[S d] W (Az 2 W))(w:World)(hw:An w) :
  Calls Tryz.prog 141 #[S (n++47::d)] w (Az 2 w):=by
 have hc:=cut_c (n++47::d) [47] w hw (by omega);rw [OL hn]at hc;go_enter Tryz.func141,Tryz.ntmps141;(go_wp2_with fail);(with_reducible refine hc.mono ?_);rintro e w1 ⟨rfl,hx⟩;(go_wp2_with fail);(with_reducible refine(ha _).mono ?_);rintro e w2 ⟨rfl,hx2⟩;replace hx:=hx.trans hx2;(go_wp2_with fail);(with_reducible refine(hb _).mono ?_);rintro e w3 ⟨rfl,hx3⟩;replace hx:=hx.trans hx3;go_wp2;go_ret;exact⟨rfl,hx⟩
end
def Lu(a b:Int):Bool:=decide (1<b)&&decide (a≠0)&&decide (Int.gcd a b=1)
theorem AhT(a b:Int)(FP:(D a.natAbs).length<=200)(Et:(D b.natAbs).length<=200)(w:World)(hw:An w) :
  Calls Tryz.prog 141 #[S (I a++47::I b)] w (Az (F7 (Lu a b)) w):=by
 have ba:=AC.of_len FP (by omega);have bb:=AC.of_len Et (by omega);have l1:=ba.len;have l2:=bb.len;have hc:=cut_c (I a++47::I b) [47] w hw (by rw [List.length_append,List.length_cons];omega);rw [OL (XK a)]at hc;have ca:=SG (I a);have cb:=SG (I b);rw [if_pos ⟨a,rfl,FP⟩]at ca;rw [if_pos ⟨b,rfl,Et⟩]at cb;have hb1:AC 1:=AC.of (k:=1) (by decide) (by omega);have cp:=dK b 1 bb hb1;rw [Q6]at cp;have gc:=yP a b ba bb;have hlen:(I a++47::I b).length<10000:=(by rw [List.length_append,List.length_cons];omega);obtain⟨l,hl⟩:=Am8 (I a++47::I b);rw [←hl]at hc ⊢;clear hl FP Et ba bb hlen;by_cases h1:1<b
 ·rw [Y5 h1]at cp;by_cases h2:a=0
  ·have HV:Hid (F7 (Lu a b)=2):=Am9 (by unfold Lu;rw [decide_eq_false (p:=a≠0) (by simpa using h2)];simp;rfl);have hz:(I a == [48])=true:=(by rw [h2,Q7];rfl);clear gc h2;go_enter Tryz.func141,Tryz.ntmps141;(go_wp2_with fail);(with_reducible refine hc.mono ?_);rintro e w1 ⟨rfl,hx⟩;(go_wp2_with fail);(with_reducible refine(ca _).mono ?_);rintro e w2 ⟨rfl,hx2⟩;replace hx:=hx.trans hx2;(go_wp2_with fail);(with_reducible refine(cb _).mono ?_);rintro e w3 ⟨rfl,hx3⟩;replace hx:=hx.trans hx3;(go_wp2_with fail);(with_reducible refine(cp _).mono ?_);rintro e w4 ⟨rfl,Ai⟩;replace hx:=hx.trans Ai;go_wp2;go_ret;exact⟨AN HV.out,hx⟩
  ·have hz:=Q5 h2
   have HV:Hid (F7 (Lu a b)=if Int.gcd a b=1 then 0 else 2):=Am9 (by
    unfold Lu;rw [decide_eq_true h1,decide_eq_true (p:=a≠0) h2];by_cases h:Int.gcd a b=1
    ·rw [if_pos h,decide_eq_true h];rfl
    ·rw [if_neg h,decide_eq_false h];rfl)
   by_cases h3:Int.gcd a b=1
   ·rw [if_pos h3]at HV;have hg1:(I (Int.gcd a b:Nat) == [49])=true:=(by rw [h3];rw [show ((1:Nat):Int)=1 from rfl,Q6];rfl);clear h3 h2;go_enter Tryz.func141,Tryz.ntmps141;(go_wp2_with fail);(with_reducible refine hc.mono ?_);rintro e w1 ⟨rfl,hx⟩;(go_wp2_with fail);(with_reducible refine(ca _).mono ?_);rintro e w2 ⟨rfl,hx2⟩;replace hx:=hx.trans hx2;(go_wp2_with fail);(with_reducible refine(cb _).mono ?_);rintro e w3 ⟨rfl,hx3⟩;replace hx:=hx.trans hx3;(go_wp2_with fail);(with_reducible refine(cp _).mono ?_);rintro e w4 ⟨rfl,Ai⟩;replace hx:=hx.trans Ai;(go_wp2_with fail);(with_reducible refine(gc _ (hw.ext hx)).mono ?_);rintro e w5 ⟨rfl,Ad⟩;replace hx:=hx.trans Ad;go_wp2;go_ret;exact⟨AN HV.out,hx⟩
   ·rw [if_neg h3]at HV;have hg1:(I (Int.gcd a b:Nat) == [49])=false:=kT (by omega);clear h3 h2;go_enter Tryz.func141,Tryz.ntmps141;(go_wp2_with fail);(with_reducible refine hc.mono ?_);rintro e w1 ⟨rfl,hx⟩;(go_wp2_with fail);(with_reducible refine(ca _).mono ?_);rintro e w2 ⟨rfl,hx2⟩;replace hx:=hx.trans hx2;(go_wp2_with fail);(with_reducible refine(cb _).mono ?_);rintro e w3 ⟨rfl,hx3⟩;replace hx:=hx.trans hx3;(go_wp2_with fail);(with_reducible refine(cp _).mono ?_);rintro e w4 ⟨rfl,Ai⟩;replace hx:=hx.trans Ai;(go_wp2_with fail);(with_reducible refine(gc _ (hw.ext hx)).mono ?_);rintro e w5 ⟨rfl,Ad⟩;replace hx:=hx.trans Ad;go_wp2;go_ret;exact⟨AN HV.out,hx⟩
 ·have HV:Hid (F7 (Lu a b)=2):=Am9 (by unfold Lu;rw [decide_eq_false h1];rfl);obtain⟨s,hs,hs0⟩:∃s:Int,s=DT b 1/\s<=0:=⟨_,rfl,by unfold DT;split<;>(try split)<;>omega⟩;rw [←hs]at cp;clear hs gc h1;go_enter Tryz.func141,Tryz.ntmps141;(go_wp2_with fail);(with_reducible refine hc.mono ?_);rintro e w1 ⟨rfl,hx⟩;(go_wp2_with fail);(with_reducible refine(ca _).mono ?_);rintro e w2 ⟨rfl,hx2⟩;replace hx:=hx.trans hx2;(go_wp2_with fail);(with_reducible refine(cb _).mono ?_);rintro e w3 ⟨rfl,hx3⟩;replace hx:=hx.trans hx3;(go_wp2_with fail);(with_reducible refine(cp _).mono ?_);rintro e w4 ⟨rfl,Ai⟩;replace hx:=hx.trans Ai;go_wp2;go_ret;exact⟨AN HV.out,hx⟩
open Classical in
theorem Aa1(l:Bs):(if Kg l then (0:Int)else 2)=F7 (decide (Kg l)):=by
 by_cases h:Kg l
 ·rw [if_pos h,decide_eq_true h];rfl
 ·rw [if_neg h,decide_eq_false h];rfl
open Classical in
theorem gC(l:Bs)(hl:l.length<100000)(w:World)(hw:An w):Calls Tryz.prog 141 #[S l] w (Az (F7 (decide (BJ l))) w):=by
 rcases AaU l with⟨n,d,rfl,hn,-⟩|⟨hn,-⟩
 ·have ca:=SG n;have cb:=SG d;by_cases h1:Kg n
  ·rw [if_pos h1]at ca;by_cases h2:Kg d
   ·obtain⟨a,rfl,ha⟩:=h1;obtain⟨b,rfl,hb⟩:=h2;have h:=AhT a b ha hb w hw
    have e:Lu a b=decide (BJ (I a++47::I b)):=by
     rw [Bool.eq_iff_iff,decide_eq_true_eq,eZ hn];unfold Lu;simp only [Bool.and_eq_true,decide_eq_true_eq];constructor
     ·rintro⟨⟨x1,x2⟩,x3⟩;exact⟨a,b,rfl,rfl,ha,hb,x1,x2,x3⟩
     ·rintro⟨a',b',e1,e2,_,_,x1,x2,x3⟩;obtain rfl:=O2 e1;obtain rfl:=O2 e2;exact⟨⟨x1,x2⟩,x3⟩
    rw [←e];exact h
   ·rw [if_neg h2]at cb
    have e:decide (BJ (n++47::d))=false:=by rw [decide_eq_false_iff_not,eZ hn];rintro⟨a,b,_,e2,_,hb,_⟩;exact h2 ⟨b,e2,hb⟩
    rw [e];exact AhU hl hn ca cb w hw
  ·rw [if_neg h1]at ca
   have e:decide (BJ (n++47::d))=false:=by rw [decide_eq_false_iff_not,eZ hn];rintro⟨a,b,e1,_,ha,_⟩;exact h1 ⟨a,e1,ha⟩
   rw [e];exact AhV hl hn ca w hw
 ·have ca:=SG l;simp only [Aa1]at ca;have e:decide (BJ l)=decide (Kg l):=(by rw [Bool.eq_iff_iff,decide_eq_true_eq,decide_eq_true_eq];exact AgQ hn);rw [e];exact AhW hl hn _ ca w hw
structure Ae(w:World)(A:Option Addr)(cs:List Value):Prop where
 ad:0<cs.length→∃b o,A=some ⟨b,o,none⟩/\∀j (h:j<cs.length),w.cell? ⟨b,o+j,none⟩=some cs[j]
theorem Ae.ext{w w':World}{A:Option Addr}{cs:List Value}(h:Ae w A cs)(hx:Aa w w'):Ae w' A cs:=
 ⟨fun h0=>by
  obtain⟨b,o,e,hc⟩:=h.ad h0
  exact⟨b,o,e,fun j hj=>hx.cellS (hc j hj)⟩⟩
theorem Ae.lit(w:World)(cs:Array Value)(t:TypeId):Ae (w.alloc (.cells cs t)) (some ⟨w.heap.size,0,none⟩) cs.toList:=
 ⟨fun _=>⟨w.heap.size,0,rfl,fun j hj=>by
  refine Ab (AmB w _) ?_
  rw [Nat.zero_add,←Array.getElem?_toList,AmH hj]⟩⟩
def eU(l:List Bs):Prop:=∀x∈l,BJ x
theorem AgE{x y:Bs} : eU [x,y]↔BJ x/\BJ y:=by unfold eU;simp
open Classical in
theorem Ag9(l:List Bs)(ok:Bool)(Aj:ok=true↔eU l)(A:Option Addr)(c:Nat)(w:World)(hw:An w)(hr:Ae w A (l.map S))(_:l.length<=c)(_:c<=9223372036854775807)(hl:l.length<=100000)(hlen:∀x∈l,x.length<100000) :
  Calls Tryz.prog 147 #[.slice A l.length c] w (Az (F7 ok) w):=by
 have HV:=Am9 Aj;have HL:=Am9 hlen;clear Aj hlen;go_enter Tryz.func147,Tryz.ntmps147;go_wp2
 go_loopw [8] (fun i wr=>∃j:Nat,i=.int .i64 (j:Nat)/\j<=l.length/\(∀x∈l.take j,BJ x)/\Aa w wr) (fun i _=>l.length-(intOf i).toNat)
 case atStart=>exact⟨0,rfl,by omega,by simp,Aa.refl _⟩
 case round=>
  obtain⟨j,rfl,hj,Aj,Ac⟩:=hrel;have HO:=Am9 Aj;clear Aj;by_cases hlt:j<l.length
  ·obtain⟨b,o,rfl,hcs⟩:=(hr.ext Ac).ad (by simp;omega);have hg:=hcs j (by simp;omega);rw [List.getElem_map]at hg;clear hcs;obtain⟨x,hx⟩:=Am8 (l[j]);rw [←hx]at hg;have hmem:x∈l:=(by rw [hx];exact AmD hlt);have ck:=gC x (HL.out x hmem) wr (hw.ext Ac);have HX:=Am9 hx;clear hx;have hj0:(0:Int)<=(j:Int):=(by omega);have AW:(j:Int)<(l.length:Int):=(by omega);by_cases hx:BJ x
   ·rw [decide_eq_true hx,Kp]at ck;(go_wp2_with fail);(with_reducible refine ck.mono ?_);rintro e w2 ⟨rfl,hx2⟩;go_wp2;go_roundw
    case rel=>
     refine⟨j+1,by go_num,hlt,?_,Ac.trans hx2⟩;intro y hy;rw [AmF hlt,←HX.out]at hy
     rcases List.mem_append.1 hy with h|h
     ·exact HO.out y h
     ·simp only [AmO]at h;rw [h];exact hx
    case measure=>simp [intOf];omega
   ·rw [decide_eq_false hx,Nu]at ck
    have hv:ok=false:=by
     cases ok
     ·rfl
     ·exact absurd (HV.out.1 rfl x hmem) hx
    subst hv;rw [Nu];(go_wp2_with fail);(with_reducible refine ck.mono ?_);rintro e w2 ⟨rfl,hx2⟩;go_wp2;go_ret;exact⟨rfl,Ac.trans hx2⟩
  ·have hv:ok=true:=HV.out.2 (by
    have:=HO.out
    rwa [AmK (by omega)]at this)
   subst hv;rw [Kp];go_wp2;go_ret;exact⟨rfl,Ac⟩
theorem nB(x y:Bs)(ok:Bool)(Aj:ok=true↔BJ x/\BJ y)(hx:x.length<100000)(hy:y.length<100000)(w:World)(hw:An w) :
  Calls Tryz.prog 77 #[.agg #[S x,S y]] w (Az (F7 ok) w):=by
 have e1:=(Aa.refl w).alloc (.cells #[S x,S y] 92);have e2:=e1.alloc (.cells #[S x,S y] 24);have hr:=Ae.lit (w.alloc (.cells #[S x,S y] 92)) #[S x,S y] 24;have nm:=Ag9 [x,y] ok (by rw [Aj,AgE]) _ 2 _ (hw.ext e2) hr (by simp) (by omega) (by simp) (by intro z hz;simp only [List.mem_cons,AmN,or_false]at hz;rcases hz with rfl|rfl<;>assumption);simp only [List.length_cons,List.length_nil,Nat.zero_add,Nat.reduceAdd,AmJ]at nm;clear hr Aj;go_enter Tryz.func77,Tryz.ntmps77;(go_wp2_with fail);(with_reducible refine nm.mono ?_);rintro e w2 ⟨rfl,hx2⟩;go_wp2;go_ret;exact⟨rfl,e2.trans hx2⟩
def flat(l:List (Bs×Bs)):List Value:=l.flatMap fun p=>[S p.1,S p.2]
theorem flat_length(l:List (Bs×Bs)):(flat l).length=l.length*2:=by
 induction l with
 | nil=>rfl
 | cons p l ih=>unfold flat at *;simp only [List.flatMap_cons,List.length_append,List.length_cons,List.length_nil];omega
theorem flat_get:∀(l:List (Bs×Bs)) (j:Nat) (h:j<l.length),(flat l)[j*2]?=some (S l[j].1)/\(flat l)[j*2+1]?=some (S l[j].2)
 | p::l,0,_=>⟨rfl,rfl⟩
 | p::l,j+1,h=>by have ih:=flat_get l j (by simpa using h);have e:flat (p::l)=S p.1::S p.2::flat l:=rfl;rw [e,show (j+1)*2=j*2+1+1 by omega];exact ih
theorem OD(w:World)(o1 o2 o3:Obj):∃W,W=((w.alloc o1).alloc o2).alloc o3/\Aa w W/\W.heap[w.heap.size]?=some o1/\W.heap[w.heap.size+1]?=some o2/\W.heap[w.heap.size+1+1]?=some o3:=by
 have h2:=AmB (w.alloc o1) o2;have h3:=AmB ((w.alloc o1).alloc o2) o3;rw [AmJ]at h2;rw [AmJ,AmJ]at h3;refine⟨_,rfl,(((Aa.refl _).alloc _).alloc _).alloc _,?_,?_,h3⟩
 ·exact(Below.heap_alloc _ _ _ (by simp;omega)).trans ((Below.heap_alloc _ _ _ (by simp)).trans (AmB w o1))
 ·exact(Below.heap_alloc _ _ _ (by simp)).trans h2
theorem set2{w:World}{b:Nat}{a0 a1:Value}(v0 v1:Value)(g1:w.cell? ⟨b,0,none⟩=some a0)(g2:w.cell? ⟨b,1,none⟩=some a1) :
  ((w.setCell ⟨b,0,none⟩ v0).setCell ⟨b,1,none⟩ v1).cell? ⟨b,0,none⟩=some v0/\((w.setCell ⟨b,0,none⟩ v0).setCell ⟨b,1,none⟩ v1).cell? ⟨b,1,none⟩=some v1:=by
 refine⟨(World.cell?_setCell_other _ _ _ _ (by simp)).trans (World.cell?_setCell_same _ _ _ g1),?_⟩;exact World.cell?_setCell_same _ _ _ ((World.cell?_setCell_other _ _ _ _ (by simp)).trans g2)
def Ak(p:Pt):Value:=.agg #[S (R p.x),S (R p.y)]
def As(s:Sg):Value:=.agg #[S (R s.a.x),S (R s.a.y),S (R s.b.x),S (R s.b.y)]
structure Ar(k:Nat)(p:Pt):Prop where
 x:Sz k p.x
 y:Sz k p.y
structure Eh(k:Nat)(s:Sg):Prop where
 a:Ar k s.a
 b:Ar k s.b
structure L6(W:World)(b:Nat)(c:Cv):Prop where
 k1:W.cell? ⟨b,0,none⟩=some (S (R c.low.x))
 k2:W.cell? ⟨b,1,none⟩=some (S (R c.low.y))
 k3:W.cell? ⟨b,2,none⟩=some (S (R c.high.x))
 k4:W.cell? ⟨b,3,none⟩=some (S (R c.high.y))
 k5:W.cell? ⟨b,4,none⟩=some (.int .i64 (c.W:Nat))
 k6:W.cell? ⟨b,5,none⟩=some (.int .i64 (c.H:Nat))
theorem L6.ext{W V:World}{b:Nat}{c:Cv}(h:L6 W b c)(hx:Aa W V):L6 V b c:=
 ⟨hx.cellS h.k1,hx.cellS h.k2,hx.cellS h.k3,hx.cellS h.k4,hx.cellS h.k5,hx.cellS h.k6⟩
theorem L6.of{W:World}{b:Nat}{c:Cv}{t:TypeId}(h:W.heap[b]?=some (.cells #[S (R c.low.x),S (R c.low.y),S (R c.high.x),S (R c.high.y),.int .i64 (c.W:Nat),.int .i64 (c.H:Nat)] t)):L6 W b c:=
 ⟨Ab h rfl,Ab h rfl,Ab h rfl,Ab h rfl,Ab h rfl,Ab h rfl⟩
structure Jm(W:World)(b:Nat)(p:Pt):Prop where
 k1:W.cell? ⟨b,0,none⟩=some (S (R p.x))
 k2:W.cell? ⟨b,1,none⟩=some (S (R p.y))
theorem Jm.ext{W V:World}{b:Nat}{p:Pt}(h:Jm W b p)(hx:Aa W V):Jm V b p:=⟨hx.cellS h.k1,hx.cellS h.k2⟩
structure WZ(W:World)(bl:Nat)(l h:Rat):Prop where
 l:W.heap[bl]?=some (.cells #[S (R l)] 24)
 h:W.heap[bl+1]?=some (.cells #[S (R h)] 24)
theorem WZ.ext{W V:World}{bl:Nat}{l h:Rat}(hb:WZ W bl l h)(hx:Aa W V):WZ V bl l h:=
 ⟨(hx.block _ (AmA hb.l)).trans hb.l,(hx.block _ (AmA hb.h)).trans hb.h⟩
structure On(W:World)(b:Nat)(s:Sg):Prop where
 k1:W.cell? ⟨b,0,none⟩=some (S (R s.a.x))
 k2:W.cell? ⟨b,1,none⟩=some (S (R s.a.y))
 k3:W.cell? ⟨b,2,none⟩=some (S (R s.b.x))
 k4:W.cell? ⟨b,3,none⟩=some (S (R s.b.y))
theorem On.ext{W V:World}{b:Nat}{s:Sg}(h:On W b s)(hx:Aa W V):On V b s:=⟨hx.cellS h.k1,hx.cellS h.k2,hx.cellS h.k3,hx.cellS h.k4⟩
theorem J0{B:Nat}{W V:World}(h:Below B W V){b o:Nat}{v:Value}(hb:b<B)(hc:W.cell? ⟨b,o,none⟩=some v):V.cell? ⟨b,o,none⟩=some v:=
 (Below.cell h (p:=⟨b,o,none⟩) hb).trans hc
theorem On.below{B:Nat}{W V:World}{b:Nat}{s:Sg}(h:On W b s)(hx:Below B W V)(hb:b<B):On V b s:=⟨J0 hx hb h.k1,J0 hx hb h.k2,J0 hx hb h.k3,J0 hx hb h.k4⟩
theorem L6.below{B:Nat}{W V:World}{b:Nat}{c:Cv}(h:L6 W b c)(hx:Below B W V)(hb:b<B):L6 V b c:=
 ⟨J0 hx hb h.k1,J0 hx hb h.k2,J0 hx hb h.k3,J0 hx hb h.k4,J0 hx hb h.k5,J0 hx hb h.k6⟩
theorem Wr{q:Rat}{k:Nat}(h:Sz k q)(hk:0<k)(hk2:k<=200):BJ (R q):=
 ⟨q,rfl,AmM (GY hk h.num) hk2,AmM (GY hk h.den) hk2⟩
theorem WU{q:Rat}{k:Nat}(h:Sz k q)(hk:0<k)(hk2:k<=40000):(R q).length<100000:=by have:=QA hk h;omega
def Lm(p:Pt):Bs×Bs:=(R p.x,R p.y)
structure lD where
 fx:Bs
 fy:Bs
 tx:Bs
 ty:Bs
def lD.pts(t:lD):List (Bs×Bs):=[(t.fx,t.fy),(t.tx,t.ty)]
theorem OE{w:World}{b:Nat}{a0 a1 a2 a3:Value}{t:TypeId}(v0 v1 v2 v3:Value)(h:w.heap[b]?=some (.cells #[a0,a1,a2,a3] t)) :
  ((((w.setCell ⟨b,0,none⟩ v0).setCell ⟨b,1,none⟩ v1).setCell ⟨b,2,none⟩ v2).setCell ⟨b,3,none⟩ v3).heap[b]?=some (.cells #[v0,v1,v2,v3] t):=by
 simp only [World.setCell,Array.getElem?_modify,h];simp
def Ut(l:List (Int×Int)):List Value:=l.flatMap fun d=>[.int .i64 d.1,.int .i64 d.2]
theorem oD(l:List (Int×Int)):(Ut l).length=l.length*2:=by
 induction l with
 | nil=>rfl
 | cons p l ih=>unfold Ut at *;simp only [List.flatMap_cons,List.length_append,List.length_cons,List.length_nil];omega
theorem Ae.of_own{w:World}{base:Nat}{e:TypeId}{v:Value}{n:Nat}{l:List (Int×Int)}(h:w.ownsRow base e 2 v n (Ut l))(hn:n=l.length):∃A c,v=.slice A n c/\Ae w A (Ut l)/\n<=c/\c<=9223372036854775807:=by
 subst hn
 rcases h.2 with⟨rfl,h0⟩|⟨g,cap,cur,rfl,_,hg,hn,hm,_,_⟩
 ·exact⟨none,0,by rw [h0],⟨fun h1=>by rw [oD]at h1;omega⟩,by omega,by omega⟩
 ·refine⟨some ⟨g,0,none⟩,cap,rfl,⟨fun _=>⟨g,0,rfl,fun j hj=>?_⟩⟩,hn,by unfold maxLen at hm;omega⟩;rw [Nat.zero_add,h.cellAt j (by rw [oD]at hj;exact hj),AmH hj]
section
variable {ops : Array Oper} {rest : List Oper} {o : Oper} {a : Act} {Q : Exit → Act → World → Prop}
end
section
theorem AiA{P:Program}{w:World}(ts:Array TypeId)(t:TypeId)(k:IntKind)(a b c d e:Int):(Builtin.max_ ts t #[.int k a,.int k b,.int k c,.int k d,.int k e]).run P w=.ok (.int k (max (max (max (max a b) c) d) e)) w:=by
 have m:∀x y:Int,(if y>x then y else x)=max x y:=(by intro x y;split<;>omega);simp only [Builtin.max_,List.foldlM_cons,List.foldlM_nil,Builtin.max2];simp [m]
attribute [local go_sem] AiA
theorem mN{w:World}{b:Nat}{a0 a1:Value}{t:TypeId}(v0 v1:Value)(h:w.heap[b]?=some (.cells #[a0,a1] t)) :
  ((w.setCell ⟨b,0,none⟩ v0).setCell ⟨b,1,none⟩ v1).heap[b]?=some (.cells #[v0,v1] t):=by
 simp only [World.setCell,Array.getElem?_modify,h];simp
def steps(c:Cv)(p:Sg):Nat:=(max (max (max (max 1 (QS c p.a-QS c p.b)) (QS c p.b-QS c p.a)) (Tm c p.a-Tm c p.b)) (Tm c p.b-Tm c p.a)).toNat
def Abq(c:Cv)(p:Sg)(n i:Nat):Int×Int:=(QS c (atR p (mkRat i n)),Tm c (atR p (mkRat i n)))
def AkT(c:Cv)(p:Sg):List (Int×Int):=(List.range (steps c p+1)).map (Abq c p (steps c p))
end
theorem je(z:Int)(h0:-9223372036854775808<=z)(h1:z<=9223372036854775807)(w:World)(hw:An w):Calls Tryz.prog 35 #[.int .i64 z] w (Bf (I z) w):=by
 have hi:=PG z h0 h1 w hw;clear h0 h1;go_enter Tryz.func35,Tryz.ntmps35;(go_wp2_with fail);(with_reducible refine hi.mono ?_);rintro e w1 ⟨rfl,hx1⟩;go_wp2;go_ret;exact⟨rfl,hx1⟩
structure vw(n:Int)(d g:Nat)(n':Int)(d':Nat):Prop where
 R:R (mkRat n d)=EN n' d'
 e1:n.tdiv (g:Int)=n'
 e2:(d:Int)/(g:Int)=(d':Int)
 g0:0<g
 gd:g<=d
 b1:n'.natAbs<=n.natAbs
 b2:d'<=d
theorem AfW(n:Int){d:Nat}(hd:0<d):∃n' d',vw n d (Nat.gcd n.natAbs d) n' d':=by
 have hgn:((Nat.gcd n.natAbs d:Nat):Int)∣n:=Int.natAbs_dvd_natAbs.1 (by rw [AmE];exact Nat.gcd_dvd_left ..);refine⟨n/(Nat.gcd n.natAbs d:Nat),d/Nat.gcd n.natAbs d,XQ n hd,Int.tdiv_eq_ediv_of_dvd hgn,by simp,Nat.gcd_pos_of_pos_right _ hd,Nat.gcd_le_right _ hd,SR _ _ hgn,Nat.div_le_self _ _⟩
theorem Ail(n:Int)(d:Nat)(hd:0<d)(P1:-9000000000000000000<=n)(Da:n<=9000000000000000000)(Ep:d<=9000000000000000000)(w:World)(hw:An w) :
  Calls Tryz.prog 85 #[S (I n),S (I (d:Int))] w (Bf (R (mkRat n d)) w):=by
 obtain⟨n',d',Sm⟩:=AfW n hd;obtain⟨g,hg⟩:=Am8 (Nat.gcd n.natAbs d);rw [←hg]at Sm;obtain⟨hR,e1,e2,hg0,hgd,b1,b2⟩:=Sm;have ln:(I n').length<=20:=Nj (z:=n') (k:=19) (by omega) (by omega);have ld:(D d').length<=19:=GY (by omega) (by omega);have Nr:=Yl n (by omega) (by omega);have at2:=Yl (d:Int) (by omega) (by omega);have HR:=Am9 hR;have HG:=Am9 hg;have H1:=Am9 e1;have H2:=Am9 e2;have i1:=fun W hW=>PG n' (by omega) (by omega) W hW;have i2:=fun W hW=>PG (d':Int) (by omega) (by omega) W hW;rw [Ef]at i2;obtain⟨na,wC⟩:=Am8 (n.natAbs:Nat);have AdV:na<=9000000000000000000:=(by omega);have Xt:=Am9 wC;clear hR hg e1 e2 wC;by_cases Mx:n<0
 case' pos=>have AdX:-n=(na:Int):=(by have:=Xt.out;omega);go_enter Tryz.func85,Tryz.ntmps85;(go_wp2_with fail);(with_reducible refine(Nr _).mono ?_);rintro e w1 ⟨rfl,hx⟩;(go_wp2_with fail);(with_reducible refine(at2 _).mono ?_);rintro e w2 ⟨rfl,hx2⟩;have hE:=hx.trans hx2;go_wp2;clear AdX
 case' neg=>obtain⟨m,hm⟩:=Int.eq_ofNat_of_zero_le (show 0<=n by omega);obtain rfl:m=na:=(by have:=Xt.out;omega);subst hm;go_enter Tryz.func85,Tryz.ntmps85;(go_wp2_with fail);(with_reducible refine(Nr _).mono ?_);rintro e w1 ⟨rfl,hx⟩;(go_wp2_with fail);(with_reducible refine(at2 _).mono ?_);rintro e w2 ⟨rfl,hx2⟩;have hE:=hx.trans hx2;go_wp2
 all_goals
  clear Nr at2 hx hx2
  go_loopw [9,10] (fun x y wr=>∃a b:Nat,x=.int .i64 (a:Nat)/\y=.int .i64 (b:Nat)/\Nat.gcd a b=g/\a<=9000000000000000000/\b<=9000000000000000000/\Aa w wr) (fun _ y _=>(intOf y).natAbs)
  case atStart=>exact⟨_,d,rfl,rfl,by rw [HG.out,←Xt.out],AdV,Ep,hE⟩
  case round=>
   obtain⟨a,b,rfl,rfl,Gm,ha,hb,Ac⟩:=hrel;by_cases hb0:b=0
   ·subst hb0;obtain rfl:a=g:=(by rw [←Gm];simp);clear Gm;have e1:=H1.out;have e2:=H2.out;have Ms:(0:Int)<(a:Int):=(by omega);have hgz:((a:Int) == 0)=false:=(by rw [beq_eq_false_iff_ne];omega);by_cases Es:d'=1
    ·subst Es;have HF:Hid (R (mkRat _ d)=I n'):=Am9 (by rw [HR.out];rfl);(go_wp2_with fail)
     go_quiet (fail)
     (go_wp2_with fail);(with_reducible refine(i1 _ (hw.ext (Ac.drewN _))).mono ?_);rintro e w3 ⟨rfl,hx3⟩;go_wp2;go_ret;exact⟨Il (by rw [HF.out]),(Ac.drewN _).trans hx3⟩
    ·have HF:Hid (R (mkRat _ d)=I n'++47::D d'):=Am9 (by rw [HR.out];exact if_neg Es);have uL:((d':Int) == 1)=false:=(by rw [beq_eq_false_iff_ne];omega);clear Es;(go_wp2_with fail)
     go_quiet (fail)
     (go_wp2_with fail);(with_reducible refine(i1 _ (hw.ext (Ac.drewN _))).mono ?_);rintro e w3 ⟨rfl,hx3⟩;have hx3:=(Ac.drewN _).trans hx3;(go_wp2_with fail);(with_reducible refine(i2 _ (hw.ext hx3)).mono ?_);rintro e w4 ⟨rfl,Ai⟩;go_wp2;go_ret;exact⟨Il (by rw [HF.out];apply ByteArray.ext;simp),hx3.trans Ai⟩
   ·have hlt:a%b<b:=Nat.mod_lt _ (by omega);have RJ:((b:Int) != 0)=true:=(by rw [bne_iff_ne];omega);have CX:((b:Int) == 0)=false:=(by rw [beq_eq_false_iff_ne];omega);have Bv:(0:Int)<(b:Int):=(by omega);have LH:Hid (Nat.gcd b (a%b)=g):=Am9 (by rw [←Gm,Nat.gcd_comm b,←Nat.gcd_rec,Nat.gcd_comm]);clear Gm;(go_wp2_with fail)
    go_quiet (fail)
    go_wp2;go_roundw
    case rel=>exact⟨b,a%b,rfl,by go_num,LH.out,hb,by omega,Ac.drewN _⟩
    case measure=>simp [intOf];omega
theorem Aik(n:Int)(d:Nat)(hd:0<d)(l1:(I n).length<=9)(l2:(I (d:Int)).length<=9)(w:World)(hw:An w) :
  Calls Tryz.prog 34 #[S (I n),S (I (d:Int))] w (Bf (R (mkRat n d)) w):=by
 have b1:=MU l1;have b2:=MU l2;have e9:(10:Nat)^9=1000000000:=(by decide);rw [e9]at b1 b2;have sm:=Ail n d hd (by omega) (by omega) (by omega);have i1:decide (((I n).length:Int)<=9)=true:=(by rw [decide_eq_true_eq];omega);have i2:decide (((I (d:Int)).length:Int)<=9)=true:=(by rw [decide_eq_true_eq];omega);have l1':((I n).length:Int)<=9:=(by omega);have l2':((I (d:Int)).length:Int)<=9:=(by omega);clear b1 b2 e9 hd l1 l2;go_enter Tryz.func34,Tryz.ntmps34;(go_wp2_with fail);(with_reducible refine(sm _ hw).mono ?_);rintro e w3 ⟨rfl,hx3⟩;go_wp2;go_ret;exact⟨rfl,hx3⟩
theorem jf(n:Int)(d:Nat)(hd:0<d)(h1:n.natAbs<10000000)(h2:d<10000000)(w:World)(hw:An w) :
  Calls Tryz.prog 9 #[.int .i64 n,.int .i64 (d:Nat)] w (Bf (R (mkRat n d)) w):=by
 have e7:(10:Nat)^7=10000000:=(by decide);have l1:(I n).length<=9:=AmM (Nj (k:=7) (by omega) (by omega)) (by omega);have l2:(I (d:Int)).length<=9:=AmM (Nj (z:=(d:Int)) (k:=7) (by omega) (by rw [AmE];omega)) (by omega);have o1:=je n (by omega) (by omega);have o2:=je (d:Int) (by omega) (by omega);have fr:=Aik n d hd l1 l2;clear e7 l1 l2 hd h1 h2;go_enter Tryz.func9,Tryz.ntmps9;(go_wp2_with fail);(with_reducible refine(o1 _ hw).mono ?_);rintro e w1 ⟨rfl,hx⟩;(go_wp2_with fail);(with_reducible refine(o2 _ (hw.ext hx)).mono ?_);rintro e w2 ⟨rfl,hx2⟩;replace hx:=hx.trans hx2;(go_wp2_with fail);(with_reducible refine(fr _ (hw.ext hx)).mono ?_);rintro e w3 ⟨rfl,hx3⟩;go_wp2;go_ret;exact⟨rfl,hx.trans hx3⟩
theorem ae(x:Int):mkRat x 1=(x:Rat):=by
 apply Rat.ext
 ·rw [Rat.num_mkRat];simp
 ·rw [Rat.den_mkRat];simp
structure Fr where
 a:Int
 b:Int
 s:Int
 t:Int
 u:Int
 v:Int
structure Fr.Ok(f:Fr):Prop where
 a1:-128<=f.a
 a2:f.a<=127
 b1:-128<=f.b
 b2:f.b<=127
 s1:0<=f.s
 s2:f.s<=255
 t1:0<=f.t
 t2:f.t<=255
 u1:0<=f.u
 u2:f.u<=255
 v1:0<=f.v
 v2:f.v<=255
end Go.Proofs.YtjalkoacphhgdaaGreatDoor
