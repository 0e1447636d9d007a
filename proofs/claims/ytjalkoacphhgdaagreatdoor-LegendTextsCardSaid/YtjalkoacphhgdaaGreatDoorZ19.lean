/- Z19: R2 R3 R4 R5 R6 G1 G2 G3 G4 G5 G6 G7 G8A G9 G10 G11 F1 F2 F3 F4 H1. -/
import Derived.Test.YtjalkoacphhgdaaGreatDoorZ18
set_option maxRecDepth 100000
set_option maxHeartbeats 2000000
namespace Go.Proofs.YtjalkoacphhgdaaGreatDoor
open Go.RowKit Kl
theorem WU(n m:Int)(hm:0<m)(hn:AC n)(hd:AC m)(w:World):Calls Tryz.prog 304 #[S (I n),S (I m)] w (Be (EE n m.toNat) w):=by
 obtain⟨d,rfl⟩:=Int.eq_ofNat_of_zero_le (Int.le_of_lt hm);rw [Eb];exact AiB n d hn hd w
theorem zN(x y:Int)(hx:AC x)(hy:AC y)(w:World)(hw:An w):Calls Tryz.prog 220 #[S (I x),S (I y)] w (Be (I (Int.gcd x y:Nat)) w):=by
 rw [Eb];exact Af4 x y hx hy w hw
theorem WV(n m:Int)(hn:AC n)(hm:AC m)(hm0:0<m)(w:World)(hw:An w):Calls Tryz.prog 307 #[S (I n),S (I m)] w (Be (R (mkRat n m.toNat)) w):=by
 have hs:=PC m;rw [jE hm0]at hs;have hg:=zN n m hn hm;obtain⟨g,hgd⟩:=Ank (Int.gcd n m);have hR:=Yg n (d:=m.toNat) (by omega);have e0:Nat.gcd n.natAbs m.toNat=g:=(by rw [hgd];unfold Int.gcd;rw [show m.natAbs=m.toNat by omega]);rw [e0]at hR;have hg0:0<g:=(by rw [←e0];exact Nat.gcd_pos_of_pos_right _ (by omega));have hgb:g<=m.toNat:=(by rw [←e0];exact Nat.gcd_le_right _ (by omega));have hgn:((g:Nat):Int)∣n:=Int.natAbs_dvd_natAbs.1 (by rw [Anq,←e0];exact Nat.gcd_dvd_left ..);have Vv:((g:Nat):Int)∣m:=Int.natAbs_dvd_natAbs.1 (by rw [Anq,←e0,show m.natAbs=m.toNat by omega];exact Nat.gcd_dvd_right ..);rw [←hgd]at hg;have bg:AC (g:Int):=(by unfold AC at hm ⊢;rw [Anq];omega);by_cases h1:g=1
 ·have hj:=WU n m hm0 hn hm;have HR:Hid (R (mkRat n m.toNat)=EE n m.toNat):=Anl (by rw [hR,h1];simp);subst h1;rw [show I ((1:Nat):Int) = [49] from Q4]at hg;clear hR e0 hgd hgn Vv;go_enter Tryz.func307,Tryz.ntmps307;(go_wp2_with fail);(with_reducible refine(hs _).mono ?_);rintro e w1 ⟨rfl,hx⟩;(go_wp2_with fail);(with_reducible refine(hg _ (hw.ext hx)).mono ?_);rintro e w2 ⟨rfl,hx2⟩;replace hx:=hx.trans hx2;(go_wp2_with fail);(with_reducible refine(hj _).mono ?_);rintro e w3 ⟨rfl,hx3⟩;replace hx:=hx.trans hx3;go_wp2;go_ret;exact⟨Ih (by rw [HR.out]),hx⟩
 ·have bI:(I (g:Int) == [49])=false:=lM (by omega);have d1:=zM n g hn bg (by omega);have d2:=zM m g hm bg (by omega);have bn:AC (n/(g:Int)):=Nat.lt_of_le_of_lt (SX _ _ hgn) hn;have bm:AC (m/(g:Int)):=Nat.lt_of_le_of_lt (SX _ _ Vv) hm
  have hmg:0<m/(g:Int):=by obtain⟨k,hk⟩:=Vv;rw [hk,Int.mul_ediv_cancel_left _ (by omega)];rw [hk]at hm0;exact Int.pos_of_mul_pos_right hm0 (by omega)
  have hj:=WU (n/(g:Int)) (m/(g:Int)) hmg bn bm
  have HR:Hid (R (mkRat n m.toNat)=EE (n/(g:Int)) (m/(g:Int)).toNat):=Anl (by
   rw [hR];obtain⟨d,rfl⟩:=Int.eq_ofNat_of_zero_le (Int.le_of_lt hm0)
   congr 1)
  clear hR e0 hgd hgn Vv h1;unfold QY at d1 d2;go_enter Tryz.func307,Tryz.ntmps307;(go_wp2_with fail);(with_reducible refine(hs _).mono ?_);rintro e w1 ⟨rfl,hx⟩;(go_wp2_with fail);(with_reducible refine(hg _ (hw.ext hx)).mono ?_);rintro e w2 ⟨rfl,hx2⟩;replace hx:=hx.trans hx2;(go_wp2_with fail);(with_reducible refine(d1 _ (hw.ext hx)).mono ?_);rintro e w3 ⟨rfl,hx3⟩;replace hx:=hx.trans hx3;(go_wp2_with fail);(with_reducible refine(d2 _ (hw.ext hx)).mono ?_);rintro e w4 ⟨rfl,Ai⟩;replace hx:=hx.trans Ai;(go_wp2_with fail);(with_reducible refine(hj _).mono ?_);rintro e w5 ⟨rfl,Ad⟩;replace hx:=hx.trans Ad;go_wp2;go_ret;exact⟨Ih (by rw [HR.out]),hx⟩
theorem AC.of{z:Int}{k:Nat}(h:z.natAbs<10^k)(hk:k<=4000):AC z:=Anx h (Nat.pow_le_pow_right (by omega) hk)
theorem GU(q:Rat){k:Nat}(hk:0<k)(hk2:k<=100000)(hz:Sz k q)(w:World)(hw:An w):Calls Tryz.prog 144 #[S (R q)] w (CC (.tuple #[S (I q.num),S (I (q.den:Int))]) w):=by
 have h:=AiG q hk hk2 hz w hw;unfold Ti at h;rw [Eb];exact h
structure Rm(a b:Nat)(p q:Rat):Prop where
 p:Sz a p
 q:Sz b q
 a0:0<a
 b0:0<b
 le:a+b<=3990
section
variable {a b : Nat} {p q : Rat}
theorem Rm.lp(h:Rm a b p q):(R p).length<=100000:=by have:=Q8 h.a0 h.p;have:=h.le;omega
theorem Rm.lq(h:Rm a b p q):(R q).length<=100000:=by have:=Q8 h.b0 h.q;have:=h.le;omega
theorem Rm.bn(h:Rm a b p q):AC p.num:=AC.of h.p.num (by have:=h.le;omega)
theorem Rm.bd(h:Rm a b p q):AC (p.den:Int):=AC.of (k:=a) (by rw [Anq];exact h.p.den) (by have:=h.le;omega)
theorem Rm.bm(h:Rm a b p q):AC q.num:=AC.of h.q.num (by have:=h.le;omega)
theorem Rm.be(h:Rm a b p q):AC (q.den:Int):=AC.of (k:=b) (by rw [Anq];exact h.q.den) (by have:=h.le;omega)
theorem Rm.ne'(h:Rm a b p q):(p.num*(q.den:Int)).natAbs<10^(a+b):=by rw [Int.natAbs_mul,Anq];exact Lh h.p.num h.q.den
theorem Rm.md'(h:Rm a b p q):(q.num*(p.den:Int)).natAbs<10^(a+b):=by rw [Int.natAbs_mul,Anq,Nat.add_comm];exact Lh h.q.num h.p.den
theorem Rm.ne(h:Rm a b p q):AC (p.num*(q.den:Int)):=AC.of h.ne' (by have:=h.le;omega)
theorem Rm.md(h:Rm a b p q):AC (q.num*(p.den:Int)):=AC.of h.md' (by have:=h.le;omega)
theorem Rm.nm(h:Rm a b p q):AC (p.num*q.num):=AC.of (k:=a+b) (by rw [Int.natAbs_mul];exact Lh h.p.num h.q.num) (by have:=h.le;omega)
theorem Rm.de(h:Rm a b p q):AC ((p.den:Int)*(q.den:Int)):=AC.of (k:=a+b) (by rw [Int.natAbs_mul,Anq,Anq];exact Lh h.p.den h.q.den) (by have:=h.le;omega)
theorem Rm.sum(h:Rm a b p q):AC (p.num*(q.den:Int)+q.num*(p.den:Int)):=AC.of (k:=a+b+1) (Nat.lt_of_le_of_lt (Int.natAbs_add_le _ _) (mG h.ne' h.md')) (by have:=h.le;omega)
end
theorem U0(p q:Rat):0<(p.den:Int)*(q.den:Int):=Int.mul_pos (by have:=p.den_pos;omega) (by have:=q.den_pos;omega)
theorem U1(p q:Rat):((p.den:Int)*(q.den:Int)).toNat=p.den*q.den:=by rw [←Int.natCast_mul,Int.toNat_natCast]
def CE(q:Rat):Prop:=(D q.num.natAbs).length<=9/\(D q.den).length<=9
theorem Ll{q:Rat}(h:CE q):PV q=.tuple #[.int .i64 q.num,.int .i64 q.den,.bool true]:=if_pos h
theorem PW{q:Rat}(h:¬CE q):PV q=.tuple #[.int .i64 0,.int .i64 0,.bool false]:=if_neg h
theorem CE.num{q:Rat}(h:CE q):q.num.natAbs<1000000000:=Lf (k:=9) h.1
theorem CE.den{q:Rat}(h:CE q):q.den<1000000000:=Lf (k:=9) h.2
theorem FV(q:Rat)(hl:(R q).length<=100000)(w:World):Calls Tryz.prog 143 #[S (R q)] w (fun e w'=>e=.returned (PV q)/\w=w'):=AiH q hl w
theorem QH{x y:Int}(hx:x.natAbs<1000000000)(hy:y.natAbs<1000000000):(x*y).natAbs<=999999998000000001:=by
 rw [Int.natAbs_mul];exact SV hx hy
theorem Ai4(p q:Rat){a b:Nat}(hr:Rm a b p q)(By:p≠0)(AD:q≠0)(h1:CE p)(h2:CE q)(w:World)(hw:An w):Calls Tryz.prog 275 #[S (R p),S (R q)] w (Be (R (p+q)) w):=by
 have q1:=FV p hr.lp;have q2:=FV q hr.lq;rw [Ll h1]at q1;rw [Ll h2]at q2;have n1:=D3 By;have n2:=D3 AD;clear By AD;have w1:=MS (x:=p.num) (y:=(q.den:Int)) h1.num (by rw [Anq];exact h2.den);have w2:=MS (x:=q.num) (y:=(p.den:Int)) h2.num (by rw [Anq];exact h1.den);have w3:=MS (x:=(p.den:Int)) (y:=(q.den:Int)) (by rw [Anq];exact h1.den) (by rw [Anq];exact h2.den);have b1:=QH (x:=p.num) (y:=(q.den:Int)) h1.num (by rw [Anq];exact h2.den);have b2:=QH (x:=q.num) (y:=(p.den:Int)) h2.num (by rw [Anq];exact h1.den);have b3:=QH (x:=(p.den:Int)) (y:=(q.den:Int)) (by rw [Anq];exact h1.den) (by rw [Anq];exact h2.den);have w4:IntKind.i64.wrap (p.num*(q.den:Int)+q.num*(p.den:Int))=p.num*(q.den:Int)+q.num*(p.den:Int):=Anu _ (by omega);have sm:=kg (p.num*(q.den:Int)+q.num*(p.den:Int)) (p.den*q.den) (Nat.mul_pos p.den_pos q.den_pos) (by omega) (by omega) (by rw [←Int.natCast_mul,Anq]at b3;omega);rw [Int.natCast_mul,←Rat.add_def']at sm;clear b1 b2 b3;have hx:=Aa.refl w;clear h1 h2 hr;go_enter Tryz.func275,Tryz.ntmps275;(go_wp2_with fail);(with_reducible refine(q1 _).mono ?_);rintro e w1 ⟨rfl,rfl⟩;(go_wp2_with fail);(with_reducible refine(q2 _).mono ?_);rintro e w2 ⟨rfl,rfl⟩;(go_wp2_with fail);(with_reducible refine(sm _ hw).mono ?_);rintro e w3 ⟨rfl,hx3⟩;go_wp2;go_ret;exact⟨rfl,hx3⟩
theorem Ai2(p q:Rat){a b:Nat}(hr:Rm a b p q)(By:p≠0)(AD:q≠0)(h1:CE p)(h2:¬CE q)(w:World)(hw:An w):Calls Tryz.prog 275 #[S (R p),S (R q)] w (Be (R (p+q)) w):=by
 have q1:=FV p hr.lp;have q2:=FV q hr.lq;rw [Ll h1]at q1;rw [PW h2]at q2;have n1:=D3 By;have n2:=D3 AD;clear By AD;have hx:=Aa.refl w;have pa:=GU p hr.a0 (by have:=hr.le;omega) hr.p;have pb:=GU q hr.b0 (by have:=hr.le;omega) hr.q;have m1:=Gr p.num (q.den:Int) hr.bn hr.be;have m2:=Gr q.num (p.den:Int) hr.bm hr.bd;have ad:=zL (p.num*(q.den:Int)) (q.num*(p.den:Int)) hr.ne hr.md;have m3:=Gr (p.den:Int) (q.den:Int) hr.bd hr.be;have lo:=WV (p.num*(q.den:Int)+q.num*(p.den:Int)) ((p.den:Int)*(q.den:Int)) hr.sum hr.de (U0 p q);rw [U1,←Rat.add_def']at lo;clear h1 h2 hr;go_enter Tryz.func275,Tryz.ntmps275;(go_wp2_with fail);(with_reducible refine(q1 _).mono ?_);rintro e w1 ⟨rfl,rfl⟩;(go_wp2_with fail);(with_reducible refine(q2 _).mono ?_);rintro e w2 ⟨rfl,rfl⟩;(go_wp2_with fail);(with_reducible refine(pa _ (hw.ext hx)).mono ?_);rintro e w3 ⟨rfl,hx3⟩;replace hx:=hx.trans hx3;(go_wp2_with fail);(with_reducible refine(pb _ (hw.ext hx)).mono ?_);rintro e w4 ⟨rfl,Ai⟩;replace hx:=hx.trans Ai;(go_wp2_with fail);(with_reducible refine(m1 _ (hw.ext hx)).mono ?_);rintro e w5 ⟨rfl,Ad⟩;replace hx:=hx.trans Ad;(go_wp2_with fail);(with_reducible refine(m2 _ (hw.ext hx)).mono ?_);rintro e w6 ⟨rfl,AI⟩;replace hx:=hx.trans AI;(go_wp2_with fail);(with_reducible refine(ad _ (hw.ext hx)).mono ?_);rintro e w7 ⟨rfl,AG⟩;replace hx:=hx.trans AG;(go_wp2_with fail);(with_reducible refine(m3 _ (hw.ext hx)).mono ?_);rintro e w8 ⟨rfl,Bq⟩;replace hx:=hx.trans Bq;(go_wp2_with fail);(with_reducible refine(lo _ (hw.ext hx)).mono ?_);rintro e w9 ⟨rfl,BM⟩;replace hx:=hx.trans BM;go_wp2;go_ret;exact⟨rfl,hx⟩
theorem Ai3(p q:Rat){a b:Nat}(hr:Rm a b p q)(By:p≠0)(AD:q≠0)(h1:¬CE p)(w:World)(hw:An w):Calls Tryz.prog 275 #[S (R p),S (R q)] w (Be (R (p+q)) w):=by
 have q1:=FV p hr.lp;rw [PW h1]at q1;have n1:=D3 By;have n2:=D3 AD;clear By AD;have hx:=Aa.refl w;have pa:=GU p hr.a0 (by have:=hr.le;omega) hr.p;have pb:=GU q hr.b0 (by have:=hr.le;omega) hr.q;have m1:=Gr p.num (q.den:Int) hr.bn hr.be;have m2:=Gr q.num (p.den:Int) hr.bm hr.bd;have ad:=zL (p.num*(q.den:Int)) (q.num*(p.den:Int)) hr.ne hr.md;have m3:=Gr (p.den:Int) (q.den:Int) hr.bd hr.be;have lo:=WV (p.num*(q.den:Int)+q.num*(p.den:Int)) ((p.den:Int)*(q.den:Int)) hr.sum hr.de (U0 p q);rw [U1,←Rat.add_def']at lo;clear h1 hr;go_enter Tryz.func275,Tryz.ntmps275;(go_wp2_with fail);(with_reducible refine(q1 _).mono ?_);rintro e w1 ⟨rfl,rfl⟩;(go_wp2_with fail);(with_reducible refine(pa _ (hw.ext hx)).mono ?_);rintro e w3 ⟨rfl,hx3⟩;replace hx:=hx.trans hx3;(go_wp2_with fail);(with_reducible refine(pb _ (hw.ext hx)).mono ?_);rintro e w4 ⟨rfl,Ai⟩;replace hx:=hx.trans Ai;(go_wp2_with fail);(with_reducible refine(m1 _ (hw.ext hx)).mono ?_);rintro e w5 ⟨rfl,Ad⟩;replace hx:=hx.trans Ad;(go_wp2_with fail);(with_reducible refine(m2 _ (hw.ext hx)).mono ?_);rintro e w6 ⟨rfl,AI⟩;replace hx:=hx.trans AI;(go_wp2_with fail);(with_reducible refine(ad _ (hw.ext hx)).mono ?_);rintro e w7 ⟨rfl,AG⟩;replace hx:=hx.trans AG;(go_wp2_with fail);(with_reducible refine(m3 _ (hw.ext hx)).mono ?_);rintro e w8 ⟨rfl,Bq⟩;replace hx:=hx.trans Bq;(go_wp2_with fail);(with_reducible refine(lo _ (hw.ext hx)).mono ?_);rintro e w9 ⟨rfl,BM⟩;replace hx:=hx.trans BM;go_wp2;go_ret;exact⟨rfl,hx⟩
theorem iE(p q:Rat){a b:Nat}(hr:Rm a b p q)(w:World)(hw:An w):Calls Tryz.prog 275 #[S (R p),S (R q)] w (Be (R (p+q)) w):=by
 by_cases By:p=0
 ·subst By;rw [Rat.zero_add,Ke];clear hr;go_enter Tryz.func275,Tryz.ntmps275;go_wp2;go_ret;exact⟨rfl,Aa.refl _⟩
 ·by_cases AD:q=0
  ·subst AD;rw [Rat.add_zero,Ke];have n1:=D3 By;clear hr By;go_enter Tryz.func275,Tryz.ntmps275;go_wp2;go_ret;exact⟨rfl,Aa.refl _⟩
  ·by_cases h1:CE p
   ·by_cases h2:CE q
    ·exact Ai4 p q hr By AD h1 h2 w hw
    ·exact Ai2 p q hr By AD h1 h2 w hw
   ·exact Ai3 p q hr By AD h1 w hw
theorem AiE(p q:Rat){a b:Nat}(hr:Rm a b p q)(By:p≠0)(AD:q≠0)(C5:p≠1)(AU:q≠1)(h1:CE p)(h2:CE q)(w:World)(hw:An w):Calls Tryz.prog 260 #[S (R p),S (R q)] w (Be (R (p*q)) w):=by
 have q1:=FV p hr.lp;have q2:=FV q hr.lq;rw [Ll h1]at q1;rw [Ll h2]at q2;have n1:=D3 By;have n2:=D3 AD;have n3:=Nl C5;have n4:=Nl AU;clear By AD C5 AU;have w1:=MS (x:=p.num) (y:=q.num) h1.num h2.num;have w3:=MS (x:=(p.den:Int)) (y:=(q.den:Int)) (by rw [Anq];exact h1.den) (by rw [Anq];exact h2.den);have b1:=QH (x:=p.num) (y:=q.num) h1.num h2.num;have b3:=QH (x:=(p.den:Int)) (y:=(q.den:Int)) (by rw [Anq];exact h1.den) (by rw [Anq];exact h2.den);have sm:=kg (p.num*q.num) (p.den*q.den) (Nat.mul_pos p.den_pos q.den_pos) (by omega) (by omega) (by rw [←Int.natCast_mul,Anq]at b3;omega);rw [Int.natCast_mul,←Rat.mul_def']at sm;clear b1 b3;have hx:=Aa.refl w;clear h1 h2 hr;go_enter Tryz.func260,Tryz.ntmps260;(go_wp2_with fail);(with_reducible refine(q1 _).mono ?_);rintro e w1 ⟨rfl,rfl⟩;(go_wp2_with fail);(with_reducible refine(q2 _).mono ?_);rintro e w2 ⟨rfl,rfl⟩;(go_wp2_with fail);(with_reducible refine(sm _ hw).mono ?_);rintro e w3 ⟨rfl,hx3⟩;go_wp2;go_ret;exact⟨rfl,hx3⟩
theorem AiC(p q:Rat){a b:Nat}(hr:Rm a b p q)(By:p≠0)(AD:q≠0)(C5:p≠1)(AU:q≠1)(h1:CE p)(h2:¬CE q)(w:World)(hw:An w):Calls Tryz.prog 260 #[S (R p),S (R q)] w (Be (R (p*q)) w):=by
 have q1:=FV p hr.lp;have q2:=FV q hr.lq;rw [Ll h1]at q1;rw [PW h2]at q2;have n1:=D3 By;have n2:=D3 AD;have n3:=Nl C5;have n4:=Nl AU;clear By AD C5 AU;have hx:=Aa.refl w;have pa:=GU p hr.a0 (by have:=hr.le;omega) hr.p;have pb:=GU q hr.b0 (by have:=hr.le;omega) hr.q;have m1:=Gr p.num q.num hr.bn hr.bm;have m3:=Gr (p.den:Int) (q.den:Int) hr.bd hr.be;have lo:=WV (p.num*q.num) ((p.den:Int)*(q.den:Int)) hr.nm hr.de (U0 p q);rw [U1,←Rat.mul_def']at lo;clear h1 h2 hr;go_enter Tryz.func260,Tryz.ntmps260;(go_wp2_with fail);(with_reducible refine(q1 _).mono ?_);rintro e w1 ⟨rfl,rfl⟩;(go_wp2_with fail);(with_reducible refine(q2 _).mono ?_);rintro e w2 ⟨rfl,rfl⟩;(go_wp2_with fail);(with_reducible refine(pa _ (hw.ext hx)).mono ?_);rintro e w3 ⟨rfl,hx3⟩;replace hx:=hx.trans hx3;(go_wp2_with fail);(with_reducible refine(pb _ (hw.ext hx)).mono ?_);rintro e w4 ⟨rfl,Ai⟩;replace hx:=hx.trans Ai;(go_wp2_with fail);(with_reducible refine(m1 _ (hw.ext hx)).mono ?_);rintro e w5 ⟨rfl,Ad⟩;replace hx:=hx.trans Ad;(go_wp2_with fail);(with_reducible refine(m3 _ (hw.ext hx)).mono ?_);rintro e w8 ⟨rfl,Bq⟩;replace hx:=hx.trans Bq;(go_wp2_with fail);(with_reducible refine(lo _ (hw.ext hx)).mono ?_);rintro e w9 ⟨rfl,BM⟩;replace hx:=hx.trans BM;go_wp2;go_ret;exact⟨rfl,hx⟩
theorem AiD(p q:Rat){a b:Nat}(hr:Rm a b p q)(By:p≠0)(AD:q≠0)(C5:p≠1)(AU:q≠1)(h1:¬CE p)(w:World)(hw:An w):Calls Tryz.prog 260 #[S (R p),S (R q)] w (Be (R (p*q)) w):=by
 have q1:=FV p hr.lp;rw [PW h1]at q1;have n1:=D3 By;have n2:=D3 AD;have n3:=Nl C5;have n4:=Nl AU;clear By AD C5 AU;have hx:=Aa.refl w;have pa:=GU p hr.a0 (by have:=hr.le;omega) hr.p;have pb:=GU q hr.b0 (by have:=hr.le;omega) hr.q;have m1:=Gr p.num q.num hr.bn hr.bm;have m3:=Gr (p.den:Int) (q.den:Int) hr.bd hr.be;have lo:=WV (p.num*q.num) ((p.den:Int)*(q.den:Int)) hr.nm hr.de (U0 p q);rw [U1,←Rat.mul_def']at lo;clear h1 hr;go_enter Tryz.func260,Tryz.ntmps260;(go_wp2_with fail);(with_reducible refine(q1 _).mono ?_);rintro e w1 ⟨rfl,rfl⟩;(go_wp2_with fail);(with_reducible refine(pa _ (hw.ext hx)).mono ?_);rintro e w3 ⟨rfl,hx3⟩;replace hx:=hx.trans hx3;(go_wp2_with fail);(with_reducible refine(pb _ (hw.ext hx)).mono ?_);rintro e w4 ⟨rfl,Ai⟩;replace hx:=hx.trans Ai;(go_wp2_with fail);(with_reducible refine(m1 _ (hw.ext hx)).mono ?_);rintro e w5 ⟨rfl,Ad⟩;replace hx:=hx.trans Ad;(go_wp2_with fail);(with_reducible refine(m3 _ (hw.ext hx)).mono ?_);rintro e w8 ⟨rfl,Bq⟩;replace hx:=hx.trans Bq;(go_wp2_with fail);(with_reducible refine(lo _ (hw.ext hx)).mono ?_);rintro e w9 ⟨rfl,BM⟩;replace hx:=hx.trans BM;go_wp2;go_ret;exact⟨rfl,hx⟩
theorem PZ(p q:Rat){a b:Nat}(hr:Rm a b p q)(w:World)(hw:An w):Calls Tryz.prog 260 #[S (R p),S (R q)] w (Be (R (p*q)) w):=by
 by_cases By:p=0
 ·subst By;rw [Rat.zero_mul,Ke];clear hr;go_enter Tryz.func260,Tryz.ntmps260;go_wp2;go_ret;exact⟨rfl,Aa.refl _⟩
 by_cases AD:q=0
 ·subst AD;rw [Rat.mul_zero,Ke];have n1:=D3 By;clear hr By;go_enter Tryz.func260,Tryz.ntmps260;go_wp2;go_ret;exact⟨rfl,Aa.refl _⟩
 by_cases C5:p=1
 ·subst C5;rw [Rat.one_mul,TZ];have n1:=D3 AD;clear hr AD By;go_enter Tryz.func260,Tryz.ntmps260;go_wp2;go_ret;exact⟨rfl,Aa.refl _⟩
 by_cases AU:q=1
 ·subst AU;rw [Rat.mul_one,TZ];have n1:=D3 By;have n2:=Nl C5;clear hr AD By C5;go_enter Tryz.func260,Tryz.ntmps260;go_wp2;go_ret;exact⟨rfl,Aa.refl _⟩
 by_cases h1:CE p
 ·by_cases h2:CE q
  ·exact AiE p q hr By AD C5 AU h1 h2 w hw
  ·exact AiC p q hr By AD C5 AU h1 h2 w hw
 ·exact AiD p q hr By AD C5 AU h1 w hw
def AN(p q:Rat):Int:=if p<q then -1 else if p=q then 0 else 1
theorem Abg{p q:Rat}(h:p=q):AN p q=0:=by unfold AN;rw [if_neg (by rw [h];exact Rat.lt_irrefl),if_pos h]
theorem YL(p q:Rat):DR (p.num*(q.den:Int)) (q.num*(p.den:Int))=AN p q:=by
 unfold DR AN;by_cases h:p<q
 ·rw [if_pos (Rat.lt_iff _ _ |>.1 h),if_pos h]
 ·rw [if_neg (fun k=>h (Rat.lt_iff _ _ |>.2 k)),if_neg h];by_cases e:p=q
  ·rw [if_pos (Rat.eq_iff_mul_eq_mul.1 e),if_pos e]
  ·rw [if_neg (fun k=>e (Rat.eq_iff_mul_eq_mul.2 k)),if_neg e]
theorem Ai9(p q:Rat){a b:Nat}(hr:Rm a b p q)(hne:p≠q)(h1:CE p)(h2:CE q)(w:World):Calls Tryz.prog 76 #[S (R p),S (R q)] w (AA (AN p q) w):=by
 have q1:=FV p hr.lp;have q2:=FV q hr.lq;rw [Ll h1]at q1;rw [Ll h2]at q2;have n1:(R p == R q)=false:=(by rw [beq_eq_false_iff_ne];exact fun e=>hne (Nk e));have w1:=MS (x:=p.num) (y:=(q.den:Int)) h1.num (by rw [Anq];exact h2.den);have w2:=MS (x:=q.num) (y:=(p.den:Int)) h2.num (by rw [Anq];exact h1.den);have hc:=YL p q;obtain⟨x,hx⟩:=Ank (p.num*(q.den:Int));obtain⟨y,hy⟩:=Ank (q.num*(p.den:Int));rw [←hx]at w1 hc;rw [←hy]at w2 hc;rw [hx]at w1;rw [hy]at w2;have w1':IntKind.i64.wrap (p.num*(q.den:Int))=x:=(by rw [hx];exact w1);have w2':IntKind.i64.wrap (q.num*(p.den:Int))=y:=(by rw [hy];exact w2);have HC:=Anl hc;clear h1 h2 hr hne w1 w2 hx hy hc
 rcases Int.lt_trichotomy x y with h|h|h
 ·have HR:=Anl (oN h);go_enter Tryz.func76,Tryz.ntmps76;(go_wp2_with fail);(with_reducible refine(q1 _).mono ?_);rintro e w1 ⟨rfl,rfl⟩;(go_wp2_with fail);(with_reducible refine(q2 _).mono ?_);rintro e w2 ⟨rfl,rfl⟩;go_wp2;go_ret;exact⟨Bd (by rw [←HC.out,HR.out]),Aa.refl _⟩
 ·have HR:=Anl (Abi h);have h1:¬x<y:=(by omega);have h2:¬y<x:=(by omega);clear h;go_enter Tryz.func76,Tryz.ntmps76;(go_wp2_with fail);(with_reducible refine(q1 _).mono ?_);rintro e w1 ⟨rfl,rfl⟩;(go_wp2_with fail);(with_reducible refine(q2 _).mono ?_);rintro e w2 ⟨rfl,rfl⟩;go_wp2;go_ret;exact⟨Bd (by rw [←HC.out,HR.out]),Aa.refl _⟩
 ·have HR:=Anl (YN h);have h1:¬x<y:=(by omega);go_enter Tryz.func76,Tryz.ntmps76;(go_wp2_with fail);(with_reducible refine(q1 _).mono ?_);rintro e w1 ⟨rfl,rfl⟩;(go_wp2_with fail);(with_reducible refine(q2 _).mono ?_);rintro e w2 ⟨rfl,rfl⟩;go_wp2;go_ret;exact⟨Bd (by rw [←HC.out,HR.out]),Aa.refl _⟩
theorem IZ(p q:Rat){a b:Nat}(hr:Rm a b p q)(w:World)(hw:An w):Calls Tryz.prog 76 #[S (R p),S (R q)] w (AA (AN p q) w):=by
 by_cases Mv:p=q
 ·subst Mv;have HR:=Anl (Abg (rfl:p=p));have n1:(R p == R p)=true:=(by simp);clear hr;go_enter Tryz.func76,Tryz.ntmps76;go_wp2;go_ret;exact⟨Bd HR.out,Aa.refl _⟩
 by_cases h1:CE p
 ·by_cases h2:CE q
  ·exact Ai9 p q hr Mv h1 h2 w
  ·have q1:=FV p hr.lp;have q2:=FV q hr.lq;rw [Ll h1]at q1;rw [PW h2]at q2;have n1:(R p == R q)=false:=(by rw [beq_eq_false_iff_ne];exact fun e=>Mv (Nk e));have pa:=GU p hr.a0 (by have:=hr.le;omega) hr.p;have pb:=GU q hr.b0 (by have:=hr.le;omega) hr.q;have m1:=Gr p.num (q.den:Int) hr.bn hr.be;have m2:=Gr q.num (p.den:Int) hr.bm hr.bd;have cp:=dZ _ _ hr.ne hr.md;rw [YL]at cp;have hx:=Aa.refl w;clear h1 h2 hr Mv;go_enter Tryz.func76,Tryz.ntmps76;(go_wp2_with fail);(with_reducible refine(q1 _).mono ?_);rintro e w1 ⟨rfl,rfl⟩;(go_wp2_with fail);(with_reducible refine(q2 _).mono ?_);rintro e w2 ⟨rfl,rfl⟩;(go_wp2_with fail);(with_reducible refine(pa _ (hw.ext hx)).mono ?_);rintro e w3 ⟨rfl,hx3⟩;replace hx:=hx.trans hx3;(go_wp2_with fail);(with_reducible refine(pb _ (hw.ext hx)).mono ?_);rintro e w4 ⟨rfl,Ai⟩;replace hx:=hx.trans Ai;(go_wp2_with fail);(with_reducible refine(m1 _ (hw.ext hx)).mono ?_);rintro e w5 ⟨rfl,Ad⟩;replace hx:=hx.trans Ad;(go_wp2_with fail);(with_reducible refine(m2 _ (hw.ext hx)).mono ?_);rintro e w6 ⟨rfl,AI⟩;replace hx:=hx.trans AI;(go_wp2_with fail);(with_reducible refine(cp _).mono ?_);rintro e w7 ⟨rfl,AG⟩;replace hx:=hx.trans AG;go_wp2;go_ret;exact⟨rfl,hx⟩
 ·have q1:=FV p hr.lp;rw [PW h1]at q1;have n1:(R p == R q)=false:=(by rw [beq_eq_false_iff_ne];exact fun e=>Mv (Nk e));have pa:=GU p hr.a0 (by have:=hr.le;omega) hr.p;have pb:=GU q hr.b0 (by have:=hr.le;omega) hr.q;have m1:=Gr p.num (q.den:Int) hr.bn hr.be;have m2:=Gr q.num (p.den:Int) hr.bm hr.bd;have cp:=dZ _ _ hr.ne hr.md;rw [YL]at cp;have hx:=Aa.refl w;clear h1 hr Mv;go_enter Tryz.func76,Tryz.ntmps76;(go_wp2_with fail);(with_reducible refine(q1 _).mono ?_);rintro e w1 ⟨rfl,rfl⟩;(go_wp2_with fail);(with_reducible refine(pa _ (hw.ext hx)).mono ?_);rintro e w3 ⟨rfl,hx3⟩;replace hx:=hx.trans hx3;(go_wp2_with fail);(with_reducible refine(pb _ (hw.ext hx)).mono ?_);rintro e w4 ⟨rfl,Ai⟩;replace hx:=hx.trans Ai;(go_wp2_with fail);(with_reducible refine(m1 _ (hw.ext hx)).mono ?_);rintro e w5 ⟨rfl,Ad⟩;replace hx:=hx.trans Ad;(go_wp2_with fail);(with_reducible refine(m2 _ (hw.ext hx)).mono ?_);rintro e w6 ⟨rfl,AI⟩;replace hx:=hx.trans AI;(go_wp2_with fail);(with_reducible refine(cp _).mono ?_);rintro e w7 ⟨rfl,AG⟩;replace hx:=hx.trans AG;go_wp2;go_ret;exact⟨rfl,hx⟩
section
theorem Rm.swap{a b:Nat}{p q:Rat}(h:Rm a b p q):Rm b a q p:=⟨h.q,h.p,h.b0,h.a0,by have:=h.le;omega⟩
theorem GV(p q:Rat){a b:Nat}(hr:Rm a b p q)(w:World)(hw:An w):Calls Tryz.prog 258 #[S (R p),S (R q)] w (Be (R (p-q)) w):=by
 have hn:=AiF q hr.b0 (by have:=hr.le;omega) hr.q;have ha:=iE p (-q) (a:=a) (b:=b) ⟨hr.p,hr.q.neg,hr.a0,hr.b0,hr.le⟩;rw [←Rat.sub_eq_add_neg]at ha;clear hr;go_enter Tryz.func258,Tryz.ntmps258;(go_wp2_with fail);(with_reducible refine(hn _).mono ?_);rintro e w1 ⟨rfl,hx1⟩;(go_wp2_with fail);(with_reducible refine(ha _ (hw.ext hx1)).mono ?_);rintro e w2 ⟨rfl,hx2⟩;go_wp2;go_ret;exact⟨rfl,hx1.trans hx2⟩
theorem ye{q:Rat}(h:0<q):R q⁻¹=EE (q.den:Int) q.num.toNat:=by
 have hn:0<q.num:=fu.2 h;rw [Nj,Rat.num_inv,Rat.den_inv,if_neg (by omega),Int.sign_eq_one_of_pos hn,Int.one_mul,show q.num.natAbs=q.num.toNat by omega]
theorem yc{q:Rat}(h:q<0):R q⁻¹=EE (-(q.den:Int)) (-q.num).toNat:=by
 have hn:q.num<0:=IU.2 h;rw [Nj,Rat.num_inv,Rat.den_inv,if_neg (by omega),Int.sign_eq_neg_one_of_neg hn,Int.neg_one_mul,show q.num.natAbs=(-q.num).toNat by omega]
theorem AC.neg{z:Int}(h:AC z):AC (-z):=by unfold AC at h ⊢;rw [Int.natAbs_neg];exact h
def WX(q:Rat):Value:=.tuple #[S (R q),.int .i64 0]
attribute [local go_sem] QK
theorem AiA(p q:Rat)(AD:q≠0){a b:Nat}(hr:Rm a b p q)(w:World)(hw:An w):Calls Tryz.prog 257 #[S (R p),S (R q)] w (CC (WX (p/q)) w):=by
 have n1:=D3 AD;have pb:=GU q hr.b0 (by have:=hr.le;omega) hr.q;have hm:=PZ p q⁻¹ (a:=a) (b:=b) ⟨hr.p,hr.q.inv hr.b0,hr.a0,hr.b0,hr.le⟩;rw [←Rat.div_def]at hm
 rcases Yf q with⟨hn,e⟩|⟨hp,c,l,e,hd,hc⟩
 ·rw [yc hn]at hm;have ne1:=zO q.num hr.bm;have ne2:=zO (q.den:Int) hr.be;have hj:=WU (-(q.den:Int)) (-q.num) (by have:=IU.2 hn;omega) hr.be.neg hr.bm.neg;obtain⟨c,hc⟩:=Ank (45:UInt8);have hl:0<(R q).length:=(by rw [e];simp);have hg:(R q)[0]'hl=c:=(by rw [List.getElem_of_eq e hl,hc];rfl);have hcb:((c.toNat:Int) == 45)=true:=(by rw [hc];rfl);clear e hc hn hr AD;unfold WX;go_enter Tryz.func257,Tryz.ntmps257;(go_wp2_with fail);(with_reducible refine(pb _ hw).mono ?_);rintro e w1 ⟨rfl,hx⟩;(go_wp2_with fail);(with_reducible refine(ne1 _).mono ?_);rintro e w2 ⟨rfl,hx2⟩;replace hx:=hx.trans hx2;(go_wp2_with fail);(with_reducible refine(ne2 _).mono ?_);rintro e w3 ⟨rfl,hx3⟩;replace hx:=hx.trans hx3;(go_wp2_with fail);(with_reducible refine(hj _).mono ?_);rintro e w4 ⟨rfl,Ai⟩;replace hx:=hx.trans Ai;(go_wp2_with fail);(with_reducible refine(hm _ (hw.ext hx)).mono ?_);rintro e w5 ⟨rfl,Ad⟩;replace hx:=hx.trans Ad;go_wp2;go_ret2;exact⟨rfl,hx⟩
 ·have hp:0<q:=(by grind);rw [ye hp]at hm;have hj:=WU (q.den:Int) q.num (fu.2 hp) hr.be hr.bm;have hl:0<(R q).length:=(by rw [e];simp);have hg:(R q)[0]'hl=c:=(by rw [List.getElem_of_eq e hl];rfl);have hcb:((c.toNat:Int) == 45)=false:=(by rw [beq_eq_false_iff_ne];intro k;exact hc (UInt8.toNat_inj.1 (by simp;omega)));clear e hc hp hd hr AD;unfold WX;go_enter Tryz.func257,Tryz.ntmps257;(go_wp2_with fail);(with_reducible refine(pb _ hw).mono ?_);rintro e w1 ⟨rfl,hx⟩;(go_wp2_with fail);(with_reducible refine(hj _).mono ?_);rintro e w4 ⟨rfl,Ai⟩;replace hx:=hx.trans Ai;(go_wp2_with fail);(with_reducible refine(hm _ (hw.ext hx)).mono ?_);rintro e w5 ⟨rfl,Ad⟩;replace hx:=hx.trans Ad;go_wp2;go_ret2;exact⟨rfl,hx⟩
end
theorem AC.of_len{z:Int}{k:Nat}(h:(D z.natAbs).length<=k)(hk:k<=4000):AC z:=AC.of (Lf h) hk
section
variable {l n d : Bs}
theorem Ai8(hl:l.length<100000)(hn:(47:UInt8)∉l)(b:Bool)(hb:∀W,Calls Tryz.prog 219 #[S l] W (AA (F5 b) W))(w:World)(hw:An w) :
  Calls Tryz.prog 141 #[S l] w (AA (F5 b) w):=by
 have hc:=cut_c l [47] w hw (by omega);rw [YS hn]at hc
 cases b
 ·rw [Np]at hb ⊢;go_enter Tryz.func141,Tryz.ntmps141;(go_wp2_with fail);(with_reducible refine hc.mono ?_);rintro e w1 ⟨rfl,hx⟩;(go_wp2_with fail);(with_reducible refine(hb _).mono ?_);rintro e w2 ⟨rfl,hx2⟩;go_wp2;go_ret;exact⟨rfl,hx.trans hx2⟩
 ·rw [Km]at hb ⊢;go_enter Tryz.func141,Tryz.ntmps141;(go_wp2_with fail);(with_reducible refine hc.mono ?_);rintro e w1 ⟨rfl,hx⟩;(go_wp2_with fail);(with_reducible refine(hb _).mono ?_);rintro e w2 ⟨rfl,hx2⟩;go_wp2;go_ret;exact⟨rfl,hx.trans hx2⟩
theorem Ai7(hl:(n++47::d).length<100000)(hn:(47:UInt8)∉n)(hb:∀W,Calls Tryz.prog 219 #[S n] W (AA 2 W))(w:World)(hw:An w) :
  Calls Tryz.prog 141 #[S (n++47::d)] w (AA 2 w):=by
 have hc:=cut_c (n++47::d) [47] w hw (by omega);rw [OL hn]at hc;go_enter Tryz.func141,Tryz.ntmps141;(go_wp2_with fail);(with_reducible refine hc.mono ?_);rintro e w1 ⟨rfl,hx⟩;(go_wp2_with fail);(with_reducible refine(hb _).mono ?_);rintro e w2 ⟨rfl,hx2⟩;go_wp2;go_ret;exact⟨rfl,hx.trans hx2⟩
theorem Ai6(hl:(n++47::d).length<100000)(hn:(47:UInt8)∉n)(ha:∀W,Calls Tryz.prog 219 #[S n] W (AA 0 W))(hb:∀W,Calls Tryz.prog 219 #[S d] W (AA 2 W))(w:World)(hw:An w) :
  Calls Tryz.prog 141 #[S (n++47::d)] w (AA 2 w):=by
 have hc:=cut_c (n++47::d) [47] w hw (by omega);rw [OL hn]at hc;go_enter Tryz.func141,Tryz.ntmps141;(go_wp2_with fail);(with_reducible refine hc.mono ?_);rintro e w1 ⟨rfl,hx⟩;(go_wp2_with fail);(with_reducible refine(ha _).mono ?_);rintro e w2 ⟨rfl,hx2⟩;replace hx:=hx.trans hx2;(go_wp2_with fail);(with_reducible refine(hb _).mono ?_);rintro e w3 ⟨rfl,hx3⟩;replace hx:=hx.trans hx3;go_wp2;go_ret;exact⟨rfl,hx⟩
end
def Lr(a b:Int):Bool:=decide (1<b)&&decide (a≠0)&&decide (Int.gcd a b=1)
theorem Ai5(a b:Int)(FM:(D a.natAbs).length<=200)(FN:(D b.natAbs).length<=200)(w:World)(hw:An w) :
  Calls Tryz.prog 141 #[S (I a++47::I b)] w (AA (F5 (Lr a b)) w):=by
 have ba:=AC.of_len FM (by omega);have bb:=AC.of_len FN (by omega);have l1:=ba.len;have l2:=bb.len;have hc:=cut_c (I a++47::I b) [47] w hw (by rw [List.length_append,List.length_cons];omega);rw [OL (Ya a)]at hc;have ca:=SK (I a);have cb:=SK (I b);rw [if_pos ⟨a,rfl,FM⟩]at ca;rw [if_pos ⟨b,rfl,FN⟩]at cb;have hb1:AC 1:=AC.of (k:=1) (by decide) (by omega);have cp:=dZ b 1 bb hb1;rw [Q4]at cp;have gc:=zN a b ba bb;have hlen:(I a++47::I b).length<10000:=(by rw [List.length_append,List.length_cons];omega);obtain⟨l,hl⟩:=Ank (I a++47::I b);rw [←hl]at hc ⊢;clear hl FM FN ba bb hlen;by_cases h1:1<b
 ·rw [YN h1]at cp;by_cases h2:a=0
  ·have HV:Hid (F5 (Lr a b)=2):=Anl (by unfold Lr;rw [decide_eq_false (p:=a≠0) (by simpa using h2)];simp;rfl);have hz:(I a == [48])=true:=(by rw [h2,Q5];rfl);clear gc h2;go_enter Tryz.func141,Tryz.ntmps141;(go_wp2_with fail);(with_reducible refine hc.mono ?_);rintro e w1 ⟨rfl,hx⟩;(go_wp2_with fail);(with_reducible refine(ca _).mono ?_);rintro e w2 ⟨rfl,hx2⟩;replace hx:=hx.trans hx2;(go_wp2_with fail);(with_reducible refine(cb _).mono ?_);rintro e w3 ⟨rfl,hx3⟩;replace hx:=hx.trans hx3;(go_wp2_with fail);(with_reducible refine(cp _).mono ?_);rintro e w4 ⟨rfl,Ai⟩;replace hx:=hx.trans Ai;go_wp2;go_ret;exact⟨Bd HV.out,hx⟩
  ·have hz:=Q3 h2
   have HV:Hid (F5 (Lr a b)=if Int.gcd a b=1 then 0 else 2):=Anl (by
    unfold Lr;rw [decide_eq_true h1,decide_eq_true (p:=a≠0) h2];by_cases h:Int.gcd a b=1
    ·rw [if_pos h,decide_eq_true h];rfl
    ·rw [if_neg h,decide_eq_false h];rfl)
   by_cases h3:Int.gcd a b=1
   ·rw [if_pos h3]at HV;have hg1:(I (Int.gcd a b:Nat) == [49])=true:=(by rw [h3];rw [show ((1:Nat):Int)=1 from rfl,Q4];rfl);clear h3 h2;go_enter Tryz.func141,Tryz.ntmps141;(go_wp2_with fail);(with_reducible refine hc.mono ?_);rintro e w1 ⟨rfl,hx⟩;(go_wp2_with fail);(with_reducible refine(ca _).mono ?_);rintro e w2 ⟨rfl,hx2⟩;replace hx:=hx.trans hx2;(go_wp2_with fail);(with_reducible refine(cb _).mono ?_);rintro e w3 ⟨rfl,hx3⟩;replace hx:=hx.trans hx3;(go_wp2_with fail);(with_reducible refine(cp _).mono ?_);rintro e w4 ⟨rfl,Ai⟩;replace hx:=hx.trans Ai;(go_wp2_with fail);(with_reducible refine(gc _ (hw.ext hx)).mono ?_);rintro e w5 ⟨rfl,Ad⟩;replace hx:=hx.trans Ad;go_wp2;go_ret;exact⟨Bd HV.out,hx⟩
   ·rw [if_neg h3]at HV;have hg1:(I (Int.gcd a b:Nat) == [49])=false:=lM (by omega);clear h3 h2;go_enter Tryz.func141,Tryz.ntmps141;(go_wp2_with fail);(with_reducible refine hc.mono ?_);rintro e w1 ⟨rfl,hx⟩;(go_wp2_with fail);(with_reducible refine(ca _).mono ?_);rintro e w2 ⟨rfl,hx2⟩;replace hx:=hx.trans hx2;(go_wp2_with fail);(with_reducible refine(cb _).mono ?_);rintro e w3 ⟨rfl,hx3⟩;replace hx:=hx.trans hx3;(go_wp2_with fail);(with_reducible refine(cp _).mono ?_);rintro e w4 ⟨rfl,Ai⟩;replace hx:=hx.trans Ai;(go_wp2_with fail);(with_reducible refine(gc _ (hw.ext hx)).mono ?_);rintro e w5 ⟨rfl,Ad⟩;replace hx:=hx.trans Ad;go_wp2;go_ret;exact⟨Bd HV.out,hx⟩
 ·have HV:Hid (F5 (Lr a b)=2):=Anl (by unfold Lr;rw [decide_eq_false h1];rfl);obtain⟨s,hs,hs0⟩:∃s:Int,s=DR b 1/\s<=0:=⟨_,rfl,by unfold DR;split<;>(try split)<;>omega⟩;rw [←hs]at cp;clear hs gc h1;go_enter Tryz.func141,Tryz.ntmps141;(go_wp2_with fail);(with_reducible refine hc.mono ?_);rintro e w1 ⟨rfl,hx⟩;(go_wp2_with fail);(with_reducible refine(ca _).mono ?_);rintro e w2 ⟨rfl,hx2⟩;replace hx:=hx.trans hx2;(go_wp2_with fail);(with_reducible refine(cb _).mono ?_);rintro e w3 ⟨rfl,hx3⟩;replace hx:=hx.trans hx3;(go_wp2_with fail);(with_reducible refine(cp _).mono ?_);rintro e w4 ⟨rfl,Ai⟩;replace hx:=hx.trans Ai;go_wp2;go_ret;exact⟨Bd HV.out,hx⟩
open Classical in
theorem AaX(l:Bs):(if Kc l then (0:Int)else 2)=F5 (decide (Kc l)):=by
 by_cases h:Kc l
 ·rw [if_pos h,decide_eq_true h];rfl
 ·rw [if_neg h,decide_eq_false h];rfl
open Classical in
theorem iF(l:Bs)(hl:l.length<100000)(w:World)(hw:An w):Calls Tryz.prog 141 #[S l] w (AA (F5 (decide (BJ l))) w):=by
 rcases Ab3 l with⟨n,d,rfl,hn,-⟩|⟨hn,-⟩
 ·have ca:=SK n;have cb:=SK d;by_cases h1:Kc n
  ·rw [if_pos h1]at ca;by_cases h2:Kc d
   ·obtain⟨a,rfl,ha⟩:=h1;obtain⟨b,rfl,hb⟩:=h2;have h:=Ai5 a b ha hb w hw
    have e:Lr a b=decide (BJ (I a++47::I b)):=by
     rw [Bool.eq_iff_iff,decide_eq_true_eq,fV hn];unfold Lr;simp only [Bool.and_eq_true,decide_eq_true_eq];constructor
     ·rintro⟨⟨x1,x2⟩,x3⟩;exact⟨a,b,rfl,rfl,ha,hb,x1,x2,x3⟩
     ·rintro⟨a',b',e1,e2,_,_,x1,x2,x3⟩;obtain rfl:=O2 e1;obtain rfl:=O2 e2;exact⟨⟨x1,x2⟩,x3⟩
    rw [←e];exact h
   ·rw [if_neg h2]at cb
    have e:decide (BJ (n++47::d))=false:=by rw [decide_eq_false_iff_not,fV hn];rintro⟨a,b,_,e2,_,hb,_⟩;exact h2 ⟨b,e2,hb⟩
    rw [e];exact Ai6 hl hn ca cb w hw
  ·rw [if_neg h1]at ca
   have e:decide (BJ (n++47::d))=false:=by rw [decide_eq_false_iff_not,fV hn];rintro⟨a,b,e1,_,ha,_⟩;exact h1 ⟨a,e1,ha⟩
   rw [e];exact Ai7 hl hn ca w hw
 ·have ca:=SK l;simp only [AaX]at ca;have e:decide (BJ l)=decide (Kc l):=(by rw [Bool.eq_iff_iff,decide_eq_true_eq,decide_eq_true_eq];exact Ah6 hn);rw [e];exact Ai8 hl hn _ ca w hw
structure Ae(w:World)(A:Option Addr)(cs:List Value):Prop where
 ad:0<cs.length→∃b o,A=some ⟨b,o,none⟩/\∀j (h:j<cs.length),w.cell? ⟨b,o+j,none⟩=some cs[j]
theorem Ae.ext{w w':World}{A:Option Addr}{cs:List Value}(h:Ae w A cs)(hx:Aa w w'):Ae w' A cs:=
 ⟨fun h0=>by
  obtain⟨b,o,e,hc⟩:=h.ad h0
  exact⟨b,o,e,fun j hj=>hx.cellS (hc j hj)⟩⟩
theorem Ae.lit(w:World)(cs:Array Value)(t:TypeId):Ae (w.alloc (.cells cs t)) (some ⟨w.heap.size,0,none⟩) cs.toList:=
 ⟨fun _=>⟨w.heap.size,0,rfl,fun j hj=>by
  refine Ab (Ann w _) ?_
  rw [Nat.zero_add,←Array.getElem?_toList,Ant hj]⟩⟩
def fP(l:List Bs):Prop:=∀x∈l,BJ x
theorem Ahu{x y:Bs} : fP [x,y]↔BJ x/\BJ y:=by unfold fP;simp
open Classical in
theorem Ahp(l:List Bs)(ok:Bool)(Aj:ok=true↔fP l)(A:Option Addr)(c:Nat)(w:World)(hw:An w)(hr:Ae w A (l.map S))(_:l.length<=c)(_:c<=9223372036854775807)(hl:l.length<=100000)(hlen:∀x∈l,x.length<100000) :
  Calls Tryz.prog 147 #[.slice A l.length c] w (AA (F5 ok) w):=by
 have HV:=Anl Aj;have HL:=Anl hlen;clear Aj hlen;go_enter Tryz.func147,Tryz.ntmps147;go_wp2
 go_loopw [8] (fun i wr=>∃j:Nat,i=.int .i64 (j:Nat)/\j<=l.length/\(∀x∈l.take j,BJ x)/\Aa w wr) (fun i _=>l.length-(intOf i).toNat)
 case atStart=>exact⟨0,rfl,by omega,by simp,Aa.refl _⟩
 case round=>
  obtain⟨j,rfl,hj,Aj,Ac⟩:=hrel;have HO:=Anl Aj;clear Aj;by_cases hlt:j<l.length
  ·obtain⟨b,o,rfl,hcs⟩:=(hr.ext Ac).ad (by simp;omega);have hg:=hcs j (by simp;omega);rw [List.getElem_map]at hg;clear hcs;obtain⟨x,hx⟩:=Ank (l[j]);rw [←hx]at hg;have hmem:x∈l:=(by rw [hx];exact Anp hlt);have ck:=iF x (HL.out x hmem) wr (hw.ext Ac);have HX:=Anl hx;clear hx;have hj0:(0:Int)<=(j:Int):=(by omega);have AW:(j:Int)<(l.length:Int):=(by omega);by_cases hx:BJ x
   ·rw [decide_eq_true hx,Km]at ck;(go_wp2_with fail);(with_reducible refine ck.mono ?_);rintro e w2 ⟨rfl,hx2⟩;go_wp2;go_roundw
    case rel=>
     refine⟨j+1,by go_num,hlt,?_,Ac.trans hx2⟩;intro y hy;rw [Anr hlt,←HX.out]at hy
     rcases List.mem_append.1 hy with h|h
     ·exact HO.out y h
     ·simp only [An1]at h;rw [h];exact hx
    case measure=>simp [intOf];omega
   ·rw [decide_eq_false hx,Np]at ck
    have hv:ok=false:=by
     cases ok
     ·rfl
     ·exact absurd (HV.out.1 rfl x hmem) hx
    subst hv;rw [Np];(go_wp2_with fail);(with_reducible refine ck.mono ?_);rintro e w2 ⟨rfl,hx2⟩;go_wp2;go_ret;exact⟨rfl,Ac.trans hx2⟩
  ·have hv:ok=true:=HV.out.2 (by
    have:=HO.out
    rwa [Anw (by omega)]at this)
   subst hv;rw [Km];go_wp2;go_ret;exact⟨rfl,Ac⟩
theorem nX(x y:Bs)(ok:Bool)(Aj:ok=true↔BJ x/\BJ y)(hx:x.length<100000)(hy:y.length<100000)(w:World)(hw:An w) :
  Calls Tryz.prog 77 #[.agg #[S x,S y]] w (AA (F5 ok) w):=by
 have e1:=(Aa.refl w).alloc (.cells #[S x,S y] 92);have e2:=e1.alloc (.cells #[S x,S y] 24);have hr:=Ae.lit (w.alloc (.cells #[S x,S y] 92)) #[S x,S y] 24;have nm:=Ahp [x,y] ok (by rw [Aj,Ahu]) _ 2 _ (hw.ext e2) hr (by simp) (by omega) (by simp) (by intro z hz;simp only [List.mem_cons,An0,or_false]at hz;rcases hz with rfl|rfl<;>assumption);simp only [List.length_cons,List.length_nil,Nat.zero_add,Nat.reduceAdd,Anv]at nm;clear hr Aj;go_enter Tryz.func77,Tryz.ntmps77;(go_wp2_with fail);(with_reducible refine nm.mono ?_);rintro e w2 ⟨rfl,hx2⟩;go_wp2;go_ret;exact⟨rfl,e2.trans hx2⟩
def flat(l:List (Bs×Bs)):List Value:=l.flatMap fun p=>[S p.1,S p.2]
theorem flat_length(l:List (Bs×Bs)):(flat l).length=l.length*2:=by
 induction l with
 | nil=>rfl
 | cons p l ih=>unfold flat at *;simp only [List.flatMap_cons,List.length_append,List.length_cons,List.length_nil];omega
theorem flat_get:∀(l:List (Bs×Bs)) (j:Nat) (h:j<l.length),(flat l)[j*2]?=some (S l[j].1)/\(flat l)[j*2+1]?=some (S l[j].2)
 | p::l,0,_=>⟨rfl,rfl⟩
 | p::l,j+1,h=>by have ih:=flat_get l j (by simpa using h);have e:flat (p::l)=S p.1::S p.2::flat l:=rfl;rw [e,show (j+1)*2=j*2+1+1 by omega];exact ih
theorem OD(w:World)(o1 o2 o3:Obj):∃W,W=((w.alloc o1).alloc o2).alloc o3/\Aa w W/\W.heap[w.heap.size]?=some o1/\W.heap[w.heap.size+1]?=some o2/\W.heap[w.heap.size+1+1]?=some o3:=by
 have h2:=Ann (w.alloc o1) o2;have h3:=Ann ((w.alloc o1).alloc o2) o3;rw [Anv]at h2;rw [Anv,Anv]at h3;refine⟨_,rfl,(((Aa.refl _).alloc _).alloc _).alloc _,?_,?_,h3⟩
 ·exact(Below.heap_alloc _ _ _ (by simp;omega)).trans ((Below.heap_alloc _ _ _ (by simp)).trans (Ann w o1))
 ·exact(Below.heap_alloc _ _ _ (by simp)).trans h2
theorem set2{w:World}{b:Nat}{a0 a1:Value}(v0 v1:Value)(g1:w.cell? ⟨b,0,none⟩=some a0)(g2:w.cell? ⟨b,1,none⟩=some a1) :
  ((w.setCell ⟨b,0,none⟩ v0).setCell ⟨b,1,none⟩ v1).cell? ⟨b,0,none⟩=some v0/\((w.setCell ⟨b,0,none⟩ v0).setCell ⟨b,1,none⟩ v1).cell? ⟨b,1,none⟩=some v1:=by
 refine⟨(World.cell?_setCell_other _ _ _ _ (by simp)).trans (World.cell?_setCell_same _ _ _ g1),?_⟩;exact World.cell?_setCell_same _ _ _ ((World.cell?_setCell_other _ _ _ _ (by simp)).trans g2)
def Ak(p:Pt):Value:=.agg #[S (R p.x),S (R p.y)]
def As(s:Sg):Value:=.agg #[S (R s.a.x),S (R s.a.y),S (R s.b.x),S (R s.b.y)]
structure Ar(k:Nat)(p:Pt):Prop where
 x:Sz k p.x
 y:Sz k p.y
structure Ee(k:Nat)(s:Sg):Prop where
 a:Ar k s.a
 b:Ar k s.b
structure L1(W:World)(b:Nat)(c:Cv):Prop where
 k1:W.cell? ⟨b,0,none⟩=some (S (R c.low.x))
 k2:W.cell? ⟨b,1,none⟩=some (S (R c.low.y))
 k3:W.cell? ⟨b,2,none⟩=some (S (R c.high.x))
 k4:W.cell? ⟨b,3,none⟩=some (S (R c.high.y))
 k5:W.cell? ⟨b,4,none⟩=some (.int .i64 (c.W:Nat))
 k6:W.cell? ⟨b,5,none⟩=some (.int .i64 (c.H:Nat))
theorem L1.ext{W V:World}{b:Nat}{c:Cv}(h:L1 W b c)(hx:Aa W V):L1 V b c:=
 ⟨hx.cellS h.k1,hx.cellS h.k2,hx.cellS h.k3,hx.cellS h.k4,hx.cellS h.k5,hx.cellS h.k6⟩
theorem L1.of{W:World}{b:Nat}{c:Cv}{t:TypeId}(h:W.heap[b]?=some (.cells #[S (R c.low.x),S (R c.low.y),S (R c.high.x),S (R c.high.y),.int .i64 (c.W:Nat),.int .i64 (c.H:Nat)] t)):L1 W b c:=
 ⟨Ab h rfl,Ab h rfl,Ab h rfl,Ab h rfl,Ab h rfl,Ab h rfl⟩
structure Ji(W:World)(b:Nat)(p:Pt):Prop where
 k1:W.cell? ⟨b,0,none⟩=some (S (R p.x))
 k2:W.cell? ⟨b,1,none⟩=some (S (R p.y))
theorem Ji.ext{W V:World}{b:Nat}{p:Pt}(h:Ji W b p)(hx:Aa W V):Ji V b p:=⟨hx.cellS h.k1,hx.cellS h.k2⟩
structure Xt(W:World)(bl:Nat)(l h:Rat):Prop where
 l:W.heap[bl]?=some (.cells #[S (R l)] 24)
 h:W.heap[bl+1]?=some (.cells #[S (R h)] 24)
theorem Xt.ext{W V:World}{bl:Nat}{l h:Rat}(hb:Xt W bl l h)(hx:Aa W V):Xt V bl l h:=
 ⟨(hx.block _ (Anm hb.l)).trans hb.l,(hx.block _ (Anm hb.h)).trans hb.h⟩
structure On(W:World)(b:Nat)(s:Sg):Prop where
 k1:W.cell? ⟨b,0,none⟩=some (S (R s.a.x))
 k2:W.cell? ⟨b,1,none⟩=some (S (R s.a.y))
 k3:W.cell? ⟨b,2,none⟩=some (S (R s.b.x))
 k4:W.cell? ⟨b,3,none⟩=some (S (R s.b.y))
theorem On.ext{W V:World}{b:Nat}{s:Sg}(h:On W b s)(hx:Aa W V):On V b s:=⟨hx.cellS h.k1,hx.cellS h.k2,hx.cellS h.k3,hx.cellS h.k4⟩
theorem Jv{B:Nat}{W V:World}(h:Below B W V){b o:Nat}{v:Value}(hb:b<B)(hc:W.cell? ⟨b,o,none⟩=some v):V.cell? ⟨b,o,none⟩=some v:=
 (Below.cell h (p:=⟨b,o,none⟩) hb).trans hc
theorem On.below{B:Nat}{W V:World}{b:Nat}{s:Sg}(h:On W b s)(hx:Below B W V)(hb:b<B):On V b s:=⟨Jv hx hb h.k1,Jv hx hb h.k2,Jv hx hb h.k3,Jv hx hb h.k4⟩
theorem L1.below{B:Nat}{W V:World}{b:Nat}{c:Cv}(h:L1 W b c)(hx:Below B W V)(hb:b<B):L1 V b c:=
 ⟨Jv hx hb h.k1,Jv hx hb h.k2,Jv hx hb h.k3,Jv hx hb h.k4,Jv hx hb h.k5,Jv hx hb h.k6⟩
theorem WG{q:Rat}{k:Nat}(h:Sz k q)(hk:0<k)(hk2:k<=200):BJ (R q):=
 ⟨q,rfl,Anz (Ha hk h.num) hk2,Anz (Ha hk h.den) hk2⟩
theorem Xn{q:Rat}{k:Nat}(h:Sz k q)(hk:0<k)(hk2:k<=40000):(R q).length<100000:=by have:=Q8 hk h;omega
def Lj(p:Pt):Bs×Bs:=(R p.x,R p.y)
structure lY where
 fx:Bs
 fy:Bs
 tx:Bs
 ty:Bs
def lY.pts(t:lY):List (Bs×Bs):=[(t.fx,t.fy),(t.tx,t.ty)]
theorem OE{w:World}{b:Nat}{a0 a1 a2 a3:Value}{t:TypeId}(v0 v1 v2 v3:Value)(h:w.heap[b]?=some (.cells #[a0,a1,a2,a3] t)) :
  ((((w.setCell ⟨b,0,none⟩ v0).setCell ⟨b,1,none⟩ v1).setCell ⟨b,2,none⟩ v2).setCell ⟨b,3,none⟩ v3).heap[b]?=some (.cells #[v0,v1,v2,v3] t):=by
 simp only [World.setCell,Array.getElem?_modify,h];simp
def Uz(l:List (Int×Int)):List Value:=l.flatMap fun d=>[.int .i64 d.1,.int .i64 d.2]
theorem pI(l:List (Int×Int)):(Uz l).length=l.length*2:=by
 induction l with
 | nil=>rfl
 | cons p l ih=>unfold Uz at *;simp only [List.flatMap_cons,List.length_append,List.length_cons,List.length_nil];omega
theorem Ae.of_own{w:World}{base:Nat}{e:TypeId}{v:Value}{n:Nat}{l:List (Int×Int)}(h:w.ownsRow base e 2 v n (Uz l))(hn:n=l.length):∃A c,v=.slice A n c/\Ae w A (Uz l)/\n<=c/\c<=9223372036854775807:=by
 subst hn
 rcases h.2 with⟨rfl,h0⟩|⟨g,cap,cur,rfl,_,hg,hn,hm,_,_⟩
 ·exact⟨none,0,by rw [h0],⟨fun h1=>by rw [pI]at h1;omega⟩,by omega,by omega⟩
 ·refine⟨some ⟨g,0,none⟩,cap,rfl,⟨fun _=>⟨g,0,rfl,fun j hj=>?_⟩⟩,hn,by unfold maxLen at hm;omega⟩;rw [Nat.zero_add,h.cellAt j (by rw [pI]at hj;exact hj),Ant hj]
section
variable {ops : Array Oper} {rest : List Oper} {o : Oper} {a : Act} {Q : Exit → Act → World → Prop}
end
section
theorem Ajr{P:Program}{w:World}(ts:Array TypeId)(t:TypeId)(k:IntKind)(a b c d e:Int):(Builtin.max_ ts t #[.int k a,.int k b,.int k c,.int k d,.int k e]).run P w=.ok (.int k (max (max (max (max a b) c) d) e)) w:=by
 have m:∀x y:Int,(if y>x then y else x)=max x y:=(by intro x y;split<;>omega);simp only [Builtin.max_,List.foldlM_cons,List.foldlM_nil,Builtin.max2];simp [m]
attribute [local go_sem] Ajr
theorem nL{w:World}{b:Nat}{a0 a1:Value}{t:TypeId}(v0 v1:Value)(h:w.heap[b]?=some (.cells #[a0,a1] t)) :
  ((w.setCell ⟨b,0,none⟩ v0).setCell ⟨b,1,none⟩ v1).heap[b]?=some (.cells #[v0,v1] t):=by
 simp only [World.setCell,Array.getElem?_modify,h];simp
def steps(c:Cv)(p:Sg):Nat:=(max (max (max (max 1 (QQ c p.a-QQ c p.b)) (QQ c p.b-QQ c p.a)) (To c p.a-To c p.b)) (To c p.b-To c p.a)).toNat
def AbP(c:Cv)(p:Sg)(n i:Nat):Int×Int:=(QQ c (atR p (mkRat i n)),To c (atR p (mkRat i n)))
def Al4(c:Cv)(p:Sg):List (Int×Int):=(List.range (steps c p+1)).map (AbP c p (steps c p))
end
theorem ki(z:Int)(h0:-9223372036854775808<=z)(h1:z<=9223372036854775807)(w:World)(hw:An w):Calls Tryz.prog 35 #[.int .i64 z] w (Be (I z) w):=by
 have hi:=PD z h0 h1 w hw;clear h0 h1;go_enter Tryz.func35,Tryz.ntmps35;(go_wp2_with fail);(with_reducible refine hi.mono ?_);rintro e w1 ⟨rfl,hx1⟩;go_wp2;go_ret;exact⟨rfl,hx1⟩
structure xy(n:Int)(d g:Nat)(n':Int)(d':Nat):Prop where
 R:R (mkRat n d)=EE n' d'
 e1:n.tdiv (g:Int)=n'
 e2:(d:Int)/(g:Int)=(d':Int)
 g0:0<g
 gd:g<=d
 b1:n'.natAbs<=n.natAbs
 b2:d'<=d
theorem Ag2(n:Int){d:Nat}(hd:0<d):∃n' d',xy n d (Nat.gcd n.natAbs d) n' d':=by
 have hgn:((Nat.gcd n.natAbs d:Nat):Int)∣n:=Int.natAbs_dvd_natAbs.1 (by rw [Anq];exact Nat.gcd_dvd_left ..);refine⟨n/(Nat.gcd n.natAbs d:Nat),d/Nat.gcd n.natAbs d,Yg n hd,Int.tdiv_eq_ediv_of_dvd hgn,by simp,Nat.gcd_pos_of_pos_right _ hd,Nat.gcd_le_right _ hd,SX _ _ hgn,Nat.div_le_self _ _⟩
theorem AiO(n:Int)(d:Nat)(hd:0<d)(Py:-9000000000000000000<=n)(Dc:n<=9000000000000000000)(El:d<=9000000000000000000)(w:World)(hw:An w) :
  Calls Tryz.prog 85 #[S (I n),S (I (d:Int))] w (Be (R (mkRat n d)) w):=by
 obtain⟨n',d',Sp⟩:=Ag2 n hd;obtain⟨g,hg⟩:=Ank (Nat.gcd n.natAbs d);rw [←hg]at Sp;obtain⟨hR,e1,e2,hg0,hgd,b1,b2⟩:=Sp;have ln:(I n').length<=20:=Ng (z:=n') (k:=19) (by omega) (by omega);have ld:(D d').length<=19:=Ha (by omega) (by omega);have Nn:=Y5 n (by omega) (by omega);have at2:=Y5 (d:Int) (by omega) (by omega);have HR:=Anl hR;have HG:=Anl hg;have H1:=Anl e1;have H2:=Anl e2;have i1:=fun W hW=>PD n' (by omega) (by omega) W hW;have i2:=fun W hW=>PD (d':Int) (by omega) (by omega) W hW;rw [Eb]at i2;obtain⟨na,xC⟩:=Ank (n.natAbs:Nat);have Ae6:na<=9000000000000000000:=(by omega);have XL:=Anl xC;clear hR hg e1 e2 xC;by_cases Mt:n<0
 case' pos=>have Ae8:-n=(na:Int):=(by have:=XL.out;omega);go_enter Tryz.func85,Tryz.ntmps85;(go_wp2_with fail);(with_reducible refine(Nn _).mono ?_);rintro e w1 ⟨rfl,hx⟩;(go_wp2_with fail);(with_reducible refine(at2 _).mono ?_);rintro e w2 ⟨rfl,hx2⟩;have hE:=hx.trans hx2;go_wp2;clear Ae8
 case' neg=>obtain⟨m,hm⟩:=Int.eq_ofNat_of_zero_le (show 0<=n by omega);obtain rfl:m=na:=(by have:=XL.out;omega);subst hm;go_enter Tryz.func85,Tryz.ntmps85;(go_wp2_with fail);(with_reducible refine(Nn _).mono ?_);rintro e w1 ⟨rfl,hx⟩;(go_wp2_with fail);(with_reducible refine(at2 _).mono ?_);rintro e w2 ⟨rfl,hx2⟩;have hE:=hx.trans hx2;go_wp2
 all_goals
  clear Nn at2 hx hx2
  go_loopw [9,10] (fun x y wr=>∃a b:Nat,x=.int .i64 (a:Nat)/\y=.int .i64 (b:Nat)/\Nat.gcd a b=g/\a<=9000000000000000000/\b<=9000000000000000000/\Aa w wr) (fun _ y _=>(intOf y).natAbs)
  case atStart=>exact⟨_,d,rfl,rfl,by rw [HG.out,←XL.out],Ae6,El,hE⟩
  case round=>
   obtain⟨a,b,rfl,rfl,Gl,ha,hb,Ac⟩:=hrel;by_cases hb0:b=0
   ·subst hb0;obtain rfl:a=g:=(by rw [←Gl];simp);clear Gl;have e1:=H1.out;have e2:=H2.out;have Mo:(0:Int)<(a:Int):=(by omega);have hgz:((a:Int) == 0)=false:=(by rw [beq_eq_false_iff_ne];omega);by_cases FK:d'=1
    ·subst FK;have HF:Hid (R (mkRat _ d)=I n'):=Anl (by rw [HR.out];rfl);(go_wp2_with fail)
     go_quiet (fail)
     (go_wp2_with fail);(with_reducible refine(i1 _ (hw.ext (Ac.drewN _))).mono ?_);rintro e w3 ⟨rfl,hx3⟩;go_wp2;go_ret;exact⟨Ih (by rw [HF.out]),(Ac.drewN _).trans hx3⟩
    ·have HF:Hid (R (mkRat _ d)=I n'++47::D d'):=Anl (by rw [HR.out];exact if_neg FK);have vI:((d':Int) == 1)=false:=(by rw [beq_eq_false_iff_ne];omega);clear FK;(go_wp2_with fail)
     go_quiet (fail)
     (go_wp2_with fail);(with_reducible refine(i1 _ (hw.ext (Ac.drewN _))).mono ?_);rintro e w3 ⟨rfl,hx3⟩;have hx3:=(Ac.drewN _).trans hx3;(go_wp2_with fail);(with_reducible refine(i2 _ (hw.ext hx3)).mono ?_);rintro e w4 ⟨rfl,Ai⟩;go_wp2;go_ret;exact⟨Ih (by rw [HF.out];apply ByteArray.ext;simp),hx3.trans Ai⟩
   ·have hlt:a%b<b:=Nat.mod_lt _ (by omega);have RJ:((b:Int) != 0)=true:=(by rw [bne_iff_ne];omega);have CY:((b:Int) == 0)=false:=(by rw [beq_eq_false_iff_ne];omega);have Bt:(0:Int)<(b:Int):=(by omega);have LE:Hid (Nat.gcd b (a%b)=g):=Anl (by rw [←Gl,Nat.gcd_comm b,←Nat.gcd_rec,Nat.gcd_comm]);clear Gl;(go_wp2_with fail)
    go_quiet (fail)
    go_wp2;go_roundw
    case rel=>exact⟨b,a%b,rfl,by go_num,LE.out,hb,by omega,Ac.drewN _⟩
    case measure=>simp [intOf];omega
theorem AiN(n:Int)(d:Nat)(hd:0<d)(l1:(I n).length<=9)(l2:(I (d:Int)).length<=9)(w:World)(hw:An w) :
  Calls Tryz.prog 34 #[S (I n),S (I (d:Int))] w (Be (R (mkRat n d)) w):=by
 have b1:=MR l1;have b2:=MR l2;have e9:(10:Nat)^9=1000000000:=(by decide);rw [e9]at b1 b2;have sm:=AiO n d hd (by omega) (by omega) (by omega);have i1:decide (((I n).length:Int)<=9)=true:=(by rw [decide_eq_true_eq];omega);have i2:decide (((I (d:Int)).length:Int)<=9)=true:=(by rw [decide_eq_true_eq];omega);have l1':((I n).length:Int)<=9:=(by omega);have l2':((I (d:Int)).length:Int)<=9:=(by omega);clear b1 b2 e9 hd l1 l2;go_enter Tryz.func34,Tryz.ntmps34;(go_wp2_with fail);(with_reducible refine(sm _ hw).mono ?_);rintro e w3 ⟨rfl,hx3⟩;go_wp2;go_ret;exact⟨rfl,hx3⟩
theorem kj(n:Int)(d:Nat)(hd:0<d)(h1:n.natAbs<10000000)(h2:d<10000000)(w:World)(hw:An w) :
  Calls Tryz.prog 9 #[.int .i64 n,.int .i64 (d:Nat)] w (Be (R (mkRat n d)) w):=by
 have e7:(10:Nat)^7=10000000:=(by decide);have l1:(I n).length<=9:=Anz (Ng (k:=7) (by omega) (by omega)) (by omega);have l2:(I (d:Int)).length<=9:=Anz (Ng (z:=(d:Int)) (k:=7) (by omega) (by rw [Anq];omega)) (by omega);have o1:=ki n (by omega) (by omega);have o2:=ki (d:Int) (by omega) (by omega);have fr:=AiN n d hd l1 l2;clear e7 l1 l2 hd h1 h2;go_enter Tryz.func9,Tryz.ntmps9;(go_wp2_with fail);(with_reducible refine(o1 _ hw).mono ?_);rintro e w1 ⟨rfl,hx⟩;(go_wp2_with fail);(with_reducible refine(o2 _ (hw.ext hx)).mono ?_);rintro e w2 ⟨rfl,hx2⟩;replace hx:=hx.trans hx2;(go_wp2_with fail);(with_reducible refine(fr _ (hw.ext hx)).mono ?_);rintro e w3 ⟨rfl,hx3⟩;go_wp2;go_ret;exact⟨rfl,hx.trans hx3⟩
theorem ei(x:Int):mkRat x 1=(x:Rat):=by
 apply Rat.ext
 ·rw [Rat.num_mkRat];simp
 ·rw [Rat.den_mkRat];simp
structure Fr where
 a:Int
 b:Int
 s:Int
 t:Int
 u:Int
 v:Int
structure Fr.Ok(f:Fr):Prop where
 a1:-128<=f.a
 a2:f.a<=127
 b1:-128<=f.b
 b2:f.b<=127
 s1:0<=f.s
 s2:f.s<=255
 t1:0<=f.t
 t2:f.t<=255
 u1:0<=f.u
 u2:f.u<=255
 v1:0<=f.v
 v2:f.v<=255
end Go.Proofs.YtjalkoacphhgdaaGreatDoor
