/- X20: R2 R3 R4 R5 R6 G1 G2 G3 G4 G5 G6 G7 G8A G9 G10 G11 F1 F2. -/
import Derived.Test.YtjalkoacphhgdaaGreatDoorX19
import Derived.Test.YtjalkoacphhgdaaGreatDoorX06
set_option maxRecDepth 100000
set_option maxHeartbeats 2000000
namespace Go.Proofs.YtjalkoacphhgdaaGreatDoor
open Go.RowKit Kl
theorem Ye(n m:Int)(hm:0<m)(hn:AE n)(hd:AE m)(w:World):Calls Tryz.prog 304 #[S (I n),S (I m)] w (Bg (EB n m.toNat) w):=by
 obtain⟨d,rfl⟩:=Int.eq_ofNat_of_zero_le (Int.le_of_lt hm);rw [Ec];exact AlL n d hn hd w
theorem ki(x y:Int)(hx:AE x)(hy:AE y)(w:World)(hw:Am w):Calls Tryz.prog 220 #[S (I x),S (I y)] w (Bg (I (Int.gcd x y:Nat)) w):=by
 rw [Ec];exact Aiu x y hx hy w hw
theorem Yf(n m:Int)(hn:AE n)(hm:AE m)(hm0:0<m)(w:World)(hw:Am w):Calls Tryz.prog 307 #[S (I n),S (I m)] w (Bg (R (mkRat n m.toNat)) w):=by
 have hs:=Qw m;rw [mJ hm0]at hs;have hg:=ki n m hn hm;obtain⟨g,hgd⟩:=AqG (Int.gcd n m);have hR:=Zq n (d:=m.toNat) (by omega);have e0:Nat.gcd n.natAbs m.toNat=g:=(by rw [hgd];unfold Int.gcd;rw [show m.natAbs=m.toNat by omega]);rw [e0]at hR;have hg0:0<g:=(by rw [←e0];exact Nat.gcd_pos_of_pos_right _ (by omega));have hgb:g<=m.toNat:=(by rw [←e0];exact Nat.gcd_le_right _ (by omega));have hgn:((g:Nat):Int)∣n:=Int.natAbs_dvd_natAbs.1 (by rw [AqM,←e0];exact Nat.gcd_dvd_left ..);have WB:((g:Nat):Int)∣m:=Int.natAbs_dvd_natAbs.1 (by rw [AqM,←e0,show m.natAbs=m.toNat by omega];exact Nat.gcd_dvd_right ..);rw [←hgd]at hg;have bg:AE (g:Int):=(by unfold AE at hm ⊢;rw [AqM];omega);by_cases h1:g=1
 ·have hj:=Ye n m hm0 hn hm;have HR:Hid (R (mkRat n m.toNat)=EB n m.toNat):=AqH (by rw [hR,h1];simp);subst h1;rw [show I ((1:Nat):Int) = [49] from Rx]at hg;clear hR e0 hgd hgn WB;go_enter Tryz.func307,Tryz.ntmps307;(go_wp2_with fail);(with_reducible refine(hs _).mono ?_);rintro e w1 ⟨rfl,hx⟩;(go_wp2_with fail);(with_reducible refine(hg _ (hw.ext hx)).mono ?_);rintro e w2 ⟨rfl,hx2⟩;replace hx:=hx.trans hx2;(go_wp2_with fail);(with_reducible refine(hj _).mono ?_);rintro e w3 ⟨rfl,hx3⟩;replace hx:=hx.trans hx3;go_wp2;go_ret;exact⟨Gt (by rw [HR.out]),hx⟩
 ·have eV:(I (g:Int) == [49])=false:=pL (by omega);have d1:=kh n g hn bg (by omega);have d2:=kh m g hm bg (by omega);have bn:AE (n/(g:Int)):=Nat.lt_of_le_of_lt (TR _ _ hgn) hn;have bm:AE (m/(g:Int)):=Nat.lt_of_le_of_lt (TR _ _ WB) hm
  have hmg:0<m/(g:Int):=by obtain⟨k,hk⟩:=WB;rw [hk,Int.mul_ediv_cancel_left _ (by omega)];rw [hk]at hm0;exact Int.pos_of_mul_pos_right hm0 (by omega)
  have hj:=Ye (n/(g:Int)) (m/(g:Int)) hmg bn bm
  have HR:Hid (R (mkRat n m.toNat)=EB (n/(g:Int)) (m/(g:Int)).toNat):=AqH (by
   rw [hR];obtain⟨d,rfl⟩:=Int.eq_ofNat_of_zero_le (Int.le_of_lt hm0)
   congr 1)
  clear hR e0 hgd hgn WB h1;unfold Se at d1 d2;go_enter Tryz.func307,Tryz.ntmps307;(go_wp2_with fail);(with_reducible refine(hs _).mono ?_);rintro e w1 ⟨rfl,hx⟩;(go_wp2_with fail);(with_reducible refine(hg _ (hw.ext hx)).mono ?_);rintro e w2 ⟨rfl,hx2⟩;replace hx:=hx.trans hx2;(go_wp2_with fail);(with_reducible refine(d1 _ (hw.ext hx)).mono ?_);rintro e w3 ⟨rfl,hx3⟩;replace hx:=hx.trans hx3;(go_wp2_with fail);(with_reducible refine(d2 _ (hw.ext hx)).mono ?_);rintro e w4 ⟨rfl,Ai⟩;replace hx:=hx.trans Ai;(go_wp2_with fail);(with_reducible refine(hj _).mono ?_);rintro e w5 ⟨rfl,Ae⟩;replace hx:=hx.trans Ae;go_wp2;go_ret;exact⟨Gt (by rw [HR.out]),hx⟩
theorem AE.of{z:Int}{k:Nat}(h:z.natAbs<10^k)(hk:k<=4000):AE z:=AqT h (Nat.pow_le_pow_right (by omega) hk)
theorem H9(q:Rat){k:Nat}(hk:0<k)(hk2:k<=100000)(hz:Sz k q)(w:World)(hw:Am w):Calls Tryz.prog 144 #[S (R q)] w (De (.tuple #[S (I q.num),S (I (q.den:Int))]) w):=by
 have h:=AlQ q hk hk2 hz w hw;unfold Ud at h;rw [Ec];exact h
structure Rm(a b:Nat)(p q:Rat):Prop where
 p:Sz a p
 q:Sz b q
 a0:0<a
 b0:0<b
 le:a+b<=3990
section
variable {a b : Nat} {p q : Rat}
theorem Rm.lp(h:Rm a b p q):(R p).length<=100000:=by have:=R7 h.a0 h.p;have:=h.le;omega
theorem Rm.lq(h:Rm a b p q):(R q).length<=100000:=by have:=R7 h.b0 h.q;have:=h.le;omega
theorem Rm.bn(h:Rm a b p q):AE p.num:=AE.of h.p.num (by have:=h.le;omega)
theorem Rm.bd(h:Rm a b p q):AE (p.den:Int):=AE.of (k:=a) (by rw [AqM];exact h.p.den) (by have:=h.le;omega)
theorem Rm.bm(h:Rm a b p q):AE q.num:=AE.of h.q.num (by have:=h.le;omega)
theorem Rm.be(h:Rm a b p q):AE (q.den:Int):=AE.of (k:=b) (by rw [AqM];exact h.q.den) (by have:=h.le;omega)
theorem Rm.ne'(h:Rm a b p q):(p.num*(q.den:Int)).natAbs<10^(a+b):=by rw [Int.natAbs_mul,AqM];exact LN h.p.num h.q.den
theorem Rm.md'(h:Rm a b p q):(q.num*(p.den:Int)).natAbs<10^(a+b):=by rw [Int.natAbs_mul,AqM,Nat.add_comm];exact LN h.q.num h.p.den
theorem Rm.ne(h:Rm a b p q):AE (p.num*(q.den:Int)):=AE.of h.ne' (by have:=h.le;omega)
theorem Rm.md(h:Rm a b p q):AE (q.num*(p.den:Int)):=AE.of h.md' (by have:=h.le;omega)
theorem Rm.nm(h:Rm a b p q):AE (p.num*q.num):=AE.of (k:=a+b) (by rw [Int.natAbs_mul];exact LN h.p.num h.q.num) (by have:=h.le;omega)
theorem Rm.de(h:Rm a b p q):AE ((p.den:Int)*(q.den:Int)):=AE.of (k:=a+b) (by rw [Int.natAbs_mul,AqM,AqM];exact LN h.p.den h.q.den) (by have:=h.le;omega)
theorem Rm.sum(h:Rm a b p q):AE (p.num*(q.den:Int)+q.num*(p.den:Int)):=AE.of (k:=a+b+1) (Nat.lt_of_le_of_lt (Int.natAbs_add_le _ _) (qH h.ne' h.md')) (by have:=h.le;omega)
end
theorem Vp(p q:Rat):0<(p.den:Int)*(q.den:Int):=Int.mul_pos (by have:=p.den_pos;omega) (by have:=q.den_pos;omega)
theorem Vq(p q:Rat):((p.den:Int)*(q.den:Int)).toNat=p.den*q.den:=by rw [←Int.natCast_mul,Int.toNat_natCast]
def CS(q:Rat):Prop:=(D q.num.natAbs).length<=9/\(D q.den).length<=9
theorem LR{q:Rat}(h:CS q):QI q=.tuple #[.int .i64 q.num,.int .i64 q.den,.bool true]:=if_pos h
theorem QJ{q:Rat}(h:¬CS q):QI q=.tuple #[.int .i64 0,.int .i64 0,.bool false]:=if_neg h
theorem CS.num{q:Rat}(h:CS q):q.num.natAbs<1000000000:=Ko (k:=9) h.1
theorem CS.den{q:Rat}(h:CS q):q.den<1000000000:=Ko (k:=9) h.2
theorem Gs(q:Rat)(hl:(R q).length<=100000)(w:World):Calls Tryz.prog 143 #[S (R q)] w (fun e w'=>e=.returned (QI q)/\w=w'):=AlR q hl w
theorem Mw{x y:Int}(hx:x.natAbs<1000000000)(hy:y.natAbs<1000000000):(x*y).natAbs<=999999998000000001:=by
 rw [Int.natAbs_mul];exact TQ hx hy
theorem AlE(p q:Rat){a b:Nat}(hr:Rm a b p q)(B8:p≠0)(AG:q≠0)(h1:CS p)(h2:CS q)(w:World)(hw:Am w):Calls Tryz.prog 275 #[S (R p),S (R q)] w (Bg (R (p+q)) w):=by
 have q1:=Gs p hr.lp;have q2:=Gs q hr.lq;rw [LR h1]at q1;rw [LR h2]at q2;have n1:=DR B8;have n2:=DR AG;clear B8 AG;have w1:=J8 (x:=p.num) (y:=(q.den:Int)) h1.num (by rw [AqM];exact h2.den);have w2:=J8 (x:=q.num) (y:=(p.den:Int)) h2.num (by rw [AqM];exact h1.den);have w3:=J8 (x:=(p.den:Int)) (y:=(q.den:Int)) (by rw [AqM];exact h1.den) (by rw [AqM];exact h2.den);have b1:=Mw (x:=p.num) (y:=(q.den:Int)) h1.num (by rw [AqM];exact h2.den);have b2:=Mw (x:=q.num) (y:=(p.den:Int)) h2.num (by rw [AqM];exact h1.den);have b3:=Mw (x:=(p.den:Int)) (y:=(q.den:Int)) (by rw [AqM];exact h1.den) (by rw [AqM];exact h2.den);have w4:IntKind.i64.wrap (p.num*(q.den:Int)+q.num*(p.den:Int))=p.num*(q.den:Int)+q.num*(p.den:Int):=AqQ _ (by omega);have sm:=vg (p.num*(q.den:Int)+q.num*(p.den:Int)) (p.den*q.den) (Nat.mul_pos p.den_pos q.den_pos) (by omega) (by omega) (by rw [←Int.natCast_mul,AqM]at b3;omega);rw [Int.natCast_mul,←Rat.add_def']at sm;clear b1 b2 b3;have hx:=Aa.refl w;clear h1 h2 hr;go_enter Tryz.func275,Tryz.ntmps275;(go_wp2_with fail);(with_reducible refine(q1 _).mono ?_);rintro e w1 ⟨rfl,rfl⟩;(go_wp2_with fail);(with_reducible refine(q2 _).mono ?_);rintro e w2 ⟨rfl,rfl⟩;(go_wp2_with fail);(with_reducible refine(sm _ hw).mono ?_);rintro e w3 ⟨rfl,hx3⟩;go_wp2;go_ret;exact⟨rfl,hx3⟩
theorem AlC(p q:Rat){a b:Nat}(hr:Rm a b p q)(B8:p≠0)(AG:q≠0)(h1:CS p)(h2:¬CS q)(w:World)(hw:Am w):Calls Tryz.prog 275 #[S (R p),S (R q)] w (Bg (R (p+q)) w):=by
 have q1:=Gs p hr.lp;have q2:=Gs q hr.lq;rw [LR h1]at q1;rw [QJ h2]at q2;have n1:=DR B8;have n2:=DR AG;clear B8 AG;have hx:=Aa.refl w;have pa:=H9 p hr.a0 (by have:=hr.le;omega) hr.p;have pb:=H9 q hr.b0 (by have:=hr.le;omega) hr.q;have m1:=GG p.num (q.den:Int) hr.bn hr.be;have m2:=GG q.num (p.den:Int) hr.bm hr.bd;have ad:=kg (p.num*(q.den:Int)) (q.num*(p.den:Int)) hr.ne hr.md;have m3:=GG (p.den:Int) (q.den:Int) hr.bd hr.be;have lo:=Yf (p.num*(q.den:Int)+q.num*(p.den:Int)) ((p.den:Int)*(q.den:Int)) hr.sum hr.de (Vp p q);rw [Vq,←Rat.add_def']at lo;clear h1 h2 hr;go_enter Tryz.func275,Tryz.ntmps275;(go_wp2_with fail);(with_reducible refine(q1 _).mono ?_);rintro e w1 ⟨rfl,rfl⟩;(go_wp2_with fail);(with_reducible refine(q2 _).mono ?_);rintro e w2 ⟨rfl,rfl⟩;(go_wp2_with fail);(with_reducible refine(pa _ (hw.ext hx)).mono ?_);rintro e w3 ⟨rfl,hx3⟩;replace hx:=hx.trans hx3;(go_wp2_with fail);(with_reducible refine(pb _ (hw.ext hx)).mono ?_);rintro e w4 ⟨rfl,Ai⟩;replace hx:=hx.trans Ai;(go_wp2_with fail);(with_reducible refine(m1 _ (hw.ext hx)).mono ?_);rintro e w5 ⟨rfl,Ae⟩;replace hx:=hx.trans Ae;(go_wp2_with fail);(with_reducible refine(m2 _ (hw.ext hx)).mono ?_);rintro e w6 ⟨rfl,Ay⟩;replace hx:=hx.trans Ay;(go_wp2_with fail);(with_reducible refine(ad _ (hw.ext hx)).mono ?_);rintro e w7 ⟨rfl,Aw⟩;replace hx:=hx.trans Aw;(go_wp2_with fail);(with_reducible refine(m3 _ (hw.ext hx)).mono ?_);rintro e w8 ⟨rfl,Bd⟩;replace hx:=hx.trans Bd;(go_wp2_with fail);(with_reducible refine(lo _ (hw.ext hx)).mono ?_);rintro e w9 ⟨rfl,BM⟩;replace hx:=hx.trans BM;go_wp2;go_ret;exact⟨rfl,hx⟩
theorem AlD(p q:Rat){a b:Nat}(hr:Rm a b p q)(B8:p≠0)(AG:q≠0)(h1:¬CS p)(w:World)(hw:Am w):Calls Tryz.prog 275 #[S (R p),S (R q)] w (Bg (R (p+q)) w):=by
 have q1:=Gs p hr.lp;rw [QJ h1]at q1;have n1:=DR B8;have n2:=DR AG;clear B8 AG;have hx:=Aa.refl w;have pa:=H9 p hr.a0 (by have:=hr.le;omega) hr.p;have pb:=H9 q hr.b0 (by have:=hr.le;omega) hr.q;have m1:=GG p.num (q.den:Int) hr.bn hr.be;have m2:=GG q.num (p.den:Int) hr.bm hr.bd;have ad:=kg (p.num*(q.den:Int)) (q.num*(p.den:Int)) hr.ne hr.md;have m3:=GG (p.den:Int) (q.den:Int) hr.bd hr.be;have lo:=Yf (p.num*(q.den:Int)+q.num*(p.den:Int)) ((p.den:Int)*(q.den:Int)) hr.sum hr.de (Vp p q);rw [Vq,←Rat.add_def']at lo;clear h1 hr;go_enter Tryz.func275,Tryz.ntmps275;(go_wp2_with fail);(with_reducible refine(q1 _).mono ?_);rintro e w1 ⟨rfl,rfl⟩;(go_wp2_with fail);(with_reducible refine(pa _ (hw.ext hx)).mono ?_);rintro e w3 ⟨rfl,hx3⟩;replace hx:=hx.trans hx3;(go_wp2_with fail);(with_reducible refine(pb _ (hw.ext hx)).mono ?_);rintro e w4 ⟨rfl,Ai⟩;replace hx:=hx.trans Ai;(go_wp2_with fail);(with_reducible refine(m1 _ (hw.ext hx)).mono ?_);rintro e w5 ⟨rfl,Ae⟩;replace hx:=hx.trans Ae;(go_wp2_with fail);(with_reducible refine(m2 _ (hw.ext hx)).mono ?_);rintro e w6 ⟨rfl,Ay⟩;replace hx:=hx.trans Ay;(go_wp2_with fail);(with_reducible refine(ad _ (hw.ext hx)).mono ?_);rintro e w7 ⟨rfl,Aw⟩;replace hx:=hx.trans Aw;(go_wp2_with fail);(with_reducible refine(m3 _ (hw.ext hx)).mono ?_);rintro e w8 ⟨rfl,Bd⟩;replace hx:=hx.trans Bd;(go_wp2_with fail);(with_reducible refine(lo _ (hw.ext hx)).mono ?_);rintro e w9 ⟨rfl,BM⟩;replace hx:=hx.trans BM;go_wp2;go_ret;exact⟨rfl,hx⟩
theorem lL(p q:Rat){a b:Nat}(hr:Rm a b p q)(w:World)(hw:Am w):Calls Tryz.prog 275 #[S (R p),S (R q)] w (Bg (R (p+q)) w):=by
 by_cases B8:p=0
 ·subst B8;rw [Rat.zero_add,KJ];clear hr;go_enter Tryz.func275,Tryz.ntmps275;go_wp2;go_ret;exact⟨rfl,Aa.refl _⟩
 ·by_cases AG:q=0
  ·subst AG;rw [Rat.add_zero,KJ];have n1:=DR B8;clear hr B8;go_enter Tryz.func275,Tryz.ntmps275;go_wp2;go_ret;exact⟨rfl,Aa.refl _⟩
  ·by_cases h1:CS p
   ·by_cases h2:CS q
    ·exact AlE p q hr B8 AG h1 h2 w hw
    ·exact AlC p q hr B8 AG h1 h2 w hw
   ·exact AlD p q hr B8 AG h1 w hw
theorem AlO(p q:Rat){a b:Nat}(hr:Rm a b p q)(B8:p≠0)(AG:q≠0)(DG:p≠1)(AX:q≠1)(h1:CS p)(h2:CS q)(w:World)(hw:Am w):Calls Tryz.prog 260 #[S (R p),S (R q)] w (Bg (R (p*q)) w):=by
 have q1:=Gs p hr.lp;have q2:=Gs q hr.lq;rw [LR h1]at q1;rw [LR h2]at q2;have n1:=DR B8;have n2:=DR AG;have n3:=NR DG;have n4:=NR AX;clear B8 AG DG AX;have w1:=J8 (x:=p.num) (y:=q.num) h1.num h2.num;have w3:=J8 (x:=(p.den:Int)) (y:=(q.den:Int)) (by rw [AqM];exact h1.den) (by rw [AqM];exact h2.den);have b1:=Mw (x:=p.num) (y:=q.num) h1.num h2.num;have b3:=Mw (x:=(p.den:Int)) (y:=(q.den:Int)) (by rw [AqM];exact h1.den) (by rw [AqM];exact h2.den);have sm:=vg (p.num*q.num) (p.den*q.den) (Nat.mul_pos p.den_pos q.den_pos) (by omega) (by omega) (by rw [←Int.natCast_mul,AqM]at b3;omega);rw [Int.natCast_mul,←Rat.mul_def']at sm;clear b1 b3;have hx:=Aa.refl w;clear h1 h2 hr;go_enter Tryz.func260,Tryz.ntmps260;(go_wp2_with fail);(with_reducible refine(q1 _).mono ?_);rintro e w1 ⟨rfl,rfl⟩;(go_wp2_with fail);(with_reducible refine(q2 _).mono ?_);rintro e w2 ⟨rfl,rfl⟩;(go_wp2_with fail);(with_reducible refine(sm _ hw).mono ?_);rintro e w3 ⟨rfl,hx3⟩;go_wp2;go_ret;exact⟨rfl,hx3⟩
theorem AlM(p q:Rat){a b:Nat}(hr:Rm a b p q)(B8:p≠0)(AG:q≠0)(DG:p≠1)(AX:q≠1)(h1:CS p)(h2:¬CS q)(w:World)(hw:Am w):Calls Tryz.prog 260 #[S (R p),S (R q)] w (Bg (R (p*q)) w):=by
 have q1:=Gs p hr.lp;have q2:=Gs q hr.lq;rw [LR h1]at q1;rw [QJ h2]at q2;have n1:=DR B8;have n2:=DR AG;have n3:=NR DG;have n4:=NR AX;clear B8 AG DG AX;have hx:=Aa.refl w;have pa:=H9 p hr.a0 (by have:=hr.le;omega) hr.p;have pb:=H9 q hr.b0 (by have:=hr.le;omega) hr.q;have m1:=GG p.num q.num hr.bn hr.bm;have m3:=GG (p.den:Int) (q.den:Int) hr.bd hr.be;have lo:=Yf (p.num*q.num) ((p.den:Int)*(q.den:Int)) hr.nm hr.de (Vp p q);rw [Vq,←Rat.mul_def']at lo;clear h1 h2 hr;go_enter Tryz.func260,Tryz.ntmps260;(go_wp2_with fail);(with_reducible refine(q1 _).mono ?_);rintro e w1 ⟨rfl,rfl⟩;(go_wp2_with fail);(with_reducible refine(q2 _).mono ?_);rintro e w2 ⟨rfl,rfl⟩;(go_wp2_with fail);(with_reducible refine(pa _ (hw.ext hx)).mono ?_);rintro e w3 ⟨rfl,hx3⟩;replace hx:=hx.trans hx3;(go_wp2_with fail);(with_reducible refine(pb _ (hw.ext hx)).mono ?_);rintro e w4 ⟨rfl,Ai⟩;replace hx:=hx.trans Ai;(go_wp2_with fail);(with_reducible refine(m1 _ (hw.ext hx)).mono ?_);rintro e w5 ⟨rfl,Ae⟩;replace hx:=hx.trans Ae;(go_wp2_with fail);(with_reducible refine(m3 _ (hw.ext hx)).mono ?_);rintro e w8 ⟨rfl,Bd⟩;replace hx:=hx.trans Bd;(go_wp2_with fail);(with_reducible refine(lo _ (hw.ext hx)).mono ?_);rintro e w9 ⟨rfl,BM⟩;replace hx:=hx.trans BM;go_wp2;go_ret;exact⟨rfl,hx⟩
theorem AlN(p q:Rat){a b:Nat}(hr:Rm a b p q)(B8:p≠0)(AG:q≠0)(DG:p≠1)(AX:q≠1)(h1:¬CS p)(w:World)(hw:Am w):Calls Tryz.prog 260 #[S (R p),S (R q)] w (Bg (R (p*q)) w):=by
 have q1:=Gs p hr.lp;rw [QJ h1]at q1;have n1:=DR B8;have n2:=DR AG;have n3:=NR DG;have n4:=NR AX;clear B8 AG DG AX;have hx:=Aa.refl w;have pa:=H9 p hr.a0 (by have:=hr.le;omega) hr.p;have pb:=H9 q hr.b0 (by have:=hr.le;omega) hr.q;have m1:=GG p.num q.num hr.bn hr.bm;have m3:=GG (p.den:Int) (q.den:Int) hr.bd hr.be;have lo:=Yf (p.num*q.num) ((p.den:Int)*(q.den:Int)) hr.nm hr.de (Vp p q);rw [Vq,←Rat.mul_def']at lo;clear h1 hr;go_enter Tryz.func260,Tryz.ntmps260;(go_wp2_with fail);(with_reducible refine(q1 _).mono ?_);rintro e w1 ⟨rfl,rfl⟩;(go_wp2_with fail);(with_reducible refine(pa _ (hw.ext hx)).mono ?_);rintro e w3 ⟨rfl,hx3⟩;replace hx:=hx.trans hx3;(go_wp2_with fail);(with_reducible refine(pb _ (hw.ext hx)).mono ?_);rintro e w4 ⟨rfl,Ai⟩;replace hx:=hx.trans Ai;(go_wp2_with fail);(with_reducible refine(m1 _ (hw.ext hx)).mono ?_);rintro e w5 ⟨rfl,Ae⟩;replace hx:=hx.trans Ae;(go_wp2_with fail);(with_reducible refine(m3 _ (hw.ext hx)).mono ?_);rintro e w8 ⟨rfl,Bd⟩;replace hx:=hx.trans Bd;(go_wp2_with fail);(with_reducible refine(lo _ (hw.ext hx)).mono ?_);rintro e w9 ⟨rfl,BM⟩;replace hx:=hx.trans BM;go_wp2;go_ret;exact⟨rfl,hx⟩
theorem QM(p q:Rat){a b:Nat}(hr:Rm a b p q)(w:World)(hw:Am w):Calls Tryz.prog 260 #[S (R p),S (R q)] w (Bg (R (p*q)) w):=by
 by_cases B8:p=0
 ·subst B8;rw [Rat.zero_mul,KJ];clear hr;go_enter Tryz.func260,Tryz.ntmps260;go_wp2;go_ret;exact⟨rfl,Aa.refl _⟩
 by_cases AG:q=0
 ·subst AG;rw [Rat.mul_zero,KJ];have n1:=DR B8;clear hr B8;go_enter Tryz.func260,Tryz.ntmps260;go_wp2;go_ret;exact⟨rfl,Aa.refl _⟩
 by_cases DG:p=1
 ·subst DG;rw [Rat.one_mul,UO];have n1:=DR AG;clear hr AG B8;go_enter Tryz.func260,Tryz.ntmps260;go_wp2;go_ret;exact⟨rfl,Aa.refl _⟩
 by_cases AX:q=1
 ·subst AX;rw [Rat.mul_one,UO];have n1:=DR B8;have n2:=NR DG;clear hr AG B8 DG;go_enter Tryz.func260,Tryz.ntmps260;go_wp2;go_ret;exact⟨rfl,Aa.refl _⟩
 by_cases h1:CS p
 ·by_cases h2:CS q
  ·exact AlO p q hr B8 AG DG AX h1 h2 w hw
  ·exact AlM p q hr B8 AG DG AX h1 h2 w hw
 ·exact AlN p q hr B8 AG DG AX h1 w hw
def AU(p q:Rat):Int:=if p<q then -1 else if p=q then 0 else 1
theorem AdD{p q:Rat}(h:p=q):AU p q=0:=by unfold AU;rw [if_neg (by rw [h];exact Rat.lt_irrefl),if_pos h]
theorem ZR(p q:Rat):Eh (p.num*(q.den:Int)) (q.num*(p.den:Int))=AU p q:=by
 unfold Eh AU;by_cases h:p<q
 ·rw [if_pos (Rat.lt_iff _ _ |>.1 h),if_pos h]
 ·rw [if_neg (fun k=>h (Rat.lt_iff _ _ |>.2 k)),if_neg h];by_cases e:p=q
  ·rw [if_pos (Rat.eq_iff_mul_eq_mul.1 e),if_pos e]
  ·rw [if_neg (fun k=>e (Rat.eq_iff_mul_eq_mul.2 k)),if_neg e]
theorem AlJ(p q:Rat){a b:Nat}(hr:Rm a b p q)(hne:p≠q)(h1:CS p)(h2:CS q)(w:World):Calls Tryz.prog 76 #[S (R p),S (R q)] w (Ax (AU p q) w):=by
 have q1:=Gs p hr.lp;have q2:=Gs q hr.lq;rw [LR h1]at q1;rw [LR h2]at q2;have n1:(R p == R q)=false:=(by rw [beq_eq_false_iff_ne];exact fun e=>hne (NQ e));have w1:=J8 (x:=p.num) (y:=(q.den:Int)) h1.num (by rw [AqM];exact h2.den);have w2:=J8 (x:=q.num) (y:=(p.den:Int)) h2.num (by rw [AqM];exact h1.den);have hc:=ZR p q;obtain⟨x,hx⟩:=AqG (p.num*(q.den:Int));obtain⟨y,hy⟩:=AqG (q.num*(p.den:Int));rw [←hx]at w1 hc;rw [←hy]at w2 hc;rw [hx]at w1;rw [hy]at w2;have w1':IntKind.i64.wrap (p.num*(q.den:Int))=x:=(by rw [hx];exact w1);have w2':IntKind.i64.wrap (q.num*(p.den:Int))=y:=(by rw [hy];exact w2);have HC:=AqH hc;clear h1 h2 hr hne w1 w2 hx hy hc
 rcases Int.lt_trichotomy x y with h|h|h
 ·have HR:=AqH (sX h);go_enter Tryz.func76,Tryz.ntmps76;(go_wp2_with fail);(with_reducible refine(q1 _).mono ?_);rintro e w1 ⟨rfl,rfl⟩;(go_wp2_with fail);(with_reducible refine(q2 _).mono ?_);rintro e w2 ⟨rfl,rfl⟩;go_wp2;go_ret;exact⟨Bf (by rw [←HC.out,HR.out]),Aa.refl _⟩
 ·have HR:=AqH (AdG h);have h1:¬x<y:=(by omega);have h2:¬y<x:=(by omega);clear h;go_enter Tryz.func76,Tryz.ntmps76;(go_wp2_with fail);(with_reducible refine(q1 _).mono ?_);rintro e w1 ⟨rfl,rfl⟩;(go_wp2_with fail);(with_reducible refine(q2 _).mono ?_);rintro e w2 ⟨rfl,rfl⟩;go_wp2;go_ret;exact⟨Bf (by rw [←HC.out,HR.out]),Aa.refl _⟩
 ·have HR:=AqH (ZT h);have h1:¬x<y:=(by omega);go_enter Tryz.func76,Tryz.ntmps76;(go_wp2_with fail);(with_reducible refine(q1 _).mono ?_);rintro e w1 ⟨rfl,rfl⟩;(go_wp2_with fail);(with_reducible refine(q2 _).mono ?_);rintro e w2 ⟨rfl,rfl⟩;go_wp2;go_ret;exact⟨Bf (by rw [←HC.out,HR.out]),Aa.refl _⟩
theorem J0(p q:Rat){a b:Nat}(hr:Rm a b p q)(w:World)(hw:Am w):Calls Tryz.prog 76 #[S (R p),S (R q)] w (Ax (AU p q) w):=by
 by_cases Kh:p=q
 ·subst Kh;have HR:=AqH (AdD (rfl:p=p));have n1:(R p == R p)=true:=(by simp);clear hr;go_enter Tryz.func76,Tryz.ntmps76;go_wp2;go_ret;exact⟨Bf HR.out,Aa.refl _⟩
 by_cases h1:CS p
 ·by_cases h2:CS q
  ·exact AlJ p q hr Kh h1 h2 w
  ·have q1:=Gs p hr.lp;have q2:=Gs q hr.lq;rw [LR h1]at q1;rw [QJ h2]at q2;have n1:(R p == R q)=false:=(by rw [beq_eq_false_iff_ne];exact fun e=>Kh (NQ e));have pa:=H9 p hr.a0 (by have:=hr.le;omega) hr.p;have pb:=H9 q hr.b0 (by have:=hr.le;omega) hr.q;have m1:=GG p.num (q.den:Int) hr.bn hr.be;have m2:=GG q.num (p.den:Int) hr.bm hr.bd;have cp:=iW _ _ hr.ne hr.md;rw [ZR]at cp;have hx:=Aa.refl w;clear h1 h2 hr Kh;go_enter Tryz.func76,Tryz.ntmps76;(go_wp2_with fail);(with_reducible refine(q1 _).mono ?_);rintro e w1 ⟨rfl,rfl⟩;(go_wp2_with fail);(with_reducible refine(q2 _).mono ?_);rintro e w2 ⟨rfl,rfl⟩;(go_wp2_with fail);(with_reducible refine(pa _ (hw.ext hx)).mono ?_);rintro e w3 ⟨rfl,hx3⟩;replace hx:=hx.trans hx3;(go_wp2_with fail);(with_reducible refine(pb _ (hw.ext hx)).mono ?_);rintro e w4 ⟨rfl,Ai⟩;replace hx:=hx.trans Ai;(go_wp2_with fail);(with_reducible refine(m1 _ (hw.ext hx)).mono ?_);rintro e w5 ⟨rfl,Ae⟩;replace hx:=hx.trans Ae;(go_wp2_with fail);(with_reducible refine(m2 _ (hw.ext hx)).mono ?_);rintro e w6 ⟨rfl,Ay⟩;replace hx:=hx.trans Ay;(go_wp2_with fail);(with_reducible refine(cp _).mono ?_);rintro e w7 ⟨rfl,Aw⟩;replace hx:=hx.trans Aw;go_wp2;go_ret;exact⟨rfl,hx⟩
 ·have q1:=Gs p hr.lp;rw [QJ h1]at q1;have n1:(R p == R q)=false:=(by rw [beq_eq_false_iff_ne];exact fun e=>Kh (NQ e));have pa:=H9 p hr.a0 (by have:=hr.le;omega) hr.p;have pb:=H9 q hr.b0 (by have:=hr.le;omega) hr.q;have m1:=GG p.num (q.den:Int) hr.bn hr.be;have m2:=GG q.num (p.den:Int) hr.bm hr.bd;have cp:=iW _ _ hr.ne hr.md;rw [ZR]at cp;have hx:=Aa.refl w;clear h1 hr Kh;go_enter Tryz.func76,Tryz.ntmps76;(go_wp2_with fail);(with_reducible refine(q1 _).mono ?_);rintro e w1 ⟨rfl,rfl⟩;(go_wp2_with fail);(with_reducible refine(pa _ (hw.ext hx)).mono ?_);rintro e w3 ⟨rfl,hx3⟩;replace hx:=hx.trans hx3;(go_wp2_with fail);(with_reducible refine(pb _ (hw.ext hx)).mono ?_);rintro e w4 ⟨rfl,Ai⟩;replace hx:=hx.trans Ai;(go_wp2_with fail);(with_reducible refine(m1 _ (hw.ext hx)).mono ?_);rintro e w5 ⟨rfl,Ae⟩;replace hx:=hx.trans Ae;(go_wp2_with fail);(with_reducible refine(m2 _ (hw.ext hx)).mono ?_);rintro e w6 ⟨rfl,Ay⟩;replace hx:=hx.trans Ay;(go_wp2_with fail);(with_reducible refine(cp _).mono ?_);rintro e w7 ⟨rfl,Aw⟩;replace hx:=hx.trans Aw;go_wp2;go_ret;exact⟨rfl,hx⟩
section
theorem Rm.swap{a b:Nat}{p q:Rat}(h:Rm a b p q):Rm b a q p:=⟨h.q,h.p,h.b0,h.a0,by have:=h.le;omega⟩
theorem Ia(p q:Rat){a b:Nat}(hr:Rm a b p q)(w:World)(hw:Am w):Calls Tryz.prog 258 #[S (R p),S (R q)] w (Bg (R (p-q)) w):=by
 have hn:=AlP q hr.b0 (by have:=hr.le;omega) hr.q;have ha:=lL p (-q) (a:=a) (b:=b) ⟨hr.p,hr.q.neg,hr.a0,hr.b0,hr.le⟩;rw [←Rat.sub_eq_add_neg]at ha;clear hr;go_enter Tryz.func258,Tryz.ntmps258;(go_wp2_with fail);(with_reducible refine(hn _).mono ?_);rintro e w1 ⟨rfl,hx1⟩;(go_wp2_with fail);(with_reducible refine(ha _ (hw.ext hx1)).mono ?_);rintro e w2 ⟨rfl,hx2⟩;go_wp2;go_ret;exact⟨rfl,hx1.trans hx2⟩
theorem AbG{q:Rat}(h:0<q):R q⁻¹=EB (q.den:Int) q.num.toNat:=by
 have hn:0<q.num:=po.2 h;rw [Mt,Rat.num_inv,Rat.den_inv,if_neg (by omega),Int.sign_eq_one_of_pos hn,Int.one_mul,show q.num.natAbs=q.num.toNat by omega]
theorem AbF{q:Rat}(h:q<0):R q⁻¹=EB (-(q.den:Int)) (-q.num).toNat:=by
 have hn:q.num<0:=Jw.2 h;rw [Mt,Rat.num_inv,Rat.den_inv,if_neg (by omega),Int.sign_eq_neg_one_of_neg hn,Int.neg_one_mul,show q.num.natAbs=(-q.num).toNat by omega]
theorem AE.neg{z:Int}(h:AE z):AE (-z):=by unfold AE at h ⊢;rw [Int.natAbs_neg];exact h
def Yi(q:Rat):Value:=.tuple #[S (R q),.int .i64 0]
attribute [local go_sem] RJ
theorem AlK(p q:Rat)(AG:q≠0){a b:Nat}(hr:Rm a b p q)(w:World)(hw:Am w):Calls Tryz.prog 257 #[S (R p),S (R q)] w (De (Yi (p/q)) w):=by
 have n1:=DR AG;have pb:=H9 q hr.b0 (by have:=hr.le;omega) hr.q;have hm:=QM p q⁻¹ (a:=a) (b:=b) ⟨hr.p,hr.q.inv hr.b0,hr.a0,hr.b0,hr.le⟩;rw [←Rat.div_def]at hm
 rcases Zp q with⟨hn,e⟩|⟨hp,c,l,e,hd,hc⟩
 ·rw [AbF hn]at hm;have ne1:=kj q.num hr.bm;have ne2:=kj (q.den:Int) hr.be;have hj:=Ye (-(q.den:Int)) (-q.num) (by have:=Jw.2 hn;omega) hr.be.neg hr.bm.neg;obtain⟨c,hc⟩:=AqG (45:UInt8);have hl:0<(R q).length:=(by rw [e];simp);have hg:(R q)[0]'hl=c:=(by rw [List.getElem_of_eq e hl,hc];rfl);have hcb:((c.toNat:Int) == 45)=true:=(by rw [hc];rfl);clear e hc hn hr AG;unfold Yi;go_enter Tryz.func257,Tryz.ntmps257;(go_wp2_with fail);(with_reducible refine(pb _ hw).mono ?_);rintro e w1 ⟨rfl,hx⟩;(go_wp2_with fail);(with_reducible refine(ne1 _).mono ?_);rintro e w2 ⟨rfl,hx2⟩;replace hx:=hx.trans hx2;(go_wp2_with fail);(with_reducible refine(ne2 _).mono ?_);rintro e w3 ⟨rfl,hx3⟩;replace hx:=hx.trans hx3;(go_wp2_with fail);(with_reducible refine(hj _).mono ?_);rintro e w4 ⟨rfl,Ai⟩;replace hx:=hx.trans Ai;(go_wp2_with fail);(with_reducible refine(hm _ (hw.ext hx)).mono ?_);rintro e w5 ⟨rfl,Ae⟩;replace hx:=hx.trans Ae;go_wp2;go_ret2;exact⟨rfl,hx⟩
 ·have hp:0<q:=(by grind);rw [AbG hp]at hm;have hj:=Ye (q.den:Int) q.num (po.2 hp) hr.be hr.bm;have hl:0<(R q).length:=(by rw [e];simp);have hg:(R q)[0]'hl=c:=(by rw [List.getElem_of_eq e hl];rfl);have hcb:((c.toNat:Int) == 45)=false:=(by rw [beq_eq_false_iff_ne];intro k;exact hc (UInt8.toNat_inj.1 (by simp;omega)));clear e hc hp hd hr AG;unfold Yi;go_enter Tryz.func257,Tryz.ntmps257;(go_wp2_with fail);(with_reducible refine(pb _ hw).mono ?_);rintro e w1 ⟨rfl,hx⟩;(go_wp2_with fail);(with_reducible refine(hj _).mono ?_);rintro e w4 ⟨rfl,Ai⟩;replace hx:=hx.trans Ai;(go_wp2_with fail);(with_reducible refine(hm _ (hw.ext hx)).mono ?_);rintro e w5 ⟨rfl,Ae⟩;replace hx:=hx.trans Ae;go_wp2;go_ret2;exact⟨rfl,hx⟩
end
theorem AE.of_len{z:Int}{k:Nat}(h:(D z.natAbs).length<=k)(hk:k<=4000):AE z:=AE.of (Ko h) hk
section
variable {l n d : Bs}
theorem AlI(hl:l.length<100000)(hn:(47:UInt8)∉l)(b:Bool)(hb:∀W,Calls Tryz.prog 219 #[S l] W (Ax (Ga b) W))(w:World)(hw:Am w) :
  Calls Tryz.prog 141 #[S l] w (Ax (Ga b) w):=by
 have hc:=cut_c l [47] w hw (by omega);rw [ZZ hn]at hc
 cases b
 ·rw [NX]at hb ⊢;go_enter Tryz.func141,Tryz.ntmps141;(go_wp2_with fail);(with_reducible refine hc.mono ?_);rintro e w1 ⟨rfl,hx⟩;(go_wp2_with fail);(with_reducible refine(hb _).mono ?_);rintro e w2 ⟨rfl,hx2⟩;go_wp2;go_ret;exact⟨rfl,hx.trans hx2⟩
 ·rw [KU]at hb ⊢;go_enter Tryz.func141,Tryz.ntmps141;(go_wp2_with fail);(with_reducible refine hc.mono ?_);rintro e w1 ⟨rfl,hx⟩;(go_wp2_with fail);(with_reducible refine(hb _).mono ?_);rintro e w2 ⟨rfl,hx2⟩;go_wp2;go_ret;exact⟨rfl,hx.trans hx2⟩
theorem AlH(hl:(n++47::d).length<100000)(hn:(47:UInt8)∉n)(hb:∀W,Calls Tryz.prog 219 #[S n] W (Ax 2 W))(w:World)(hw:Am w) :
  Calls Tryz.prog 141 #[S (n++47::d)] w (Ax 2 w):=by
 have hc:=cut_c (n++47::d) [47] w hw (by omega);rw [P8 hn]at hc;go_enter Tryz.func141,Tryz.ntmps141;(go_wp2_with fail);(with_reducible refine hc.mono ?_);rintro e w1 ⟨rfl,hx⟩;(go_wp2_with fail);(with_reducible refine(hb _).mono ?_);rintro e w2 ⟨rfl,hx2⟩;go_wp2;go_ret;exact⟨rfl,hx.trans hx2⟩
theorem AlG(hl:(n++47::d).length<100000)(hn:(47:UInt8)∉n)(ha:∀W,Calls Tryz.prog 219 #[S n] W (Ax 0 W))(hb:∀W,Calls Tryz.prog 219 #[S d] W (Ax 2 W))(w:World)(hw:Am w) :
  Calls Tryz.prog 141 #[S (n++47::d)] w (Ax 2 w):=by
 have hc:=cut_c (n++47::d) [47] w hw (by omega);rw [P8 hn]at hc;go_enter Tryz.func141,Tryz.ntmps141;(go_wp2_with fail);(with_reducible refine hc.mono ?_);rintro e w1 ⟨rfl,hx⟩;(go_wp2_with fail);(with_reducible refine(ha _).mono ?_);rintro e w2 ⟨rfl,hx2⟩;replace hx:=hx.trans hx2;(go_wp2_with fail);(with_reducible refine(hb _).mono ?_);rintro e w3 ⟨rfl,hx3⟩;replace hx:=hx.trans hx3;go_wp2;go_ret;exact⟨rfl,hx⟩
end
def LZ(a b:Int):Bool:=decide (1<b)&&decide (a≠0)&&decide (Int.gcd a b=1)
theorem AlF(a b:Int)(Fj:(D a.natAbs).length<=200)(Fl:(D b.natAbs).length<=200)(w:World)(hw:Am w) :
  Calls Tryz.prog 141 #[S (I a++47::I b)] w (Ax (Ga (LZ a b)) w):=by
 have ba:=AE.of_len Fj (by omega);have bb:=AE.of_len Fl (by omega);have l1:=ba.len;have l2:=bb.len;have hc:=cut_c (I a++47::I b) [47] w hw (by rw [List.length_append,List.length_cons];omega);rw [P8 (Zj a)]at hc;have ca:=TG (I a);have cb:=TG (I b);rw [if_pos ⟨a,rfl,Fj⟩]at ca;rw [if_pos ⟨b,rfl,Fl⟩]at cb;have hb1:AE 1:=AE.of (k:=1) (by decide) (by omega);have cp:=iW b 1 bb hb1;rw [Rx]at cp;have gc:=ki a b ba bb;have hlen:(I a++47::I b).length<10000:=(by rw [List.length_append,List.length_cons];omega);obtain⟨l,hl⟩:=AqG (I a++47::I b);rw [←hl]at hc ⊢;clear hl Fj Fl ba bb hlen;by_cases h1:1<b
 ·rw [ZT h1]at cp;by_cases h2:a=0
  ·have HV:Hid (Ga (LZ a b)=2):=AqH (by unfold LZ;rw [decide_eq_false (p:=a≠0) (by simpa using h2)];simp;rfl);have hz:(I a == [48])=true:=(by rw [h2,Ry];rfl);clear gc h2;go_enter Tryz.func141,Tryz.ntmps141;(go_wp2_with fail);(with_reducible refine hc.mono ?_);rintro e w1 ⟨rfl,hx⟩;(go_wp2_with fail);(with_reducible refine(ca _).mono ?_);rintro e w2 ⟨rfl,hx2⟩;replace hx:=hx.trans hx2;(go_wp2_with fail);(with_reducible refine(cb _).mono ?_);rintro e w3 ⟨rfl,hx3⟩;replace hx:=hx.trans hx3;(go_wp2_with fail);(with_reducible refine(cp _).mono ?_);rintro e w4 ⟨rfl,Ai⟩;replace hx:=hx.trans Ai;go_wp2;go_ret;exact⟨Bf HV.out,hx⟩
  ·have hz:=Rw h2
   have HV:Hid (Ga (LZ a b)=if Int.gcd a b=1 then 0 else 2):=AqH (by
    unfold LZ;rw [decide_eq_true h1,decide_eq_true (p:=a≠0) h2];by_cases h:Int.gcd a b=1
    ·rw [if_pos h,decide_eq_true h];rfl
    ·rw [if_neg h,decide_eq_false h];rfl)
   by_cases h3:Int.gcd a b=1
   ·rw [if_pos h3]at HV;have hg1:(I (Int.gcd a b:Nat) == [49])=true:=(by rw [h3];rw [show ((1:Nat):Int)=1 from rfl,Rx];rfl);clear h3 h2;go_enter Tryz.func141,Tryz.ntmps141;(go_wp2_with fail);(with_reducible refine hc.mono ?_);rintro e w1 ⟨rfl,hx⟩;(go_wp2_with fail);(with_reducible refine(ca _).mono ?_);rintro e w2 ⟨rfl,hx2⟩;replace hx:=hx.trans hx2;(go_wp2_with fail);(with_reducible refine(cb _).mono ?_);rintro e w3 ⟨rfl,hx3⟩;replace hx:=hx.trans hx3;(go_wp2_with fail);(with_reducible refine(cp _).mono ?_);rintro e w4 ⟨rfl,Ai⟩;replace hx:=hx.trans Ai;(go_wp2_with fail);(with_reducible refine(gc _ (hw.ext hx)).mono ?_);rintro e w5 ⟨rfl,Ae⟩;replace hx:=hx.trans Ae;go_wp2;go_ret;exact⟨Bf HV.out,hx⟩
   ·rw [if_neg h3]at HV;have hg1:(I (Int.gcd a b:Nat) == [49])=false:=pL (by omega);clear h3 h2;go_enter Tryz.func141,Tryz.ntmps141;(go_wp2_with fail);(with_reducible refine hc.mono ?_);rintro e w1 ⟨rfl,hx⟩;(go_wp2_with fail);(with_reducible refine(ca _).mono ?_);rintro e w2 ⟨rfl,hx2⟩;replace hx:=hx.trans hx2;(go_wp2_with fail);(with_reducible refine(cb _).mono ?_);rintro e w3 ⟨rfl,hx3⟩;replace hx:=hx.trans hx3;(go_wp2_with fail);(with_reducible refine(cp _).mono ?_);rintro e w4 ⟨rfl,Ai⟩;replace hx:=hx.trans Ai;(go_wp2_with fail);(with_reducible refine(gc _ (hw.ext hx)).mono ?_);rintro e w5 ⟨rfl,Ae⟩;replace hx:=hx.trans Ae;go_wp2;go_ret;exact⟨Bf HV.out,hx⟩
 ·have HV:Hid (Ga (LZ a b)=2):=AqH (by unfold LZ;rw [decide_eq_false h1];rfl);obtain⟨s,hs,hs0⟩:∃s:Int,s=Eh b 1/\s<=0:=⟨_,rfl,by unfold Eh;split<;>(try split)<;>omega⟩;rw [←hs]at cp;clear hs gc h1;go_enter Tryz.func141,Tryz.ntmps141;(go_wp2_with fail);(with_reducible refine hc.mono ?_);rintro e w1 ⟨rfl,hx⟩;(go_wp2_with fail);(with_reducible refine(ca _).mono ?_);rintro e w2 ⟨rfl,hx2⟩;replace hx:=hx.trans hx2;(go_wp2_with fail);(with_reducible refine(cb _).mono ?_);rintro e w3 ⟨rfl,hx3⟩;replace hx:=hx.trans hx3;(go_wp2_with fail);(with_reducible refine(cp _).mono ?_);rintro e w4 ⟨rfl,Ai⟩;replace hx:=hx.trans Ai;go_wp2;go_ret;exact⟨Bf HV.out,hx⟩
open Classical in
theorem Ad3(l:Bs):(if KH l then (0:Int)else 2)=Ga (decide (KH l)):=by
 by_cases h:KH l
 ·rw [if_pos h,decide_eq_true h];rfl
 ·rw [if_neg h,decide_eq_false h];rfl
open Classical in
theorem lM(l:Bs)(hl:l.length<100000)(w:World)(hw:Am w):Calls Tryz.prog 141 #[S l] w (Ax (Ga (decide (BO l))) w):=by
 rcases Aec l with⟨n,d,rfl,hn,-⟩|⟨hn,-⟩
 ·have ca:=TG n;have cb:=TG d;by_cases h1:KH n
  ·rw [if_pos h1]at ca;by_cases h2:KH d
   ·obtain⟨a,rfl,ha⟩:=h1;obtain⟨b,rfl,hb⟩:=h2;have h:=AlF a b ha hb w hw
    have e:LZ a b=decide (BO (I a++47::I b)):=by
     rw [Bool.eq_iff_iff,decide_eq_true_eq,kN hn];unfold LZ;simp only [Bool.and_eq_true,decide_eq_true_eq];constructor
     ·rintro⟨⟨x1,x2⟩,x3⟩;exact⟨a,b,rfl,rfl,ha,hb,x1,x2,x3⟩
     ·rintro⟨a',b',e1,e2,_,_,x1,x2,x3⟩;obtain rfl:=Pj e1;obtain rfl:=Pj e2;exact⟨⟨x1,x2⟩,x3⟩
    rw [←e];exact h
   ·rw [if_neg h2]at cb
    have e:decide (BO (n++47::d))=false:=by rw [decide_eq_false_iff_not,kN hn];rintro⟨a,b,_,e2,_,hb,_⟩;exact h2 ⟨b,e2,hb⟩
    rw [e];exact AlG hl hn ca cb w hw
  ·rw [if_neg h1]at ca
   have e:decide (BO (n++47::d))=false:=by rw [decide_eq_false_iff_not,kN hn];rintro⟨a,b,e1,_,ha,_⟩;exact h1 ⟨a,e1,ha⟩
   rw [e];exact AlH hl hn ca w hw
 ·have ca:=TG l;simp only [Ad3]at ca;have e:decide (BO l)=decide (KH l):=(by rw [Bool.eq_iff_iff,decide_eq_true_eq,decide_eq_true_eq];exact Ak8 hn);rw [e];exact AlI hl hn _ ca w hw
structure Ad(w:World)(A:Option Addr)(cs:List Value):Prop where
 ad:0<cs.length→∃b o,A=some ⟨b,o,none⟩/\∀j (h:j<cs.length),w.cell? ⟨b,o+j,none⟩=some cs[j]
theorem Ad.ext{w w':World}{A:Option Addr}{cs:List Value}(h:Ad w A cs)(hx:Aa w w'):Ad w' A cs:=
 ⟨fun h0=>by
  obtain⟨b,o,e,hc⟩:=h.ad h0
  exact⟨b,o,e,fun j hj=>hx.cellS (hc j hj)⟩⟩
theorem Ad.lit(w:World)(cs:Array Value)(t:TypeId):Ad (w.alloc (.cells cs t)) (some ⟨w.heap.size,0,none⟩) cs.toList:=
 ⟨fun _=>⟨w.heap.size,0,rfl,fun j hj=>by
  refine Ab (AqJ w _) ?_
  rw [Nat.zero_add,←Array.getElem?_toList,AqP hj]⟩⟩
def kH(l:List Bs):Prop:=∀x∈l,BO x
theorem Akw{x y:Bs} : kH [x,y]↔BO x/\BO y:=by unfold kH;simp
open Classical in
theorem Akr(l:List Bs)(ok:Bool)(Aj:ok=true↔kH l)(A:Option Addr)(c:Nat)(w:World)(hw:Am w)(hr:Ad w A (l.map S))(_:l.length<=c)(_:c<=9223372036854775807)(hl:l.length<=100000)(hlen:∀x∈l,x.length<100000) :
  Calls Tryz.prog 147 #[.slice A l.length c] w (Ax (Ga ok) w):=by
 have HV:=AqH Aj;have HL:=AqH hlen;clear Aj hlen;go_enter Tryz.func147,Tryz.ntmps147;go_wp2
 go_loopw [8] (fun i wr=>∃j:Nat,i=.int .i64 (j:Nat)/\j<=l.length/\(∀x∈l.take j,BO x)/\Aa w wr) (fun i _=>l.length-(intOf i).toNat)
 case atStart=>exact⟨0,rfl,by omega,by simp,Aa.refl _⟩
 case round=>
  obtain⟨j,rfl,hj,Aj,Ac⟩:=hrel;have HO:=AqH Aj;clear Aj;by_cases hlt:j<l.length
  ·obtain⟨b,o,rfl,hcs⟩:=(hr.ext Ac).ad (by simp;omega);have hg:=hcs j (by simp;omega);rw [List.getElem_map]at hg;clear hcs;obtain⟨x,hx⟩:=AqG (l[j]);rw [←hx]at hg;have hmem:x∈l:=(by rw [hx];exact AqL hlt);have ck:=lM x (HL.out x hmem) wr (hw.ext Ac);have HX:=AqH hx;clear hx;have hj0:(0:Int)<=(j:Int):=(by omega);have AV:(j:Int)<(l.length:Int):=(by omega);by_cases hx:BO x
   ·rw [decide_eq_true hx,KU]at ck;(go_wp2_with fail);(with_reducible refine ck.mono ?_);rintro e w2 ⟨rfl,hx2⟩;go_wp2;go_roundw
    case rel=>
     refine⟨j+1,by go_num,hlt,?_,Ac.trans hx2⟩;intro y hy;rw [AqN hlt,←HX.out]at hy
     rcases List.mem_append.1 hy with h|h
     ·exact HO.out y h
     ·simp only [AqW]at h;rw [h];exact hx
    case measure=>simp [intOf];omega
   ·rw [decide_eq_false hx,NX]at ck
    have hv:ok=false:=by
     cases ok
     ·rfl
     ·exact absurd (HV.out.1 rfl x hmem) hx
    subst hv;rw [NX];(go_wp2_with fail);(with_reducible refine ck.mono ?_);rintro e w2 ⟨rfl,hx2⟩;go_wp2;go_ret;exact⟨rfl,Ac.trans hx2⟩
  ·have hv:ok=true:=HV.out.2 (by
    have:=HO.out
    rwa [AqS (by omega)]at this)
   subst hv;rw [KU];go_wp2;go_ret;exact⟨rfl,Ac⟩
theorem sF(x y:Bs)(ok:Bool)(Aj:ok=true↔BO x/\BO y)(hx:x.length<100000)(hy:y.length<100000)(w:World)(hw:Am w) :
  Calls Tryz.prog 77 #[.agg #[S x,S y]] w (Ax (Ga ok) w):=by
 have e1:=(Aa.refl w).alloc (.cells #[S x,S y] 92);have e2:=e1.alloc (.cells #[S x,S y] 24);have hr:=Ad.lit (w.alloc (.cells #[S x,S y] 92)) #[S x,S y] 24;have nm:=Akr [x,y] ok (by rw [Aj,Akw]) _ 2 _ (hw.ext e2) hr (by simp) (by omega) (by simp) (by intro z hz;simp only [List.mem_cons,AqV,or_false]at hz;rcases hz with rfl|rfl<;>assumption);simp only [List.length_cons,List.length_nil,Nat.zero_add,Nat.reduceAdd,AqR]at nm;clear hr Aj;go_enter Tryz.func77,Tryz.ntmps77;(go_wp2_with fail);(with_reducible refine nm.mono ?_);rintro e w2 ⟨rfl,hx2⟩;go_wp2;go_ret;exact⟨rfl,e2.trans hx2⟩
def flat(l:List (Bs×Bs)):List Value:=l.flatMap fun p=>[S p.1,S p.2]
theorem flat_length(l:List (Bs×Bs)):(flat l).length=l.length*2:=by
 induction l with
 | nil=>rfl
 | cons p l ih=>unfold flat at *;simp only [List.flatMap_cons,List.length_append,List.length_cons,List.length_nil];omega
theorem flat_get:∀(l:List (Bs×Bs)) (j:Nat) (h:j<l.length),(flat l)[j*2]?=some (S l[j].1)/\(flat l)[j*2+1]?=some (S l[j].2)
 | p::l,0,_=>⟨rfl,rfl⟩
 | p::l,j+1,h=>by have ih:=flat_get l j (by simpa using h);have e:flat (p::l)=S p.1::S p.2::flat l:=rfl;rw [e,show (j+1)*2=j*2+1+1 by omega];exact ih
theorem P0(w:World)(o1 o2 o3:Obj):∃W,W=((w.alloc o1).alloc o2).alloc o3/\Aa w W/\W.heap[w.heap.size]?=some o1/\W.heap[w.heap.size+1]?=some o2/\W.heap[w.heap.size+1+1]?=some o3:=by
 have h2:=AqJ (w.alloc o1) o2;have h3:=AqJ ((w.alloc o1).alloc o2) o3;rw [AqR]at h2;rw [AqR,AqR]at h3;refine⟨_,rfl,(((Aa.refl _).alloc _).alloc _).alloc _,?_,?_,h3⟩
 ·exact(Below.heap_alloc _ _ _ (by simp;omega)).trans ((Below.heap_alloc _ _ _ (by simp)).trans (AqJ w o1))
 ·exact(Below.heap_alloc _ _ _ (by simp)).trans h2
theorem set2{w:World}{b:Nat}{a0 a1:Value}(v0 v1:Value)(g1:w.cell? ⟨b,0,none⟩=some a0)(g2:w.cell? ⟨b,1,none⟩=some a1) :
  ((w.setCell ⟨b,0,none⟩ v0).setCell ⟨b,1,none⟩ v1).cell? ⟨b,0,none⟩=some v0/\((w.setCell ⟨b,0,none⟩ v0).setCell ⟨b,1,none⟩ v1).cell? ⟨b,1,none⟩=some v1:=by
 refine⟨(World.cell?_setCell_other _ _ _ _ (by simp)).trans (World.cell?_setCell_same _ _ _ g1),?_⟩;exact World.cell?_setCell_same _ _ _ ((World.cell?_setCell_other _ _ _ _ (by simp)).trans g2)
def Ak(p:Pt):Value:=.agg #[S (R p.x),S (R p.y)]
def As(s:Sg):Value:=.agg #[S (R s.a.x),S (R s.a.y),S (R s.b.x),S (R s.b.y)]
structure Ar(k:Nat)(p:Pt):Prop where
 x:Sz k p.x
 y:Sz k p.y
structure Ex(k:Nat)(s:Sg):Prop where
 a:Ar k s.a
 b:Ar k s.b
structure Mh(W:World)(b:Nat)(c:Cv):Prop where
 k1:W.cell? ⟨b,0,none⟩=some (S (R c.low.x))
 k2:W.cell? ⟨b,1,none⟩=some (S (R c.low.y))
 k3:W.cell? ⟨b,2,none⟩=some (S (R c.high.x))
 k4:W.cell? ⟨b,3,none⟩=some (S (R c.high.y))
 k5:W.cell? ⟨b,4,none⟩=some (.int .i64 (c.W:Nat))
 k6:W.cell? ⟨b,5,none⟩=some (.int .i64 (c.H:Nat))
theorem Mh.ext{W V:World}{b:Nat}{c:Cv}(h:Mh W b c)(hx:Aa W V):Mh V b c:=
 ⟨hx.cellS h.k1,hx.cellS h.k2,hx.cellS h.k3,hx.cellS h.k4,hx.cellS h.k5,hx.cellS h.k6⟩
theorem Mh.of{W:World}{b:Nat}{c:Cv}{t:TypeId}(h:W.heap[b]?=some (.cells #[S (R c.low.x),S (R c.low.y),S (R c.high.x),S (R c.high.y),.int .i64 (c.W:Nat),.int .i64 (c.H:Nat)] t)):Mh W b c:=
 ⟨Ab h rfl,Ab h rfl,Ab h rfl,Ab h rfl,Ab h rfl,Ab h rfl⟩
structure JA(W:World)(b:Nat)(p:Pt):Prop where
 k1:W.cell? ⟨b,0,none⟩=some (S (R p.x))
 k2:W.cell? ⟨b,1,none⟩=some (S (R p.y))
theorem JA.ext{W V:World}{b:Nat}{p:Pt}(h:JA W b p)(hx:Aa W V):JA V b p:=⟨hx.cellS h.k1,hx.cellS h.k2⟩
structure Y6(W:World)(bl:Nat)(l h:Rat):Prop where
 l:W.heap[bl]?=some (.cells #[S (R l)] 24)
 h:W.heap[bl+1]?=some (.cells #[S (R h)] 24)
theorem Y6.ext{W V:World}{bl:Nat}{l h:Rat}(hb:Y6 W bl l h)(hx:Aa W V):Y6 V bl l h:=
 ⟨(hx.block _ (AqI hb.l)).trans hb.l,(hx.block _ (AqI hb.h)).trans hb.h⟩
structure OX(W:World)(b:Nat)(s:Sg):Prop where
 k1:W.cell? ⟨b,0,none⟩=some (S (R s.a.x))
 k2:W.cell? ⟨b,1,none⟩=some (S (R s.a.y))
 k3:W.cell? ⟨b,2,none⟩=some (S (R s.b.x))
 k4:W.cell? ⟨b,3,none⟩=some (S (R s.b.y))
theorem OX.ext{W V:World}{b:Nat}{s:Sg}(h:OX W b s)(hx:Aa W V):OX V b s:=⟨hx.cellS h.k1,hx.cellS h.k2,hx.cellS h.k3,hx.cellS h.k4⟩
theorem JR{B:Nat}{W V:World}(h:Below B W V){b o:Nat}{v:Value}(hb:b<B)(hc:W.cell? ⟨b,o,none⟩=some v):V.cell? ⟨b,o,none⟩=some v:=
 (Below.cell h (p:=⟨b,o,none⟩) hb).trans hc
theorem OX.below{B:Nat}{W V:World}{b:Nat}{s:Sg}(h:OX W b s)(hx:Below B W V)(hb:b<B):OX V b s:=⟨JR hx hb h.k1,JR hx hb h.k2,JR hx hb h.k3,JR hx hb h.k4⟩
theorem Mh.below{B:Nat}{W V:World}{b:Nat}{c:Cv}(h:Mh W b c)(hx:Below B W V)(hb:b<B):Mh V b c:=
 ⟨JR hx hb h.k1,JR hx hb h.k2,JR hx hb h.k3,JR hx hb h.k4,JR hx hb h.k5,JR hx hb h.k6⟩
theorem XR{q:Rat}{k:Nat}(h:Sz k q)(hk:0<k)(hk2:k<=200):BO (R q):=
 ⟨q,rfl,AqU (GU hk h.num) hk2,AqU (GU hk h.den) hk2⟩
theorem Yy{q:Rat}{k:Nat}(h:Sz k q)(hk:0<k)(hk2:k<=40000):(R q).length<100000:=by have:=R7 hk h;omega
def LP(p:Pt):Bs×Bs:=(R p.x,R p.y)
structure pZ where
 fx:Bs
 fy:Bs
 tx:Bs
 ty:Bs
def pZ.pts(t:pZ):List (Bs×Bs):=[(t.fx,t.fy),(t.tx,t.ty)]
theorem P1{w:World}{b:Nat}{a0 a1 a2 a3:Value}{t:TypeId}(v0 v1 v2 v3:Value)(h:w.heap[b]?=some (.cells #[a0,a1,a2,a3] t)) :
  ((((w.setCell ⟨b,0,none⟩ v0).setCell ⟨b,1,none⟩ v1).setCell ⟨b,2,none⟩ v2).setCell ⟨b,3,none⟩ v3).heap[b]?=some (.cells #[v0,v1,v2,v3] t):=by
 simp only [World.setCell,Array.getElem?_modify,h];simp
def Vo(l:List (Int×Int)):List Value:=l.flatMap fun d=>[.int .i64 d.1,.int .i64 d.2]
theorem tN(l:List (Int×Int)):(Vo l).length=l.length*2:=by
 induction l with
 | nil=>rfl
 | cons p l ih=>unfold Vo at *;simp only [List.flatMap_cons,List.length_append,List.length_cons,List.length_nil];omega
theorem Ad.of_own{w:World}{base:Nat}{e:TypeId}{v:Value}{n:Nat}{l:List (Int×Int)}(h:w.ownsRow base e 2 v n (Vo l))(hn:n=l.length):∃A c,v=.slice A n c/\Ad w A (Vo l)/\n<=c/\c<=9223372036854775807:=by
 subst hn
 rcases h.2 with⟨rfl,h0⟩|⟨g,cap,cur,rfl,_,hg,hn,hm,_,_⟩
 ·exact⟨none,0,by rw [h0],⟨fun h1=>by rw [tN]at h1;omega⟩,by omega,by omega⟩
 ·refine⟨some ⟨g,0,none⟩,cap,rfl,⟨fun _=>⟨g,0,rfl,fun j hj=>?_⟩⟩,hn,by unfold maxLen at hm;omega⟩;rw [Nat.zero_add,h.cellAt j (by rw [tN]at hj;exact hj),AqP hj]
section
variable {ops : Array Oper} {rest : List Oper} {o : Oper} {a : Act} {Q : Exit → Act → World → Prop}
end
section
theorem Am8{P:Program}{w:World}(ts:Array TypeId)(t:TypeId)(k:IntKind)(a b c d e:Int):(Builtin.max_ ts t #[.int k a,.int k b,.int k c,.int k d,.int k e]).run P w=.ok (.int k (max (max (max (max a b) c) d) e)) w:=by
 have m:∀x y:Int,(if y>x then y else x)=max x y:=(by intro x y;split<;>omega);simp only [Builtin.max_,List.foldlM_cons,List.foldlM_nil,Builtin.max2];simp [m]
attribute [local go_sem] Am8
theorem rO{w:World}{b:Nat}{a0 a1:Value}{t:TypeId}(v0 v1:Value)(h:w.heap[b]?=some (.cells #[a0,a1] t)) :
  ((w.setCell ⟨b,0,none⟩ v0).setCell ⟨b,1,none⟩ v1).heap[b]?=some (.cells #[v0,v1] t):=by
 simp only [World.setCell,Array.getElem?_modify,h];simp
def steps(c:Cv)(p:Sg):Nat:=(max (max (max (max 1 (RS c p.a-RS c p.b)) (RS c p.b-RS c p.a)) (Uj c p.a-Uj c p.b)) (Uj c p.b-Uj c p.a)).toNat
def Aex(c:Cv)(p:Sg)(n i:Nat):Int×Int:=(RS c (atR p (mkRat i n)),Uj c (atR p (mkRat i n)))
def AoV(c:Cv)(p:Sg):List (Int×Int):=(List.range (steps c p+1)).map (Aex c p (steps c p))
end
theorem vo(z:Int)(h0:-9223372036854775808<=z)(h1:z<=9223372036854775807)(w:World)(hw:Am w):Calls Tryz.prog 35 #[.int .i64 z] w (Bg (I z) w):=by
 have hi:=Nx z h0 h1 w hw;clear h0 h1;go_enter Tryz.func35,Tryz.ntmps35;(go_wp2_with fail);(with_reducible refine hi.mono ?_);rintro e w1 ⟨rfl,hx1⟩;go_wp2;go_ret;exact⟨rfl,hx1⟩
structure Low(n:Int)(d g:Nat)(n':Int)(d':Nat):Prop where
 R:R (mkRat n d)=EB n' d'
 e1:n.tdiv (g:Int)=n'
 e2:(d:Int)/(g:Int)=(d':Int)
 g0:0<g
 gd:g<=d
 b1:n'.natAbs<=n.natAbs
 b2:d'<=d
theorem m9(n:Int){d:Nat}(hd:0<d):∃n' d',Low n d (Nat.gcd n.natAbs d) n' d':=by
 have hgn:((Nat.gcd n.natAbs d:Nat):Int)∣n:=Int.natAbs_dvd_natAbs.1 (by rw [AqM];exact Nat.gcd_dvd_left ..);refine⟨n/(Nat.gcd n.natAbs d:Nat),d/Nat.gcd n.natAbs d,Zq n hd,Int.tdiv_eq_ediv_of_dvd hgn,by simp,Nat.gcd_pos_of_pos_right _ hd,Nat.gcd_le_right _ hd,TR _ _ hgn,Nat.div_le_self _ _⟩
theorem Ame(n:Int)(d:Nat)(hd:0<d)(Nj:-9000000000000000000<=n)(Da:n<=9000000000000000000)(BV:d<=9000000000000000000)(w:World)(hw:Am w) :
  Calls Tryz.prog 85 #[S (I n),S (I (d:Int))] w (Bg (R (mkRat n d)) w):=by
 obtain⟨n',d',Ni⟩:=m9 n hd;obtain⟨g,hg⟩:=AqG (Nat.gcd n.natAbs d);rw [←hg]at Ni;obtain⟨hR,e1,e2,hg0,hgd,b1,b2⟩:=Ni;have ln:(I n').length<=20:=Ms (z:=n') (k:=19) (by omega) (by omega);have ld:(D d').length<=19:=GU (by omega) (by omega);have NU:=ZE n (by omega) (by omega);have at2:=ZE (d:Int) (by omega) (by omega);have HR:=AqH hR;have HG:=AqH hg;have H1:=AqH e1;have H2:=AqH e2;have i1:=fun W hW=>Nx n' (by omega) (by omega) W hW;have i2:=fun W hW=>Nx (d':Int) (by omega) (by omega) W hW;rw [Ec]at i2;obtain⟨na,Tn⟩:=AqG (n.natAbs:Nat);have fN:na<=9000000000000000000:=(by omega);have KC:=AqH Tn;clear hR hg e1 e2 Tn;by_cases L1:n<0
 case' pos=>have Ahz:-n=(na:Int):=(by have:=KC.out;omega);go_enter Tryz.func85,Tryz.ntmps85;(go_wp2_with fail);(with_reducible refine(NU _).mono ?_);rintro e w1 ⟨rfl,hx⟩;(go_wp2_with fail);(with_reducible refine(at2 _).mono ?_);rintro e w2 ⟨rfl,hx2⟩;have hE:=hx.trans hx2;go_wp2;clear Ahz
 case' neg=>obtain⟨m,hm⟩:=Int.eq_ofNat_of_zero_le (show 0<=n by omega);obtain rfl:m=na:=(by have:=KC.out;omega);subst hm;go_enter Tryz.func85,Tryz.ntmps85;(go_wp2_with fail);(with_reducible refine(NU _).mono ?_);rintro e w1 ⟨rfl,hx⟩;(go_wp2_with fail);(with_reducible refine(at2 _).mono ?_);rintro e w2 ⟨rfl,hx2⟩;have hE:=hx.trans hx2;go_wp2
 all_goals
  clear NU at2 hx hx2
  go_loopw [9,10] (fun x y wr=>∃a b:Nat,x=.int .i64 (a:Nat)/\y=.int .i64 (b:Nat)/\Nat.gcd a b=g/\a<=9000000000000000000/\b<=9000000000000000000/\Aa w wr) (fun _ y _=>(intOf y).natAbs)
  case atStart=>exact⟨_,d,rfl,rfl,by rw [HG.out,←KC.out],fN,BV,hE⟩
  case round=>
   obtain⟨a,b,rfl,rfl,El,ha,hb,Ac⟩:=hrel;by_cases hb0:b=0
   ·subst hb0;obtain rfl:a=g:=(by rw [←El];simp);clear El;have e1:=H1.out;have e2:=H2.out;have Ls:(0:Int)<(a:Int):=(by omega);have av:((a:Int) == 0)=false:=(by rw [beq_eq_false_iff_ne];omega);by_cases Ep:d'=1
    ·subst Ep;have HF:Hid (R (mkRat _ d)=I n'):=AqH (by rw [HR.out];rfl);(go_wp2_with fail)
     go_quiet (fail)
     (go_wp2_with fail);(with_reducible refine(i1 _ (hw.ext (Ac.drewN _))).mono ?_);rintro e w3 ⟨rfl,hx3⟩;go_wp2;go_ret;exact⟨Gt (by rw [HF.out]),(Ac.drewN _).trans hx3⟩
    ·have HF:Hid (R (mkRat _ d)=I n'++47::D d'):=AqH (by rw [HR.out];exact if_neg Ep);have eD:((d':Int) == 1)=false:=(by rw [beq_eq_false_iff_ne];omega);clear Ep;(go_wp2_with fail)
     go_quiet (fail)
     (go_wp2_with fail);(with_reducible refine(i1 _ (hw.ext (Ac.drewN _))).mono ?_);rintro e w3 ⟨rfl,hx3⟩;have hx3:=(Ac.drewN _).trans hx3;(go_wp2_with fail);(with_reducible refine(i2 _ (hw.ext hx3)).mono ?_);rintro e w4 ⟨rfl,Ai⟩;go_wp2;go_ret;exact⟨Gt (by rw [HF.out];apply ByteArray.ext;simp),hx3.trans Ai⟩
   ·have hlt:a%b<b:=Nat.mod_lt _ (by omega);have PW:((b:Int) != 0)=true:=(by rw [bne_iff_ne];omega);have CW:((b:Int) == 0)=false:=(by rw [beq_eq_false_iff_ne];omega);have AY:(0:Int)<(b:Int):=(by omega);have JD:Hid (Nat.gcd b (a%b)=g):=AqH (by rw [←El,Nat.gcd_comm b,←Nat.gcd_rec,Nat.gcd_comm]);clear El;(go_wp2_with fail)
    go_quiet (fail)
    go_wp2;go_roundw
    case rel=>exact⟨b,a%b,rfl,by go_num,JD.out,hb,by omega,Ac.drewN _⟩
    case measure=>simp [intOf];omega
theorem Amd(n:Int)(d:Nat)(hd:0<d)(Nj:-9000000000000000000<=n)(Da:n<=9000000000000000000)(BV:d<=9000000000000000000)(w:World)(hw:Am w) :
  Calls Tryz.prog 117 #[.int .i64 n,.int .i64 (d:Nat)] w (Bg (R (mkRat n d)) w):=by
 obtain⟨n',d',Ni⟩:=m9 n hd;obtain⟨g,hg⟩:=AqG (Nat.gcd n.natAbs d);rw [←hg]at Ni;obtain⟨hR,e1,e2,hg0,hgd,b1,b2⟩:=Ni;have ln:(I n').length<=20:=Ms (z:=n') (k:=19) (by omega) (by omega);have ld:(D d').length<=19:=GU (by omega) (by omega);have HR:=AqH hR;have HG:=AqH hg;have H1:=AqH e1;have H2:=AqH e2;have i1:=fun W hW=>Nx n' (by omega) (by omega) W hW;have i2:=fun W hW=>Nx (d':Int) (by omega) (by omega) W hW;rw [Ec]at i2;obtain⟨na,Tn⟩:=AqG (n.natAbs:Nat);have fN:na<=9000000000000000000:=(by omega);have L1:IntKind.i64.wrap (-n) = -n:=AqQ _ (by omega);have KC:=AqH Tn;clear hR hg e1 e2 Tn;by_cases Ov:d=1
 ·subst Ov
  have hn':n'=n:=by have h1:=HG.out;rw [Nat.gcd_one_right]at h1;rw [←H1.out,h1];simp
  have BP:d'=1:=by have h1:=HG.out;rw [Nat.gcd_one_right]at h1;have:=H2.out;rw [h1]at this;simp at this;omega
  have HF:Hid (R (mkRat n 1)=I n):=AqH (by rw [HR.out,BP,hn'];rfl);subst hn';clear BP;go_enter Tryz.func117,Tryz.ntmps117;(go_wp2_with fail);(with_reducible refine(i1 _ hw).mono ?_);rintro e w3 ⟨rfl,hx3⟩;go_wp2;go_ret;exact⟨Gt (by rw [HF.out]),hx3⟩
 ·have AgK:((d:Int) != 1)=true:=(by rw [bne_iff_ne];omega);have hmx:max n (-n)=(na:Int):=(by have:=KC.out;omega);clear Ov;go_enter Tryz.func117,Tryz.ntmps117;go_wp2;clear hmx AgK
  go_loopw [5,6] (fun x y wr=>∃a b:Nat,x=.int .i64 (a:Nat)/\y=.int .i64 (b:Nat)/\Nat.gcd a b=g/\a<=9000000000000000000/\b<=9000000000000000000/\Aa w wr) (fun _ y _=>(intOf y).natAbs)
  case atStart=>exact⟨na,d,by first|rfl|(have:=KC.out;congr 1;split<;>omega),rfl,by rw [HG.out,←KC.out],fN,BV,Aa.refl _⟩
  case round=>
   obtain⟨a,b,rfl,rfl,El,ha,hb,Ac⟩:=hrel;by_cases hb0:b=0
   ·subst hb0;obtain rfl:a=g:=(by rw [←El];simp);clear El;have e1:=H1.out;have e2:=H2.out;have Ls:(0:Int)<(a:Int):=(by omega);have av:((a:Int) == 0)=false:=(by rw [beq_eq_false_iff_ne];omega);by_cases Ep:d'=1
    ·subst Ep;have HF:Hid (R (mkRat n d)=I n'):=AqH (by rw [HR.out];rfl);(go_wp2_with fail)
     go_quiet (fail)
     (go_wp2_with fail);(with_reducible refine(i1 _ (hw.ext (Ac.drewN _))).mono ?_);rintro e w3 ⟨rfl,hx3⟩;go_wp2;go_ret;exact⟨Gt (by rw [HF.out]),(Ac.drewN _).trans hx3⟩
    ·have HF:Hid (R (mkRat n d)=I n'++47::D d'):=AqH (by rw [HR.out];exact if_neg Ep);have eD:((d':Int) == 1)=false:=(by rw [beq_eq_false_iff_ne];omega);clear Ep;(go_wp2_with fail)
     go_quiet (fail)
     (go_wp2_with fail);(with_reducible refine(i1 _ (hw.ext (Ac.drewN _))).mono ?_);rintro e w3 ⟨rfl,hx3⟩;have hx3:=(Ac.drewN _).trans hx3;(go_wp2_with fail);(with_reducible refine(i2 _ (hw.ext hx3)).mono ?_);rintro e w4 ⟨rfl,Ai⟩;go_wp2;go_ret;exact⟨Gt (by rw [HF.out];apply ByteArray.ext;simp),hx3.trans Ai⟩
   ·have hlt:a%b<b:=Nat.mod_lt _ (by omega);have PW:((b:Int) != 0)=true:=(by rw [bne_iff_ne];omega);have CW:((b:Int) == 0)=false:=(by rw [beq_eq_false_iff_ne];omega);have AY:(0:Int)<(b:Int):=(by omega);have JD:Hid (Nat.gcd b (a%b)=g):=AqH (by rw [←El,Nat.gcd_comm b,←Nat.gcd_rec,Nat.gcd_comm]);clear El;(go_wp2_with fail)
    go_quiet (fail)
    go_wp2;go_roundw
    case rel=>exact⟨b,a%b,rfl,by go_num,JD.out,hb,by omega,Ac.drewN _⟩
    case measure=>simp [intOf];omega
theorem Amc(n:Int)(d:Nat)(hd:0<d)(l1:(I n).length<=9)(l2:(I (d:Int)).length<=9)(w:World)(hw:Am w) :
  Calls Tryz.prog 34 #[S (I n),S (I (d:Int))] w (Bg (R (mkRat n d)) w):=by
 have b1:=Kw l1;have b2:=Kw l2;have e9:(10:Nat)^9=1000000000:=(by decide);rw [e9]at b1 b2;have sm:=Ame n d hd (by omega) (by omega) (by omega);have i1:decide (((I n).length:Int)<=9)=true:=(by rw [decide_eq_true_eq];omega);have i2:decide (((I (d:Int)).length:Int)<=9)=true:=(by rw [decide_eq_true_eq];omega);have l1':((I n).length:Int)<=9:=(by omega);have l2':((I (d:Int)).length:Int)<=9:=(by omega);clear b1 b2 e9 hd l1 l2;go_enter Tryz.func34,Tryz.ntmps34;(go_wp2_with fail);(with_reducible refine(sm _ hw).mono ?_);rintro e w3 ⟨rfl,hx3⟩;go_wp2;go_ret;exact⟨rfl,hx3⟩
theorem Yg(n:Int)(d:Nat)(hd:0<d)(h1:n.natAbs<10000000)(h2:d<10000000)(w:World)(hw:Am w) :
  Calls Tryz.prog 9 #[.int .i64 n,.int .i64 (d:Nat)] w (Bg (R (mkRat n d)) w):=by
 have e7:(10:Nat)^7=10000000:=(by decide);have l1:(I n).length<=9:=AqU (Ms (k:=7) (by omega) (by omega)) (by omega);have l2:(I (d:Int)).length<=9:=AqU (Ms (z:=(d:Int)) (k:=7) (by omega) (by rw [AqM];omega)) (by omega);have o1:=vo n (by omega) (by omega);have o2:=vo (d:Int) (by omega) (by omega);have fr:=Amc n d hd l1 l2;clear e7 l1 l2 hd h1 h2;go_enter Tryz.func9,Tryz.ntmps9;(go_wp2_with fail);(with_reducible refine(o1 _ hw).mono ?_);rintro e w1 ⟨rfl,hx⟩;(go_wp2_with fail);(with_reducible refine(o2 _ (hw.ext hx)).mono ?_);rintro e w2 ⟨rfl,hx2⟩;replace hx:=hx.trans hx2;(go_wp2_with fail);(with_reducible refine(fr _ (hw.ext hx)).mono ?_);rintro e w3 ⟨rfl,hx3⟩;go_wp2;go_ret;exact⟨rfl,hx.trans hx3⟩
end Go.Proofs.YtjalkoacphhgdaaGreatDoor
