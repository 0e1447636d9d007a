/- J17: R3 R4 R5 R6 G1 G2 G3 G4 G5 G6 G7 G8A G9 G10 G11 F1 F2 F3 F4 H1 H2 H3 H4. -/
import Derived.Test.YtnddllipjippnaaGreatDoorJ15
import Derived.Test.YtnddllipjippnaaGreatDoorJ04
set_option maxRecDepth 100000
set_option maxHeartbeats 8000000
namespace Go.Proofs.YtnddllipjippnaaGreatDoor
open Go.RowKit Kl
theorem AV.of{z:Int}{k:Nat}(h:z.natAbs<10^k)(hk:k<=4000):AV z:=AoG h (Nat.pow_le_pow_right (by omega) hk)
theorem Im(q:Rat){k:Nat}(hk:0<k)(hk2:k<=100000)(hz:Sz k q)(w:World)(hw:Am w):Calls Tryz.prog 187 #[S (R q)] w (BG (.tuple #[S (I q.num),S (I (q.den:Int))]) w):=by
 have h:=qw q hk hk2 hz w hw;unfold QS at h;rw [EN];exact h
structure Rm(a b:Nat)(p q:Rat):Prop where
 p:Sz a p
 q:Sz b q
 a0:0<a
 b0:0<b
 le:a+b<=3990
section
variable {a b : Nat} {p q : Rat}
theorem Rm.lp(h:Rm a b p q):(R p).length<=100000:=by have:=MC h.a0 h.p;have:=h.le;omega
theorem Rm.lq(h:Rm a b p q):(R q).length<=100000:=by have:=MC h.b0 h.q;have:=h.le;omega
theorem Rm.bn(h:Rm a b p q):AV p.num:=AV.of h.p.num (by have:=h.le;omega)
theorem Rm.bd(h:Rm a b p q):AV (p.den:Int):=AV.of (k:=a) (by rw [Ao9];exact h.p.den) (by have:=h.le;omega)
theorem Rm.bm(h:Rm a b p q):AV q.num:=AV.of h.q.num (by have:=h.le;omega)
theorem Rm.be(h:Rm a b p q):AV (q.den:Int):=AV.of (k:=b) (by rw [Ao9];exact h.q.den) (by have:=h.le;omega)
theorem Rm.ne'(h:Rm a b p q):(p.num*(q.den:Int)).natAbs<10^(a+b):=by rw [Int.natAbs_mul,Ao9];exact LV h.p.num h.q.den
theorem Rm.md'(h:Rm a b p q):(q.num*(p.den:Int)).natAbs<10^(a+b):=by rw [Int.natAbs_mul,Ao9,Nat.add_comm];exact LV h.q.num h.p.den
theorem Rm.ne(h:Rm a b p q):AV (p.num*(q.den:Int)):=AV.of h.ne' (by have:=h.le;omega)
theorem Rm.md(h:Rm a b p q):AV (q.num*(p.den:Int)):=AV.of h.md' (by have:=h.le;omega)
theorem Rm.nm(h:Rm a b p q):AV (p.num*q.num):=AV.of (k:=a+b) (by rw [Int.natAbs_mul];exact LV h.p.num h.q.num) (by have:=h.le;omega)
theorem Rm.de(h:Rm a b p q):AV ((p.den:Int)*(q.den:Int)):=AV.of (k:=a+b) (by rw [Int.natAbs_mul,Ao9,Ao9];exact LV h.p.den h.q.den) (by have:=h.le;omega)
theorem Rm.sum(h:Rm a b p q):AV (p.num*(q.den:Int)+q.num*(p.den:Int)):=AV.of (k:=a+b+1) (Nat.lt_of_le_of_lt (Int.natAbs_add_le _ _) (oY h.ne' h.md')) (by have:=h.le;omega)
end
theorem VL(p q:Rat):0<(p.den:Int)*(q.den:Int):=Int.mul_pos (by have:=p.den_pos;omega) (by have:=q.den_pos;omega)
theorem VM(p q:Rat):((p.den:Int)*(q.den:Int)).toNat=p.den*q.den:=by rw [←Int.natCast_mul,Int.toNat_natCast]
def Dk(q:Rat):Prop:=(D q.num.natAbs).length<=9/\(D q.den).length<=9
theorem Mc{q:Rat}(h:Dk q):QW q=.tuple #[.int .i64 q.num,.int .i64 q.den,.bool true]:=if_pos h
theorem QX{q:Rat}(h:¬Dk q):QW q=.tuple #[.int .i64 0,.int .i64 0,.bool false]:=if_neg h
theorem Dk.num{q:Rat}(h:Dk q):q.num.natAbs<1000000000:=OV (k:=9) h.1
theorem Dk.den{q:Rat}(h:Dk q):q.den<1000000000:=OV (k:=9) h.2
theorem G6(q:Rat)(hl:(R q).length<=100000)(w:World):Calls Tryz.prog 186 #[S (R q)] w (fun e w'=>e=.returned (QW q)/\w=w'):=AjE q hl w
theorem RU{x y:Int}(hx:x.natAbs<1000000000)(hy:y.natAbs<1000000000):(x*y).natAbs<=999999998000000001:=by
 rw [Int.natAbs_mul];exact Ut hx hy
theorem Aj1(p q:Rat){a b:Nat}(hr:Rm a b p q)(BJ:p≠0)(AY:q≠0)(h1:Dk p)(h2:Dk q)(w:World)(hw:Am w):Calls Tryz.prog 168 #[S (R p),S (R q)] w (By (R (p+q)) w):=by
 have q1:=G6 p hr.lp;have q2:=G6 q hr.lq;rw [Mc h1]at q1;rw [Mc h2]at q2;have n1:=Ef BJ;have n2:=Ef AY;clear BJ AY;have w1:=NL (x:=p.num) (y:=(q.den:Int)) h1.num (by rw [Ao9];exact h2.den);have w2:=NL (x:=q.num) (y:=(p.den:Int)) h2.num (by rw [Ao9];exact h1.den);have w3:=NL (x:=(p.den:Int)) (y:=(q.den:Int)) (by rw [Ao9];exact h1.den) (by rw [Ao9];exact h2.den);have b1:=RU (x:=p.num) (y:=(q.den:Int)) h1.num (by rw [Ao9];exact h2.den);have b2:=RU (x:=q.num) (y:=(p.den:Int)) h2.num (by rw [Ao9];exact h1.den);have b3:=RU (x:=(p.den:Int)) (y:=(q.den:Int)) (by rw [Ao9];exact h1.den) (by rw [Ao9];exact h2.den);have w4:IntKind.i64.wrap (p.num*(q.den:Int)+q.num*(p.den:Int))=p.num*(q.den:Int)+q.num*(p.den:Int):=AoD _ (by omega);have sm:=qx (p.num*(q.den:Int)+q.num*(p.den:Int)) (p.den*q.den) (Nat.mul_pos p.den_pos q.den_pos) (by omega) (by omega) (by rw [←Int.natCast_mul,Ao9]at b3;omega);rw [Int.natCast_mul,←Rat.add_def']at sm;clear b1 b2 b3;have hx:=Ab.refl w;clear h1 h2 hr;go_enter Tryz.func168,Tryz.ntmps168;(go_wp2_with fail);(with_reducible refine(q1 _).mono ?_);rintro e w1 ⟨rfl,rfl⟩;(go_wp2_with fail);(with_reducible refine(q2 _).mono ?_);rintro e w2 ⟨rfl,rfl⟩;(go_wp2_with fail);(with_reducible refine(sm _ hw).mono ?_);rintro e w3 ⟨rfl,hx3⟩;go_wp2;go_ret;exact⟨rfl,hx3⟩
theorem Ajz(p q:Rat){a b:Nat}(hr:Rm a b p q)(BJ:p≠0)(AY:q≠0)(h1:Dk p)(h2:¬Dk q)(w:World)(hw:Am w):Calls Tryz.prog 168 #[S (R p),S (R q)] w (By (R (p+q)) w):=by
 have q1:=G6 p hr.lp;have q2:=G6 q hr.lq;rw [Mc h1]at q1;rw [QX h2]at q2;have n1:=Ef BJ;have n2:=Ef AY;clear BJ AY;have hx:=Ab.refl w;have pa:=Im p hr.a0 (by have:=hr.le;omega) hr.p;have pb:=Im q hr.b0 (by have:=hr.le;omega) hr.q;have m1:=Hb p.num (q.den:Int) hr.bn hr.be;have m2:=Hb q.num (p.den:Int) hr.bm hr.bd;have ad:=je (p.num*(q.den:Int)) (q.num*(p.den:Int)) hr.ne hr.md;have m3:=Hb (p.den:Int) (q.den:Int) hr.bd hr.be;have lo:=Yn (p.num*(q.den:Int)+q.num*(p.den:Int)) ((p.den:Int)*(q.den:Int)) hr.sum hr.de (VL p q);rw [VM,←Rat.add_def']at lo;clear h1 h2 hr;go_enter Tryz.func168,Tryz.ntmps168;(go_wp2_with fail);(with_reducible refine(q1 _).mono ?_);rintro e w1 ⟨rfl,rfl⟩;(go_wp2_with fail);(with_reducible refine(q2 _).mono ?_);rintro e w2 ⟨rfl,rfl⟩;(go_wp2_with fail);(with_reducible refine(pa _ (hw.ext hx)).mono ?_);rintro e w3 ⟨rfl,hx3⟩;replace hx:=hx.trans hx3;(go_wp2_with fail);(with_reducible refine(pb _ (hw.ext hx)).mono ?_);rintro e w4 ⟨rfl,Ag⟩;replace hx:=hx.trans Ag;(go_wp2_with fail);(with_reducible refine(m1 _ (hw.ext hx)).mono ?_);rintro e w5 ⟨rfl,Ae⟩;replace hx:=hx.trans Ae;(go_wp2_with fail);(with_reducible refine(m2 _ (hw.ext hx)).mono ?_);rintro e w6 ⟨rfl,AG⟩;replace hx:=hx.trans AG;(go_wp2_with fail);(with_reducible refine(ad _ (hw.ext hx)).mono ?_);rintro e w7 ⟨rfl,Aw⟩;replace hx:=hx.trans Aw;(go_wp2_with fail);(with_reducible refine(m3 _ (hw.ext hx)).mono ?_);rintro e w8 ⟨rfl,AX⟩;replace hx:=hx.trans AX;(go_wp2_with fail);(with_reducible refine(lo _ (hw.ext hx)).mono ?_);rintro e w9 ⟨rfl,Ah⟩;replace hx:=hx.trans Ah;go_wp2;go_ret;exact⟨rfl,hx⟩
theorem Aj0(p q:Rat){a b:Nat}(hr:Rm a b p q)(BJ:p≠0)(AY:q≠0)(h1:¬Dk p)(w:World)(hw:Am w):Calls Tryz.prog 168 #[S (R p),S (R q)] w (By (R (p+q)) w):=by
 have q1:=G6 p hr.lp;rw [QX h1]at q1;have n1:=Ef BJ;have n2:=Ef AY;clear BJ AY;have hx:=Ab.refl w;have pa:=Im p hr.a0 (by have:=hr.le;omega) hr.p;have pb:=Im q hr.b0 (by have:=hr.le;omega) hr.q;have m1:=Hb p.num (q.den:Int) hr.bn hr.be;have m2:=Hb q.num (p.den:Int) hr.bm hr.bd;have ad:=je (p.num*(q.den:Int)) (q.num*(p.den:Int)) hr.ne hr.md;have m3:=Hb (p.den:Int) (q.den:Int) hr.bd hr.be;have lo:=Yn (p.num*(q.den:Int)+q.num*(p.den:Int)) ((p.den:Int)*(q.den:Int)) hr.sum hr.de (VL p q);rw [VM,←Rat.add_def']at lo;clear h1 hr;go_enter Tryz.func168,Tryz.ntmps168;(go_wp2_with fail);(with_reducible refine(q1 _).mono ?_);rintro e w1 ⟨rfl,rfl⟩;(go_wp2_with fail);(with_reducible refine(pa _ (hw.ext hx)).mono ?_);rintro e w3 ⟨rfl,hx3⟩;replace hx:=hx.trans hx3;(go_wp2_with fail);(with_reducible refine(pb _ (hw.ext hx)).mono ?_);rintro e w4 ⟨rfl,Ag⟩;replace hx:=hx.trans Ag;(go_wp2_with fail);(with_reducible refine(m1 _ (hw.ext hx)).mono ?_);rintro e w5 ⟨rfl,Ae⟩;replace hx:=hx.trans Ae;(go_wp2_with fail);(with_reducible refine(m2 _ (hw.ext hx)).mono ?_);rintro e w6 ⟨rfl,AG⟩;replace hx:=hx.trans AG;(go_wp2_with fail);(with_reducible refine(ad _ (hw.ext hx)).mono ?_);rintro e w7 ⟨rfl,Aw⟩;replace hx:=hx.trans Aw;(go_wp2_with fail);(with_reducible refine(m3 _ (hw.ext hx)).mono ?_);rintro e w8 ⟨rfl,AX⟩;replace hx:=hx.trans AX;(go_wp2_with fail);(with_reducible refine(lo _ (hw.ext hx)).mono ?_);rintro e w9 ⟨rfl,Ah⟩;replace hx:=hx.trans Ah;go_wp2;go_ret;exact⟨rfl,hx⟩
theorem Yl(p q:Rat){a b:Nat}(hr:Rm a b p q)(w:World)(hw:Am w):Calls Tryz.prog 168 #[S (R p),S (R q)] w (By (R (p+q)) w):=by
 by_cases BJ:p=0
 ·subst BJ;rw [Rat.zero_add,KT];clear hr;go_enter Tryz.func168,Tryz.ntmps168;go_wp2;go_ret;exact⟨rfl,Ab.refl _⟩
 ·by_cases AY:q=0
  ·subst AY;rw [Rat.add_zero,KT];have n1:=Ef BJ;clear hr BJ;go_enter Tryz.func168,Tryz.ntmps168;go_wp2;go_ret;exact⟨rfl,Ab.refl _⟩
  ·by_cases h1:Dk p
   ·by_cases h2:Dk q
    ·exact Aj1 p q hr BJ AY h1 h2 w hw
    ·exact Ajz p q hr BJ AY h1 h2 w hw
   ·exact Aj0 p q hr BJ AY h1 w hw
theorem AjC(p q:Rat){a b:Nat}(hr:Rm a b p q)(BJ:p≠0)(AY:q≠0)(FC:p≠1)(Bl:q≠1)(h1:Dk p)(h2:Dk q)(w:World)(hw:Am w):Calls Tryz.prog 169 #[S (R p),S (R q)] w (By (R (p*q)) w):=by
 have q1:=G6 p hr.lp;have q2:=G6 q hr.lq;rw [Mc h1]at q1;rw [Mc h2]at q2;have n1:=Ef BJ;have n2:=Ef AY;have n3:=Oc FC;have n4:=Oc Bl;clear BJ AY FC Bl;have w1:=NL (x:=p.num) (y:=q.num) h1.num h2.num;have w3:=NL (x:=(p.den:Int)) (y:=(q.den:Int)) (by rw [Ao9];exact h1.den) (by rw [Ao9];exact h2.den);have b1:=RU (x:=p.num) (y:=q.num) h1.num h2.num;have b3:=RU (x:=(p.den:Int)) (y:=(q.den:Int)) (by rw [Ao9];exact h1.den) (by rw [Ao9];exact h2.den);have sm:=qx (p.num*q.num) (p.den*q.den) (Nat.mul_pos p.den_pos q.den_pos) (by omega) (by omega) (by rw [←Int.natCast_mul,Ao9]at b3;omega);rw [Int.natCast_mul,←Rat.mul_def']at sm;clear b1 b3;have hx:=Ab.refl w;clear h1 h2 hr;go_enter Tryz.func169,Tryz.ntmps169;(go_wp2_with fail);(with_reducible refine(q1 _).mono ?_);rintro e w1 ⟨rfl,rfl⟩;(go_wp2_with fail);(with_reducible refine(q2 _).mono ?_);rintro e w2 ⟨rfl,rfl⟩;(go_wp2_with fail);(with_reducible refine(sm _ hw).mono ?_);rintro e w3 ⟨rfl,hx3⟩;go_wp2;go_ret;exact⟨rfl,hx3⟩
theorem AjA(p q:Rat){a b:Nat}(hr:Rm a b p q)(BJ:p≠0)(AY:q≠0)(FC:p≠1)(Bl:q≠1)(h1:Dk p)(h2:¬Dk q)(w:World)(hw:Am w):Calls Tryz.prog 169 #[S (R p),S (R q)] w (By (R (p*q)) w):=by
 have q1:=G6 p hr.lp;have q2:=G6 q hr.lq;rw [Mc h1]at q1;rw [QX h2]at q2;have n1:=Ef BJ;have n2:=Ef AY;have n3:=Oc FC;have n4:=Oc Bl;clear BJ AY FC Bl;have hx:=Ab.refl w;have pa:=Im p hr.a0 (by have:=hr.le;omega) hr.p;have pb:=Im q hr.b0 (by have:=hr.le;omega) hr.q;have m1:=Hb p.num q.num hr.bn hr.bm;have m3:=Hb (p.den:Int) (q.den:Int) hr.bd hr.be;have lo:=Yn (p.num*q.num) ((p.den:Int)*(q.den:Int)) hr.nm hr.de (VL p q);rw [VM,←Rat.mul_def']at lo;clear h1 h2 hr;go_enter Tryz.func169,Tryz.ntmps169;(go_wp2_with fail);(with_reducible refine(q1 _).mono ?_);rintro e w1 ⟨rfl,rfl⟩;(go_wp2_with fail);(with_reducible refine(q2 _).mono ?_);rintro e w2 ⟨rfl,rfl⟩;(go_wp2_with fail);(with_reducible refine(pa _ (hw.ext hx)).mono ?_);rintro e w3 ⟨rfl,hx3⟩;replace hx:=hx.trans hx3;(go_wp2_with fail);(with_reducible refine(pb _ (hw.ext hx)).mono ?_);rintro e w4 ⟨rfl,Ag⟩;replace hx:=hx.trans Ag;(go_wp2_with fail);(with_reducible refine(m1 _ (hw.ext hx)).mono ?_);rintro e w5 ⟨rfl,Ae⟩;replace hx:=hx.trans Ae;(go_wp2_with fail);(with_reducible refine(m3 _ (hw.ext hx)).mono ?_);rintro e w8 ⟨rfl,AX⟩;replace hx:=hx.trans AX;(go_wp2_with fail);(with_reducible refine(lo _ (hw.ext hx)).mono ?_);rintro e w9 ⟨rfl,Ah⟩;replace hx:=hx.trans Ah;go_wp2;go_ret;exact⟨rfl,hx⟩
theorem AjB(p q:Rat){a b:Nat}(hr:Rm a b p q)(BJ:p≠0)(AY:q≠0)(FC:p≠1)(Bl:q≠1)(h1:¬Dk p)(w:World)(hw:Am w):Calls Tryz.prog 169 #[S (R p),S (R q)] w (By (R (p*q)) w):=by
 have q1:=G6 p hr.lp;rw [QX h1]at q1;have n1:=Ef BJ;have n2:=Ef AY;have n3:=Oc FC;have n4:=Oc Bl;clear BJ AY FC Bl;have hx:=Ab.refl w;have pa:=Im p hr.a0 (by have:=hr.le;omega) hr.p;have pb:=Im q hr.b0 (by have:=hr.le;omega) hr.q;have m1:=Hb p.num q.num hr.bn hr.bm;have m3:=Hb (p.den:Int) (q.den:Int) hr.bd hr.be;have lo:=Yn (p.num*q.num) ((p.den:Int)*(q.den:Int)) hr.nm hr.de (VL p q);rw [VM,←Rat.mul_def']at lo;clear h1 hr;go_enter Tryz.func169,Tryz.ntmps169;(go_wp2_with fail);(with_reducible refine(q1 _).mono ?_);rintro e w1 ⟨rfl,rfl⟩;(go_wp2_with fail);(with_reducible refine(pa _ (hw.ext hx)).mono ?_);rintro e w3 ⟨rfl,hx3⟩;replace hx:=hx.trans hx3;(go_wp2_with fail);(with_reducible refine(pb _ (hw.ext hx)).mono ?_);rintro e w4 ⟨rfl,Ag⟩;replace hx:=hx.trans Ag;(go_wp2_with fail);(with_reducible refine(m1 _ (hw.ext hx)).mono ?_);rintro e w5 ⟨rfl,Ae⟩;replace hx:=hx.trans Ae;(go_wp2_with fail);(with_reducible refine(m3 _ (hw.ext hx)).mono ?_);rintro e w8 ⟨rfl,AX⟩;replace hx:=hx.trans AX;(go_wp2_with fail);(with_reducible refine(lo _ (hw.ext hx)).mono ?_);rintro e w9 ⟨rfl,Ah⟩;replace hx:=hx.trans Ah;go_wp2;go_ret;exact⟨rfl,hx⟩
theorem Pe(p q:Rat){a b:Nat}(hr:Rm a b p q)(w:World)(hw:Am w):Calls Tryz.prog 169 #[S (R p),S (R q)] w (By (R (p*q)) w):=by
 by_cases BJ:p=0
 ·subst BJ;rw [Rat.zero_mul,KT];clear hr;go_enter Tryz.func169,Tryz.ntmps169;go_wp2;go_ret;exact⟨rfl,Ab.refl _⟩
 by_cases AY:q=0
 ·subst AY;rw [Rat.mul_zero,KT];have n1:=Ef BJ;clear hr BJ;go_enter Tryz.func169,Tryz.ntmps169;go_wp2;go_ret;exact⟨rfl,Ab.refl _⟩
 by_cases FC:p=1
 ·subst FC;rw [Rat.one_mul,Vq];have n1:=Ef AY;clear hr AY BJ;go_enter Tryz.func169,Tryz.ntmps169;go_wp2;go_ret;exact⟨rfl,Ab.refl _⟩
 by_cases Bl:q=1
 ·subst Bl;rw [Rat.mul_one,Vq];have n1:=Ef BJ;have n2:=Oc FC;clear hr AY BJ FC;go_enter Tryz.func169,Tryz.ntmps169;go_wp2;go_ret;exact⟨rfl,Ab.refl _⟩
 by_cases h1:Dk p
 ·by_cases h2:Dk q
  ·exact AjC p q hr BJ AY FC Bl h1 h2 w hw
  ·exact AjA p q hr BJ AY FC Bl h1 h2 w hw
 ·exact AjB p q hr BJ AY FC Bl h1 w hw
def Bo(p q:Rat):Int:=if p<q then -1 else if p=q then 0 else 1
theorem AcF{p q:Rat}(h:p=q):Bo p q=0:=by unfold Bo;rw [if_neg (by rw [h];exact Rat.lt_irrefl),if_pos h]
theorem ZH(p q:Rat):EC (p.num*(q.den:Int)) (q.num*(p.den:Int))=Bo p q:=by
 unfold EC Bo;by_cases h:p<q
 ·rw [if_pos (Rat.lt_iff _ _ |>.1 h),if_pos h]
 ·rw [if_neg (fun k=>h (Rat.lt_iff _ _ |>.2 k)),if_neg h];by_cases e:p=q
  ·rw [if_pos (Rat.eq_iff_mul_eq_mul.1 e),if_pos e]
  ·rw [if_neg (fun k=>e (Rat.eq_iff_mul_eq_mul.2 k)),if_neg e]
theorem Aj7(p q:Rat){a b:Nat}(hr:Rm a b p q)(hne:p≠q)(h1:Dk p)(h2:Dk q)(w:World):Calls Tryz.prog 142 #[S (R p),S (R q)] w (AI (Bo p q) w):=by
 have q1:=G6 p hr.lp;have q2:=G6 q hr.lq;rw [Mc h1]at q1;rw [Mc h2]at q2;have n1:(R p == R q)=false:=(by rw [beq_eq_false_iff_ne];exact fun e=>hne (P3 e));have w1:=NL (x:=p.num) (y:=(q.den:Int)) h1.num (by rw [Ao9];exact h2.den);have w2:=NL (x:=q.num) (y:=(p.den:Int)) h2.num (by rw [Ao9];exact h1.den);have hc:=ZH p q;obtain⟨x,hx⟩:=Ao3 (p.num*(q.den:Int));obtain⟨y,hy⟩:=Ao3 (q.num*(p.den:Int));rw [←hx]at w1 hc;rw [←hy]at w2 hc;rw [hx]at w1;rw [hy]at w2;have w1':IntKind.i64.wrap (p.num*(q.den:Int))=x:=(by rw [hx];exact w1);have w2':IntKind.i64.wrap (q.num*(p.den:Int))=y:=(by rw [hy];exact w2);have HC:=Ao4 hc;clear h1 h2 hr hne w1 w2 hx hy hc
 rcases Int.lt_trichotomy x y with h|h|h
 ·have HR:=Ao4 (rN h);go_enter Tryz.func142,Tryz.ntmps142;(go_wp2_with fail);(with_reducible refine(q1 _).mono ?_);rintro e w1 ⟨rfl,rfl⟩;(go_wp2_with fail);(with_reducible refine(q2 _).mono ?_);rintro e w2 ⟨rfl,rfl⟩;go_wp2;go_ret;exact⟨DJ (by rw [←HC.out,HR.out]),Ab.refl _⟩
 ·have HR:=Ao4 (AcH h);have h1:¬x<y:=(by omega);have h2:¬y<x:=(by omega);clear h;go_enter Tryz.func142,Tryz.ntmps142;(go_wp2_with fail);(with_reducible refine(q1 _).mono ?_);rintro e w1 ⟨rfl,rfl⟩;(go_wp2_with fail);(with_reducible refine(q2 _).mono ?_);rintro e w2 ⟨rfl,rfl⟩;go_wp2;go_ret;exact⟨DJ (by rw [←HC.out,HR.out]),Ab.refl _⟩
 ·have HR:=Ao4 (ZJ h);have h1:¬x<y:=(by omega);go_enter Tryz.func142,Tryz.ntmps142;(go_wp2_with fail);(with_reducible refine(q1 _).mono ?_);rintro e w1 ⟨rfl,rfl⟩;(go_wp2_with fail);(with_reducible refine(q2 _).mono ?_);rintro e w2 ⟨rfl,rfl⟩;go_wp2;go_ret;exact⟨DJ (by rw [←HC.out,HR.out]),Ab.refl _⟩
theorem K2(p q:Rat){a b:Nat}(hr:Rm a b p q)(w:World)(hw:Am w):Calls Tryz.prog 142 #[S (R p),S (R q)] w (AI (Bo p q) w):=by
 by_cases Km:p=q
 ·subst Km;have HR:=Ao4 (AcF (rfl:p=p));have n1:(R p == R p)=true:=(by simp);clear hr;go_enter Tryz.func142,Tryz.ntmps142;go_wp2;go_ret;exact⟨DJ HR.out,Ab.refl _⟩
 by_cases h1:Dk p
 ·by_cases h2:Dk q
  ·exact Aj7 p q hr Km h1 h2 w
  ·have q1:=G6 p hr.lp;have q2:=G6 q hr.lq;rw [Mc h1]at q1;rw [QX h2]at q2;have n1:(R p == R q)=false:=(by rw [beq_eq_false_iff_ne];exact fun e=>Km (P3 e));have pa:=Im p hr.a0 (by have:=hr.le;omega) hr.p;have pb:=Im q hr.b0 (by have:=hr.le;omega) hr.q;have m1:=Hb p.num (q.den:Int) hr.bn hr.be;have m2:=Hb q.num (p.den:Int) hr.bm hr.bd;have cp:=iP _ _ hr.ne hr.md;rw [ZH]at cp;have hx:=Ab.refl w;clear h1 h2 hr Km;go_enter Tryz.func142,Tryz.ntmps142;(go_wp2_with fail);(with_reducible refine(q1 _).mono ?_);rintro e w1 ⟨rfl,rfl⟩;(go_wp2_with fail);(with_reducible refine(q2 _).mono ?_);rintro e w2 ⟨rfl,rfl⟩;(go_wp2_with fail);(with_reducible refine(pa _ (hw.ext hx)).mono ?_);rintro e w3 ⟨rfl,hx3⟩;replace hx:=hx.trans hx3;(go_wp2_with fail);(with_reducible refine(pb _ (hw.ext hx)).mono ?_);rintro e w4 ⟨rfl,Ag⟩;replace hx:=hx.trans Ag;(go_wp2_with fail);(with_reducible refine(m1 _ (hw.ext hx)).mono ?_);rintro e w5 ⟨rfl,Ae⟩;replace hx:=hx.trans Ae;(go_wp2_with fail);(with_reducible refine(m2 _ (hw.ext hx)).mono ?_);rintro e w6 ⟨rfl,AG⟩;replace hx:=hx.trans AG;(go_wp2_with fail);(with_reducible refine(cp _).mono ?_);rintro e w7 ⟨rfl,Aw⟩;replace hx:=hx.trans Aw;go_wp2;go_ret;exact⟨rfl,hx⟩
 ·have q1:=G6 p hr.lp;rw [QX h1]at q1;have n1:(R p == R q)=false:=(by rw [beq_eq_false_iff_ne];exact fun e=>Km (P3 e));have pa:=Im p hr.a0 (by have:=hr.le;omega) hr.p;have pb:=Im q hr.b0 (by have:=hr.le;omega) hr.q;have m1:=Hb p.num (q.den:Int) hr.bn hr.be;have m2:=Hb q.num (p.den:Int) hr.bm hr.bd;have cp:=iP _ _ hr.ne hr.md;rw [ZH]at cp;have hx:=Ab.refl w;clear h1 hr Km;go_enter Tryz.func142,Tryz.ntmps142;(go_wp2_with fail);(with_reducible refine(q1 _).mono ?_);rintro e w1 ⟨rfl,rfl⟩;(go_wp2_with fail);(with_reducible refine(pa _ (hw.ext hx)).mono ?_);rintro e w3 ⟨rfl,hx3⟩;replace hx:=hx.trans hx3;(go_wp2_with fail);(with_reducible refine(pb _ (hw.ext hx)).mono ?_);rintro e w4 ⟨rfl,Ag⟩;replace hx:=hx.trans Ag;(go_wp2_with fail);(with_reducible refine(m1 _ (hw.ext hx)).mono ?_);rintro e w5 ⟨rfl,Ae⟩;replace hx:=hx.trans Ae;(go_wp2_with fail);(with_reducible refine(m2 _ (hw.ext hx)).mono ?_);rintro e w6 ⟨rfl,AG⟩;replace hx:=hx.trans AG;(go_wp2_with fail);(with_reducible refine(cp _).mono ?_);rintro e w7 ⟨rfl,Aw⟩;replace hx:=hx.trans Aw;go_wp2;go_ret;exact⟨rfl,hx⟩
section
theorem Hi(p q:Rat){a b:Nat}(hr:Rm a b p q)(w:World)(hw:Am w):Calls Tryz.prog 170 #[S (R p),S (R q)] w (By (R (p-q)) w):=by
 have hn:=AjD q hr.b0 (by have:=hr.le;omega) hr.q;have ha:=Yl p (-q) (a:=a) (b:=b) ⟨hr.p,hr.q.neg,hr.a0,hr.b0,hr.le⟩;rw [←Rat.sub_eq_add_neg]at ha;clear hr;go_enter Tryz.func170,Tryz.ntmps170;(go_wp2_with fail);(with_reducible refine(hn _).mono ?_);rintro e w1 ⟨rfl,hx1⟩;(go_wp2_with fail);(with_reducible refine(ha _ (hw.ext hx1)).mono ?_);rintro e w2 ⟨rfl,hx2⟩;go_wp2;go_ret;exact⟨rfl,hx1.trans hx2⟩
theorem Abc{q:Rat}(h:0<q):R q⁻¹=Fz (q.den:Int) q.num.toNat:=by
 have hn:0<q.num:=mo.2 h;rw [Ob,Rat.num_inv,Rat.den_inv,if_neg (by omega),Int.sign_eq_one_of_pos hn,Int.one_mul,show q.num.natAbs=q.num.toNat by omega]
theorem Abb{q:Rat}(h:q<0):R q⁻¹=Fz (-(q.den:Int)) (-q.num).toNat:=by
 have hn:q.num<0:=J7.2 h;rw [Ob,Rat.num_inv,Rat.den_inv,if_neg (by omega),Int.sign_eq_neg_one_of_neg hn,Int.neg_one_mul,show q.num.natAbs=(-q.num).toNat by omega]
theorem AV.neg{z:Int}(h:AV z):AV (-z):=by unfold AV at h ⊢;rw [Int.natAbs_neg];exact h
def Yo(q:Rat):Value:=.tuple #[S (R q),.int .i64 0]
attribute [local go_sem] qL
theorem Aj8(p q:Rat)(AY:q≠0){a b:Nat}(hr:Rm a b p q)(w:World)(hw:Am w):Calls Tryz.prog 178 #[S (R p),S (R q)] w (BG (Yo (p/q)) w):=by
 have n1:=Ef AY;have pb:=Im q hr.b0 (by have:=hr.le;omega) hr.q;have hm:=Pe p q⁻¹ (a:=a) (b:=b) ⟨hr.p,hr.q.inv hr.b0,hr.a0,hr.b0,hr.le⟩;rw [←Rat.div_def]at hm
 rcases Zn q with⟨hn,e⟩|⟨hp,c,l,e,hd,hc⟩
 ·rw [Abb hn]at hm;have ne1:=jh q.num hr.bm;have ne2:=jh (q.den:Int) hr.be;have hj:=Ym (-(q.den:Int)) (-q.num) (by have:=J7.2 hn;omega) hr.be.neg hr.bm.neg;obtain⟨c,hc⟩:=Ao3 (45:UInt8);have hl:0<(R q).length:=(by rw [e];simp);have hg:(R q)[0]'hl=c:=(by rw [List.getElem_of_eq e hl,hc];rfl);have hcb:((c.toNat:Int) == 45)=true:=(by rw [hc];rfl);clear e hc hn hr AY;unfold Yo;go_enter Tryz.func178,Tryz.ntmps178;(go_wp2_with fail);(with_reducible refine(pb _ hw).mono ?_);rintro e w1 ⟨rfl,hx⟩;(go_wp2_with fail);(with_reducible refine(ne1 _).mono ?_);rintro e w2 ⟨rfl,hx2⟩;replace hx:=hx.trans hx2;(go_wp2_with fail);(with_reducible refine(ne2 _).mono ?_);rintro e w3 ⟨rfl,hx3⟩;replace hx:=hx.trans hx3;(go_wp2_with fail);(with_reducible refine(hj _).mono ?_);rintro e w4 ⟨rfl,Ag⟩;replace hx:=hx.trans Ag;(go_wp2_with fail);(with_reducible refine(hm _ (hw.ext hx)).mono ?_);rintro e w5 ⟨rfl,Ae⟩;replace hx:=hx.trans Ae;go_wp2;go_ret2;exact⟨rfl,hx⟩
 ·have hp:0<q:=(by grind);rw [Abc hp]at hm;have hj:=Ym (q.den:Int) q.num (mo.2 hp) hr.be hr.bm;have hl:0<(R q).length:=(by rw [e];simp);have hg:(R q)[0]'hl=c:=(by rw [List.getElem_of_eq e hl];rfl);have hcb:((c.toNat:Int) == 45)=false:=(by rw [beq_eq_false_iff_ne];intro k;exact hc (UInt8.toNat_inj.1 (by simp;omega)));clear e hc hp hd hr AY;unfold Yo;go_enter Tryz.func178,Tryz.ntmps178;(go_wp2_with fail);(with_reducible refine(pb _ hw).mono ?_);rintro e w1 ⟨rfl,hx⟩;(go_wp2_with fail);(with_reducible refine(hj _).mono ?_);rintro e w4 ⟨rfl,Ag⟩;replace hx:=hx.trans Ag;(go_wp2_with fail);(with_reducible refine(hm _ (hw.ext hx)).mono ?_);rintro e w5 ⟨rfl,Ae⟩;replace hx:=hx.trans Ae;go_wp2;go_ret2;exact⟨rfl,hx⟩
end
theorem AV.of_len{z:Int}{k:Nat}(h:(D z.natAbs).length<=k)(hk:k<=4000):AV z:=AV.of (OV h) hk
section
variable {l n d : Bs}
theorem Aj6(hl:l.length<100000)(hn:(47:UInt8)∉l)(b:Bool)(hb:∀W,Calls Tryz.prog 164 #[S l] W (AI (FY b) W))(w:World)(hw:Am w) :
  Calls Tryz.prog 114 #[S l] w (AI (FY b) w):=by
 have hc:=cut_c l [47] w hw (by omega);rw [ZM hn]at hc
 cases b
 ·rw [Gm]at hb ⊢;go_enter Tryz.func114,Tryz.ntmps114;(go_wp2_with fail);(with_reducible refine hc.mono ?_);rintro e w1 ⟨rfl,hx⟩;(go_wp2_with fail);(with_reducible refine(hb _).mono ?_);rintro e w2 ⟨rfl,hx2⟩;go_wp2;go_ret;exact⟨rfl,hx.trans hx2⟩
 ·rw [Ek]at hb ⊢;go_enter Tryz.func114,Tryz.ntmps114;(go_wp2_with fail);(with_reducible refine hc.mono ?_);rintro e w1 ⟨rfl,hx⟩;(go_wp2_with fail);(with_reducible refine(hb _).mono ?_);rintro e w2 ⟨rfl,hx2⟩;go_wp2;go_ret;exact⟨rfl,hx.trans hx2⟩
theorem Aj5(hl:(n++47::d).length<100000)(hn:(47:UInt8)∉n)(hb:∀W,Calls Tryz.prog 164 #[S n] W (AI 2 W))(w:World)(hw:Am w) :
  Calls Tryz.prog 114 #[S (n++47::d)] w (AI 2 w):=by
 have hc:=cut_c (n++47::d) [47] w hw (by omega);rw [PL hn]at hc;go_enter Tryz.func114,Tryz.ntmps114;(go_wp2_with fail);(with_reducible refine hc.mono ?_);rintro e w1 ⟨rfl,hx⟩;(go_wp2_with fail);(with_reducible refine(hb _).mono ?_);rintro e w2 ⟨rfl,hx2⟩;go_wp2;go_ret;exact⟨rfl,hx.trans hx2⟩
theorem Aj4(hl:(n++47::d).length<100000)(hn:(47:UInt8)∉n)(ha:∀W,Calls Tryz.prog 164 #[S n] W (AI 0 W))(hb:∀W,Calls Tryz.prog 164 #[S d] W (AI 2 W))(w:World)(hw:Am w) :
  Calls Tryz.prog 114 #[S (n++47::d)] w (AI 2 w):=by
 have hc:=cut_c (n++47::d) [47] w hw (by omega);rw [PL hn]at hc;go_enter Tryz.func114,Tryz.ntmps114;(go_wp2_with fail);(with_reducible refine hc.mono ?_);rintro e w1 ⟨rfl,hx⟩;(go_wp2_with fail);(with_reducible refine(ha _).mono ?_);rintro e w2 ⟨rfl,hx2⟩;replace hx:=hx.trans hx2;(go_wp2_with fail);(with_reducible refine(hb _).mono ?_);rintro e w3 ⟨rfl,hx3⟩;replace hx:=hx.trans hx3;go_wp2;go_ret;exact⟨rfl,hx⟩
end
def Mk(a b:Int):Bool:=decide (1<b)&&decide (a≠0)&&decide (Int.gcd a b=1)
theorem Aj2(a b:Int)(Gz:(D a.natAbs).length<=200)(G0:(D b.natAbs).length<=200)(w:World)(hw:Am w) :
  Calls Tryz.prog 114 #[S (I a++47::I b)] w (AI (FY (Mk a b)) w):=by
 have ba:=AV.of_len Gz (by omega);have bb:=AV.of_len G0 (by omega);have l1:=ba.len;have l2:=bb.len;have hc:=cut_c (I a++47::I b) [47] w hw (by rw [List.length_append,List.length_cons];omega);rw [PL (Zj a)]at hc;have ca:=Uk (I a);have cb:=Uk (I b);rw [if_pos ⟨a,rfl,Gz⟩]at ca;rw [if_pos ⟨b,rfl,G0⟩]at cb;have hb1:AV 1:=AV.of (k:=1) (by decide) (by omega);have cp:=iP b 1 bb hb1;rw [RF]at cp;have gc:=jg a b ba bb;have hlen:(I a++47::I b).length<10000:=(by rw [List.length_append,List.length_cons];omega);obtain⟨l,hl⟩:=Ao3 (I a++47::I b);rw [←hl]at hc ⊢;clear hl Gz G0 ba bb hlen;by_cases h1:1<b
 ·rw [ZJ h1]at cp;by_cases h2:a=0
  ·have HV:Hid (FY (Mk a b)=2):=Ao4 (by unfold Mk;rw [decide_eq_false (p:=a≠0) (by simpa using h2)];simp;rfl);have hz:(I a == [48])=true:=(by rw [h2,RG];rfl);clear gc h2;go_enter Tryz.func114,Tryz.ntmps114;(go_wp2_with fail);(with_reducible refine hc.mono ?_);rintro e w1 ⟨rfl,hx⟩;(go_wp2_with fail);(with_reducible refine(ca _).mono ?_);rintro e w2 ⟨rfl,hx2⟩;replace hx:=hx.trans hx2;(go_wp2_with fail);(with_reducible refine(cb _).mono ?_);rintro e w3 ⟨rfl,hx3⟩;replace hx:=hx.trans hx3;(go_wp2_with fail);(with_reducible refine(cp _).mono ?_);rintro e w4 ⟨rfl,Ag⟩;replace hx:=hx.trans Ag;go_wp2;go_ret;exact⟨DJ HV.out,hx⟩
  ·have hz:=RE h2
   have HV:Hid (FY (Mk a b)=if Int.gcd a b=1 then 0 else 2):=Ao4 (by
    unfold Mk;rw [decide_eq_true h1,decide_eq_true (p:=a≠0) h2];by_cases h:Int.gcd a b=1
    ·rw [if_pos h,decide_eq_true h];rfl
    ·rw [if_neg h,decide_eq_false h];rfl)
   by_cases h3:Int.gcd a b=1
   ·rw [if_pos h3]at HV;have hg1:(I (Int.gcd a b:Nat) == [49])=true:=(by rw [h3];rw [show ((1:Nat):Int)=1 from rfl,RF];rfl);clear h3 h2;go_enter Tryz.func114,Tryz.ntmps114;(go_wp2_with fail);(with_reducible refine hc.mono ?_);rintro e w1 ⟨rfl,hx⟩;(go_wp2_with fail);(with_reducible refine(ca _).mono ?_);rintro e w2 ⟨rfl,hx2⟩;replace hx:=hx.trans hx2;(go_wp2_with fail);(with_reducible refine(cb _).mono ?_);rintro e w3 ⟨rfl,hx3⟩;replace hx:=hx.trans hx3;(go_wp2_with fail);(with_reducible refine(cp _).mono ?_);rintro e w4 ⟨rfl,Ag⟩;replace hx:=hx.trans Ag;(go_wp2_with fail);(with_reducible refine(gc _ (hw.ext hx)).mono ?_);rintro e w5 ⟨rfl,Ae⟩;replace hx:=hx.trans Ae;go_wp2;go_ret;exact⟨DJ HV.out,hx⟩
   ·rw [if_neg h3]at HV;have hg1:(I (Int.gcd a b:Nat) == [49])=false:=oD (by omega);clear h3 h2;go_enter Tryz.func114,Tryz.ntmps114;(go_wp2_with fail);(with_reducible refine hc.mono ?_);rintro e w1 ⟨rfl,hx⟩;(go_wp2_with fail);(with_reducible refine(ca _).mono ?_);rintro e w2 ⟨rfl,hx2⟩;replace hx:=hx.trans hx2;(go_wp2_with fail);(with_reducible refine(cb _).mono ?_);rintro e w3 ⟨rfl,hx3⟩;replace hx:=hx.trans hx3;(go_wp2_with fail);(with_reducible refine(cp _).mono ?_);rintro e w4 ⟨rfl,Ag⟩;replace hx:=hx.trans Ag;(go_wp2_with fail);(with_reducible refine(gc _ (hw.ext hx)).mono ?_);rintro e w5 ⟨rfl,Ae⟩;replace hx:=hx.trans Ae;go_wp2;go_ret;exact⟨DJ HV.out,hx⟩
 ·have HV:Hid (FY (Mk a b)=2):=Ao4 (by unfold Mk;rw [decide_eq_false h1];rfl);obtain⟨s,hs,hs0⟩:∃s:Int,s=EC b 1/\s<=0:=⟨_,rfl,by unfold EC;split<;>(try split)<;>omega⟩;rw [←hs]at cp;clear hs gc h1;go_enter Tryz.func114,Tryz.ntmps114;(go_wp2_with fail);(with_reducible refine hc.mono ?_);rintro e w1 ⟨rfl,hx⟩;(go_wp2_with fail);(with_reducible refine(ca _).mono ?_);rintro e w2 ⟨rfl,hx2⟩;replace hx:=hx.trans hx2;(go_wp2_with fail);(with_reducible refine(cb _).mono ?_);rintro e w3 ⟨rfl,hx3⟩;replace hx:=hx.trans hx3;(go_wp2_with fail);(with_reducible refine(cp _).mono ?_);rintro e w4 ⟨rfl,Ag⟩;replace hx:=hx.trans Ag;go_wp2;go_ret;exact⟨DJ HV.out,hx⟩
open Classical in
theorem Ac8(l:Bs):(if KR l then (0:Int)else 2)=FY (decide (KR l)):=by
 by_cases h:KR l
 ·rw [if_pos h,decide_eq_true h];rfl
 ·rw [if_neg h,decide_eq_false h];rfl
open Classical in
theorem Aj3(l:Bs)(hl:l.length<100000)(w:World)(hw:Am w):Calls Tryz.prog 114 #[S l] w (AI (FY (decide (Dj l))) w):=by
 rcases AcX l with⟨n,d,rfl,hn,-⟩|⟨hn,-⟩
 ·have ca:=Uk n;have cb:=Uk d;by_cases h1:KR n
  ·rw [if_pos h1]at ca;by_cases h2:KR d
   ·obtain⟨a,rfl,ha⟩:=h1;obtain⟨b,rfl,hb⟩:=h2;have h:=Aj2 a b ha hb w hw
    have e:Mk a b=decide (Dj (I a++47::I b)):=by
     rw [Bool.eq_iff_iff,decide_eq_true_eq,kD hn];unfold Mk;simp only [Bool.and_eq_true,decide_eq_true_eq];constructor
     ·rintro⟨⟨x1,x2⟩,x3⟩;exact⟨a,b,rfl,rfl,ha,hb,x1,x2,x3⟩
     ·rintro⟨a',b',e1,e2,_,_,x1,x2,x3⟩;obtain rfl:=Pz e1;obtain rfl:=Pz e2;exact⟨⟨x1,x2⟩,x3⟩
    rw [←e];exact h
   ·rw [if_neg h2]at cb
    have e:decide (Dj (n++47::d))=false:=by rw [decide_eq_false_iff_not,kD hn];rintro⟨a,b,_,e2,_,hb,_⟩;exact h2 ⟨b,e2,hb⟩
    rw [e];exact Aj4 hl hn ca cb w hw
  ·rw [if_neg h1]at ca
   have e:decide (Dj (n++47::d))=false:=by rw [decide_eq_false_iff_not,kD hn];rintro⟨a,b,e1,_,ha,_⟩;exact h1 ⟨a,e1,ha⟩
   rw [e];exact Aj5 hl hn ca w hw
 ·have ca:=Uk l;simp only [Ac8]at ca;have e:decide (Dj l)=decide (KR l):=(by rw [Bool.eq_iff_iff,decide_eq_true_eq,decide_eq_true_eq];exact Ai8 hn);rw [e];exact Aj6 hl hn _ ca w hw
structure Af(w:World)(A:Option Addr)(cs:List Value):Prop where
 ad:0<cs.length→∃b o,A=some ⟨b,o,none⟩/\∀j (h:j<cs.length),w.cell? ⟨b,o+j,none⟩=some cs[j]
theorem Af.ext{w w':World}{A:Option Addr}{cs:List Value}(h:Af w A cs)(hx:Ab w w'):Af w' A cs:=
 ⟨fun h0=>by
  obtain⟨b,o,e,hc⟩:=h.ad h0
  exact⟨b,o,e,fun j hj=>hx.cellS (hc j hj)⟩⟩
theorem Af.lit(w:World)(cs:Array Value)(t:TypeId):Af (w.alloc (.cells cs t)) (some ⟨w.heap.size,0,none⟩) cs.toList:=
 ⟨fun _=>⟨w.heap.size,0,rfl,fun j hj=>by
  refine Aa (Ao6 w _) ?_
  rw [Nat.zero_add,←Array.getElem?_toList,AoC hj]⟩⟩
def XX(l:List Bs):Prop:=∀x∈l,Dj x
theorem Aiw{x y:Bs} : XX [x,y]↔Dj x/\Dj y:=by unfold XX;simp
open Classical in
theorem mq(l:List Bs)(ok:Bool)(Ai:ok=true↔XX l)(A:Option Addr)(c:Nat)(w:World)(hw:Am w)(hr:Af w A (l.map S))(_:l.length<=c)(_:c<=9223372036854775807)(hl:l.length<=100000)(hlen:∀x∈l,x.length<100000) :
  Calls Tryz.prog 61 #[.slice A l.length c] w (AI (FY ok) w):=by
 have HV:=Ao4 Ai;have HL:=Ao4 hlen;clear Ai hlen;go_enter Tryz.func61,Tryz.ntmps61;go_wp2
 go_loopw [8] (fun i wr=>∃j:Nat,i=.int .i64 (j:Nat)/\j<=l.length/\(∀x∈l.take j,Dj x)/\Ab w wr) (fun i _=>l.length-(intOf i).toNat)
 case atStart=>exact⟨0,rfl,by omega,by simp,Ab.refl _⟩
 case round=>
  obtain⟨j,rfl,hj,Ai,Ac⟩:=hrel;have HO:=Ao4 Ai;clear Ai;by_cases hlt:j<l.length
  ·obtain⟨b,o,rfl,hcs⟩:=(hr.ext Ac).ad (by simp;omega);have hg:=hcs j (by simp;omega);rw [List.getElem_map]at hg;clear hcs;obtain⟨x,hx⟩:=Ao3 (l[j]);rw [←hx]at hg;have hmem:x∈l:=(by rw [hx];exact Ao8 hlt);have ck:=Aj3 x (HL.out x hmem) wr (hw.ext Ac);have HX:=Ao4 hx;clear hx;have hj0:(0:Int)<=(j:Int):=(by omega);have Bc:(j:Int)<(l.length:Int):=(by omega);by_cases hx:Dj x
   ·rw [decide_eq_true hx,Ek]at ck;(go_wp2_with fail);(with_reducible refine ck.mono ?_);rintro e w2 ⟨rfl,hx2⟩;go_wp2;go_roundw
    case rel=>
     refine⟨j+1,by go_num,hlt,?_,Ac.trans hx2⟩;intro y hy;rw [AoA hlt,←HX.out]at hy
     rcases List.mem_append.1 hy with h|h
     ·exact HO.out y h
     ·simp only [AoJ]at h;rw [h];exact hx
    case measure=>simp [intOf];omega
   ·rw [decide_eq_false hx,Gm]at ck
    have hv:ok=false:=by
     cases ok
     ·rfl
     ·exact absurd (HV.out.1 rfl x hmem) hx
    subst hv;rw [Gm];(go_wp2_with fail);(with_reducible refine ck.mono ?_);rintro e w2 ⟨rfl,hx2⟩;go_wp2;go_ret;exact⟨rfl,Ac.trans hx2⟩
  ·have hv:ok=true:=HV.out.2 (by
    have:=HO.out
    rwa [AoF (by omega)]at this)
   subst hv;rw [Ek];go_wp2;go_ret;exact⟨rfl,Ac⟩
theorem GF(x y:Bs)(ok:Bool)(Ai:ok=true↔Dj x/\Dj y)(hx:x.length<100000)(hy:y.length<100000)(w:World)(hw:Am w) :
  Calls Tryz.prog 32 #[.agg #[S x,S y]] w (AI (FY ok) w):=by
 have e1:=(Ab.refl w).alloc (.cells #[S x,S y] 24);have e2:=e1.alloc (.cells #[S x,S y] 22);have hr:=Af.lit (w.alloc (.cells #[S x,S y] 24)) #[S x,S y] 22;have nm:=mq [x,y] ok (by rw [Ai,Aiw]) _ 2 _ (hw.ext e2) hr (by simp) (by omega) (by simp) (by intro z hz;simp only [List.mem_cons,AoI,or_false]at hz;rcases hz with rfl|rfl<;>assumption);simp only [List.length_cons,List.length_nil,Nat.zero_add,Nat.reduceAdd,AoE]at nm;clear hr Ai;go_enter Tryz.func32,Tryz.ntmps32;(go_wp2_with fail);(with_reducible refine nm.mono ?_);rintro e w2 ⟨rfl,hx2⟩;go_wp2;go_ret;exact⟨rfl,e2.trans hx2⟩
def flat(l:List (Bs×Bs)):List Value:=l.flatMap fun p=>[S p.1,S p.2]
theorem flat_length(l:List (Bs×Bs)):(flat l).length=l.length*2:=by
 induction l with
 | nil=>rfl
 | cons p l ih=>unfold flat at *;simp only [List.flatMap_cons,List.length_append,List.length_cons,List.length_nil];omega
theorem flat_get:∀(l:List (Bs×Bs)) (j:Nat) (h:j<l.length),(flat l)[j*2]?=some (S l[j].1)/\(flat l)[j*2+1]?=some (S l[j].2)
 | p::l,0,_=>⟨rfl,rfl⟩
 | p::l,j+1,h=>by have ih:=flat_get l j (by simpa using h);have e:flat (p::l)=S p.1::S p.2::flat l:=rfl;rw [e,show (j+1)*2=j*2+1+1 by omega];exact ih
end Go.Proofs.YtnddllipjippnaaGreatDoor
namespace Go.Proofs.YtnddllipjippnaaGreatDoor
section
open Go.RowKit Kl
theorem Oe(w:World)(o1 o2 o3:Obj):∃W,W=((w.alloc o1).alloc o2).alloc o3/\Ab w W/\W.heap[w.heap.size]?=some o1/\W.heap[w.heap.size+1]?=some o2/\W.heap[w.heap.size+1+1]?=some o3:=by
 have h2:=Ao6 (w.alloc o1) o2;have h3:=Ao6 ((w.alloc o1).alloc o2) o3;rw [AoE]at h2;rw [AoE,AoE]at h3;refine⟨_,rfl,(((Ab.refl _).alloc _).alloc _).alloc _,?_,?_,h3⟩
 ·exact(Below.heap_alloc _ _ _ (by simp;omega)).trans ((Below.heap_alloc _ _ _ (by simp)).trans (Ao6 w o1))
 ·exact(Below.heap_alloc _ _ _ (by simp)).trans h2
theorem set2{w:World}{b:Nat}{a0 a1:Value}(v0 v1:Value)(g1:w.cell? ⟨b,0,none⟩=some a0)(g2:w.cell? ⟨b,1,none⟩=some a1) :
  ((w.setCell ⟨b,0,none⟩ v0).setCell ⟨b,1,none⟩ v1).cell? ⟨b,0,none⟩=some v0/\((w.setCell ⟨b,0,none⟩ v0).setCell ⟨b,1,none⟩ v1).cell? ⟨b,1,none⟩=some v1:=by
 refine⟨(World.cell?_setCell_other _ _ _ _ (by simp)).trans (World.cell?_setCell_same _ _ _ g1),?_⟩;exact World.cell?_setCell_same _ _ _ ((World.cell?_setCell_other _ _ _ _ (by simp)).trans g2)
def Ak(p:Pt):Value:=.agg #[S (R p.x),S (R p.y)]
def AC(s:Sg):Value:=.agg #[S (R s.a.x),S (R s.a.y),S (R s.b.x),S (R s.b.y)]
structure Az(k:Nat)(p:Pt):Prop where
 x:Sz k p.x
 y:Sz k p.y
structure EP(k:Nat)(s:Sg):Prop where
 a:Az k s.a
 b:Az k s.b
theorem vn{i j m:Nat}{x y k:Rat}(hx:Sz i x)(hy:Sz j y)(hk:Sz m k):Sz (2*i+j+m+2) (KH x y k):=
 (hx.add (hk.mul (hy.sub hx))).mono (by omega)
end
section
open Go.RowKit Kl
structure JH(W:World)(b:Nat)(p:Pt):Prop where
 k1:W.cell? ⟨b,0,none⟩=some (S (R p.x))
 k2:W.cell? ⟨b,1,none⟩=some (S (R p.y))
theorem JH.ext{W V:World}{b:Nat}{p:Pt}(h:JH W b p)(hx:Ab W V):JH V b p:=⟨hx.cellS h.k1,hx.cellS h.k2⟩
end
section
open Go.RowKit Kl
theorem LX{q:Rat}{k:Nat}(h:Sz k q)(hk:0<k)(hk2:k<=200):Dj (R q):=
 ⟨q,rfl,AoH (GA hk h.num) hk2,AoH (GA hk h.den) hk2⟩
theorem Rj{q:Rat}{k:Nat}(h:Sz k q)(hk:0<k)(hk2:k<=40000):(R q).length<100000:=by have:=MC hk h;omega
def Ma(p:Pt):Bs×Bs:=(R p.x,R p.y)
end
section
open Go.RowKit Kl
theorem PD{w:World}{b:Nat}{a0 a1 a2 a3:Value}{t:TypeId}(v0 v1 v2 v3:Value)(h:w.heap[b]?=some (.cells #[a0,a1,a2,a3] t)) :
  ((((w.setCell ⟨b,0,none⟩ v0).setCell ⟨b,1,none⟩ v1).setCell ⟨b,2,none⟩ v2).setCell ⟨b,3,none⟩ v3).heap[b]?=some (.cells #[v0,v1,v2,v3] t):=by
 simp only [World.setCell,Array.getElem?_modify,h];simp
end
section
open Go.RowKit Kl
theorem qG{w:World}{b:Nat}{a0 a1:Value}{t:TypeId}(v0 v1:Value)(h:w.heap[b]?=some (.cells #[a0,a1] t)) :
  ((w.setCell ⟨b,0,none⟩ v0).setCell ⟨b,1,none⟩ v1).heap[b]?=some (.cells #[v0,v1] t):=by
 simp only [World.setCell,Array.getElem?_modify,h];simp
end
section
open Go.RowKit Kl
theorem q8(z:Int)(h0:-9223372036854775808<=z)(h1:z<=9223372036854775807)(w:World)(hw:Am w):Calls Tryz.prog 109 #[.int .i64 z] w (By (I z) w):=by
 have hi:=QB z h0 h1 w hw;clear h0 h1;go_enter Tryz.func109,Tryz.ntmps109;(go_wp2_with fail);(with_reducible refine hi.mono ?_);rintro e w1 ⟨rfl,hx1⟩;go_wp2;go_ret;exact⟨rfl,hx1⟩
structure Low(n:Int)(d g:Nat)(n':Int)(d':Nat):Prop where
 R:R (mkRat n d)=Fz n' d'
 e1:n.tdiv (g:Int)=n'
 e2:(d:Int)/(g:Int)=(d':Int)
 g0:0<g
 gd:g<=d
 b1:n'.natAbs<=n.natAbs
 b2:d'<=d
theorem AhJ(n:Int){d:Nat}(hd:0<d):∃n' d',Low n d (Nat.gcd n.natAbs d) n' d':=by
 have hgn:((Nat.gcd n.natAbs d:Nat):Int)∣n:=Int.natAbs_dvd_natAbs.1 (by rw [Ao9];exact Nat.gcd_dvd_left ..);refine⟨n/(Nat.gcd n.natAbs d:Nat),d/Nat.gcd n.natAbs d,Zo n hd,Int.tdiv_eq_ediv_of_dvd hgn,by simp,Nat.gcd_pos_of_pos_right _ hd,Nat.gcd_le_right _ hd,Uu _ _ hgn,Nat.div_le_self _ _⟩
theorem AjL(n:Int)(d:Nat)(hd:0<d)(Jy:-9000000000000000000<=n)(Cf:n<=9000000000000000000)(Fa:d<=9000000000000000000)(w:World)(hw:Am w) :
  Calls Tryz.prog 156 #[S (I n),S (I (d:Int))] w (By (R (mkRat n d)) w):=by
 obtain⟨n',d',TF⟩:=AhJ n hd;obtain⟨g,hg⟩:=Ao3 (Nat.gcd n.natAbs d);rw [←hg]at TF;obtain⟨hR,e1,e2,hg0,hgd,b1,b2⟩:=TF;have ln:(I n').length<=20:=NX (z:=n') (k:=19) (by omega) (by omega);have ld:(D d').length<=19:=GA (by omega) (by omega);have Z4:=Z5 n (by omega) (by omega);have at2:=Z5 (d:Int) (by omega) (by omega);have HR:=Ao4 hR;have HG:=Ao4 hg;have H1:=Ao4 e1;have H2:=Ao4 e2;have i1:=fun W hW=>QB n' (by omega) (by omega) W hW;have i2:=fun W hW=>QB (d':Int) (by omega) (by omega) W hW;rw [EN]at i2;obtain⟨na,au⟩:=Ao3 (n.natAbs:Nat);have AfJ:na<=9000000000000000000:=(by omega);have YU:=Ao4 au;clear hR hg e1 e2 au;by_cases Nv:n<0
 case' pos=>have AfL:-n=(na:Int):=(by have:=YU.out;omega);go_enter Tryz.func156,Tryz.ntmps156;(go_wp2_with fail);(with_reducible refine(Z4 _).mono ?_);rintro e w1 ⟨rfl,hx⟩;(go_wp2_with fail);(with_reducible refine(at2 _).mono ?_);rintro e w2 ⟨rfl,hx2⟩;have hE:=hx.trans hx2;go_wp2;clear AfL
 case' neg=>obtain⟨m,hm⟩:=Int.eq_ofNat_of_zero_le (show 0<=n by omega);obtain rfl:m=na:=(by have:=YU.out;omega);subst hm;go_enter Tryz.func156,Tryz.ntmps156;(go_wp2_with fail);(with_reducible refine(Z4 _).mono ?_);rintro e w1 ⟨rfl,hx⟩;(go_wp2_with fail);(with_reducible refine(at2 _).mono ?_);rintro e w2 ⟨rfl,hx2⟩;have hE:=hx.trans hx2;go_wp2
 all_goals
  clear Z4 at2 hx hx2
  go_loopw [9,10] (fun x y wr=>∃a b:Nat,x=.int .i64 (a:Nat)/\y=.int .i64 (b:Nat)/\Nat.gcd a b=g/\a<=9000000000000000000/\b<=9000000000000000000/\Ab w wr) (fun _ y _=>(intOf y).natAbs)
  case atStart=>exact⟨_,d,rfl,rfl,by rw [HG.out,←YU.out],AfJ,Fa,hE⟩
  case round=>
   obtain⟨a,b,rfl,rfl,GU,ha,hb,Ac⟩:=hrel;by_cases hb0:b=0
   ·subst hb0;obtain rfl:a=g:=(by rw [←GU];simp);clear GU;have e1:=H1.out;have e2:=H2.out;have Nm:(0:Int)<(a:Int):=(by omega);have hgz:((a:Int) == 0)=false:=(by rw [beq_eq_false_iff_ne];omega);by_cases GW:d'=1
    ·subst GW;have HF:Hid (R (mkRat _ d)=I n'):=Ao4 (by rw [HR.out];rfl);(go_wp2_with fail)
     go_quiet (fail)
     (go_wp2_with fail);(with_reducible refine(i1 _ (hw.ext (Ac.drewN _))).mono ?_);rintro e w3 ⟨rfl,hx3⟩;go_wp2;go_ret;exact⟨IO (by rw [HF.out]),(Ac.drewN _).trans hx3⟩
    ·have HF:Hid (R (mkRat _ d)=I n'++47::D d'):=Ao4 (by rw [HR.out];exact if_neg GW);have yM:((d':Int) == 1)=false:=(by rw [beq_eq_false_iff_ne];omega);clear GW;(go_wp2_with fail)
     go_quiet (fail)
     (go_wp2_with fail);(with_reducible refine(i1 _ (hw.ext (Ac.drewN _))).mono ?_);rintro e w3 ⟨rfl,hx3⟩;have hx3:=(Ac.drewN _).trans hx3;(go_wp2_with fail);(with_reducible refine(i2 _ (hw.ext hx3)).mono ?_);rintro e w4 ⟨rfl,Ag⟩;go_wp2;go_ret;exact⟨IO (by rw [HF.out];apply ByteArray.ext;simp),hx3.trans Ag⟩
   ·have hlt:a%b<b:=Nat.mod_lt _ (by omega);have Tk:((b:Int) != 0)=true:=(by rw [bne_iff_ne];omega);have AB:((b:Int) == 0)=false:=(by rw [beq_eq_false_iff_ne];omega);have Au:(0:Int)<(b:Int):=(by omega);have Mz:Hid (Nat.gcd b (a%b)=g):=Ao4 (by rw [←GU,Nat.gcd_comm b,←Nat.gcd_rec,Nat.gcd_comm]);clear GU;(go_wp2_with fail)
    go_quiet (fail)
    go_wp2;go_roundw
    case rel=>exact⟨b,a%b,rfl,by go_num,Mz.out,hb,by omega,Ac.drewN _⟩
    case measure=>simp [intOf];omega
end
section
open Go.RowKit Kl
theorem AjK(n:Int)(d:Nat)(hd:0<d)(l1:(I n).length<=9)(l2:(I (d:Int)).length<=9)(w:World)(hw:Am w) :
  Calls Tryz.prog 108 #[S (I n),S (I (d:Int))] w (By (R (mkRat n d)) w):=by
 have b1:=NK l1;have b2:=NK l2;have e9:(10:Nat)^9=1000000000:=(by decide);rw [e9]at b1 b2;have sm:=AjL n d hd (by omega) (by omega) (by omega);have i1:decide (((I n).length:Int)<=9)=true:=(by rw [decide_eq_true_eq];omega);have i2:decide (((I (d:Int)).length:Int)<=9)=true:=(by rw [decide_eq_true_eq];omega);have l1':((I n).length:Int)<=9:=(by omega);have l2':((I (d:Int)).length:Int)<=9:=(by omega);clear b1 b2 e9 hd l1 l2;go_enter Tryz.func108,Tryz.ntmps108;(go_wp2_with fail);(with_reducible refine(sm _ hw).mono ?_);rintro e w3 ⟨rfl,hx3⟩;go_wp2;go_ret;exact⟨rfl,hx3⟩
theorem q9(n:Int)(d:Nat)(hd:0<d)(h1:n.natAbs<10000000)(h2:d<10000000)(w:World)(hw:Am w) :
  Calls Tryz.prog 54 #[.int .i64 n,.int .i64 (d:Nat)] w (By (R (mkRat n d)) w):=by
 have e7:(10:Nat)^7=10000000:=(by decide);have l1:(I n).length<=9:=AoH (NX (k:=7) (by omega) (by omega)) (by omega);have l2:(I (d:Int)).length<=9:=AoH (NX (z:=(d:Int)) (k:=7) (by omega) (by rw [Ao9];omega)) (by omega);have o1:=q8 n (by omega) (by omega);have o2:=q8 (d:Int) (by omega) (by omega);have fr:=AjK n d hd l1 l2;clear e7 l1 l2 hd h1 h2;go_enter Tryz.func54,Tryz.ntmps54;(go_wp2_with fail);(with_reducible refine(o1 _ hw).mono ?_);rintro e w1 ⟨rfl,hx⟩;(go_wp2_with fail);(with_reducible refine(o2 _ (hw.ext hx)).mono ?_);rintro e w2 ⟨rfl,hx2⟩;replace hx:=hx.trans hx2;(go_wp2_with fail);(with_reducible refine(fr _ (hw.ext hx)).mono ?_);rintro e w3 ⟨rfl,hx3⟩;go_wp2;go_ret;exact⟨rfl,hx.trans hx3⟩
end
section
open Go.RowKit Kl
theorem ll(x:Int):mkRat x 1=(x:Rat):=by
 apply Rat.ext
 ·rw [Rat.num_mkRat];simp
 ·rw [Rat.den_mkRat];simp
end
section
open Go.RowKit Kl
def Ar(a b c:Pt):Rat:=(b.x-a.x)*(c.y-a.y)-(b.y-a.y)*(c.x-a.x)
theorem pO(a b c:Pt){k:Nat}(ha:Az k a)(hb:Az k b)(hc:Az k c)(hk:0<k)(hk2:k<=400)(w:World)(hw:Am w) :
  Calls Tryz.prog 133 #[Ak a,Ak b,Ak c] w (By (R (Ar a b c)) w):=by
 have s1:=Hi b.x a.x (a:=k) (b:=k) ⟨hb.x,ha.x,hk,hk,by omega⟩;have s2:=Hi b.y a.y (a:=k) (b:=k) ⟨hb.y,ha.y,hk,hk,by omega⟩;have s3:=Hi c.x a.x (a:=k) (b:=k) ⟨hc.x,ha.x,hk,hk,by omega⟩;have s4:=Hi c.y a.y (a:=k) (b:=k) ⟨hc.y,ha.y,hk,hk,by omega⟩;have m1:=Pe (b.x-a.x) (c.y-a.y) (a:=k+k+1) (b:=k+k+1) ⟨hb.x.sub ha.x,hc.y.sub ha.y,by omega,by omega,by omega⟩;have m2:=Pe (b.y-a.y) (c.x-a.x) (a:=k+k+1) (b:=k+k+1) ⟨hb.y.sub ha.y,hc.x.sub ha.x,by omega,by omega,by omega⟩;have sb:=Hi ((b.x-a.x)*(c.y-a.y)) ((b.y-a.y)*(c.x-a.x)) (a:=k+k+1+(k+k+1)) (b:=k+k+1+(k+k+1)) ⟨(hb.x.sub ha.x).mul (hc.y.sub ha.y),(hb.y.sub ha.y).mul (hc.x.sub ha.x),by omega,by omega,by omega⟩;have e:Ar a b c=(b.x-a.x)*(c.y-a.y)-(b.y-a.y)*(c.x-a.x):=rfl;rw [←e]at sb;obtain⟨r,hr⟩:=Ao3 (Ar a b c);rw [←hr]at sb ⊢;unfold Ak;clear ha hb hc e hr;go_enter Tryz.func133,Tryz.ntmps133;(go_wp2_with fail);obtain⟨W,hW,hE,hb1,hb2,hb3⟩:=Oe w (.cells #[S (R a.x),S (R a.y)] 24) (.cells #[S (R b.x),S (R b.y)] 24) (.cells #[S (R c.x),S (R c.y)] 24);rw [←hW];clear hW;have hA:JH W w.heap.size a:=⟨Aa hb1 rfl,Aa hb1 rfl⟩;have hB:JH W (w.heap.size+1) b:=⟨Aa hb2 rfl,Aa hb2 rfl⟩;have hC:JH W (w.heap.size+1+1) c:=⟨Aa hb3 rfl,Aa hb3 rfl⟩;clear hb1 hb2 hb3;have H9:=(Ab.refl W).drew;have GL:=hE.drew;obtain⟨k1,k2⟩:=hA;obtain⟨k3,k4⟩:=hB;have hA:=JH.mk k1 k2;have hB:=JH.mk k3 k4
 go_region_held3 (fun w'=>w'.cell? ⟨w.heap.size,0,none⟩=some (S (R a.x))/\w'.cell? ⟨w.heap.size,1,none⟩=some (S (R a.y))/\w'.cell? ⟨w.heap.size+1,0,none⟩=some (S (R b.x))/\w'.cell? ⟨w.heap.size+1,1,none⟩=some (S (R b.y)))
  (go_keep)
  (first|((with_reducible refine(s1 _ (hw.ext GL)).mono ?_);rintro e w1 ⟨rfl,hx1⟩;obtain⟨q1,q2⟩:=hA.ext (H9.trans hx1);obtain⟨q3,q4⟩:=hB.ext (H9.trans hx1))|((with_reducible refine(s2 _ (hw.ext (GL.trans hx1))).mono ?_);rintro e w2 ⟨rfl,hx2⟩;obtain⟨t1,t2⟩:=hA.ext (H9.trans (hx1.trans hx2));obtain⟨t3,t4⟩:=hB.ext (H9.trans (hx1.trans hx2))))
 have hV:=H9.trans (hx1.trans hx2);replace hE:=hE.trans hV;replace hA:=hA.ext hV;replace hC:=hC.ext hV;clear H9 GL hx1 hx2 k1 k2 k3 k4 q1 q2 q3 q4 t1 t2 t3 t4 hV hB s1 s2;have H9:=(Ab.refl w2).drew;have GL:=hE.drew;obtain⟨k1,k2⟩:=hA;obtain⟨k3,k4⟩:=hC;have hA:=JH.mk k1 k2;have hC:=JH.mk k3 k4;(go_wp2_with fail)
 go_region_held3 (fun w'=>w'.cell? ⟨w.heap.size,0,none⟩=some (S (R a.x))/\w'.cell? ⟨w.heap.size,1,none⟩=some (S (R a.y))/\w'.cell? ⟨w.heap.size+1+1,0,none⟩=some (S (R c.x))/\w'.cell? ⟨w.heap.size+1+1,1,none⟩=some (S (R c.y)))
  (go_keep)
  (first|((with_reducible refine(s3 _ (hw.ext GL)).mono ?_);rintro e w3 ⟨rfl,hx1⟩;obtain⟨q1,q2⟩:=hA.ext (H9.trans hx1);obtain⟨q3,q4⟩:=hC.ext (H9.trans hx1))|((with_reducible refine(s4 _ (hw.ext (GL.trans hx1))).mono ?_);rintro e w4 ⟨rfl,hx2⟩;obtain⟨t1,t2⟩:=hA.ext (H9.trans (hx1.trans hx2));obtain⟨t3,t4⟩:=hC.ext (H9.trans (hx1.trans hx2))))
 replace hE:=hE.trans (H9.trans (hx1.trans hx2));clear hA hC H9 GL hx1 hx2 k1 k2 k3 k4 q1 q2 q3 q4 t1 t2 t3 t4 s3 s4;(go_wp2_with fail);(with_reducible refine(m1 _ (hw.ext hE)).mono ?_);rintro e w5 ⟨rfl,hx⟩;replace hE:=hE.trans hx;(go_wp2_with fail);(with_reducible refine(m2 _ (hw.ext hE)).mono ?_);rintro e w6 ⟨rfl,hx2⟩;replace hE:=hE.trans hx2;(go_wp2_with fail);(with_reducible refine(sb _ (hw.ext hE)).mono ?_);rintro e w7 ⟨rfl,hx3⟩;replace hE:=hE.trans hx3;go_wp2;go_ret;exact⟨rfl,hE⟩
theorem Al2(a b c:Pt){k:Nat}(ha:Az k a)(hb:Az k b)(hc:Az k c)(hk:0<k)(hk2:k<=400)(w:World)(hw:Am w) :
  Calls Tryz.prog 127 #[Ak a,Ak b,Ak c] w (AI (AZ (Ar a b c)) w):=by
 have ar:=pO a b c ha hb hc hk hk2;have sg:=Ra (Ar a b c);have hE:=(((Ab.refl w).alloc (.cells #[S (R a.x),S (R a.y)] 24)).alloc (.cells #[S (R b.x),S (R b.y)] 24)).alloc (.cells #[S (R c.x),S (R c.y)] 24);unfold Ak at ar ⊢;clear ha hb hc;go_enter Tryz.func127,Tryz.ntmps127;(go_wp2_with fail);(with_reducible refine(ar _ (hw.ext hE)).mono ?_);rintro e w1 ⟨rfl,hx⟩;(go_wp2_with fail);(with_reducible refine(sg _).mono ?_);rintro e w2 ⟨rfl,hx2⟩;go_wp2;go_ret;exact⟨rfl,hE.trans (hx.trans hx2)⟩
def Bq(a b:Pt):Int:=if Bo a.x b.x≠0 then Bo a.x b.x else Bo a.y b.y
theorem Ah7(a b:Pt){k:Nat}(ha:Az k a)(hb:Az k b)(hk:0<k)(hk2:k<=400)(w:World)(hw:Am w) :
  Calls Tryz.prog 128 #[Ak a,Ak b] w (AI (Bq a b) w):=by
 have c1:=K2 a.x b.x (a:=k) (b:=k) ⟨ha.x,hb.x,hk,hk,by omega⟩;have c2:=K2 a.y b.y (a:=k) (b:=k) ⟨ha.y,hb.y,hk,hk,by omega⟩;have hE:=((Ab.refl w).alloc (.cells #[S (R a.x),S (R a.y)] 24)).alloc (.cells #[S (R b.x),S (R b.y)] 24);obtain⟨r,hr⟩:=Ao3 (Bq a b);rw [←hr]
 have hA:(w.alloc (.cells #[S (R a.x),S (R a.y)] 24)).alloc (.cells #[S (R b.x),S (R b.y)] 24) |>.heap[w.heap.size]?=some (.cells #[S (R a.x),S (R a.y)] 24):=(Below.heap_alloc _ _ _ (by simp)).trans (Ao6 w _)
 have hB:=Ao6 (w.alloc (.cells #[S (R a.x),S (R a.y)] 24)) (.cells #[S (R b.x),S (R b.y)] 24);rw [AoE]at hB;obtain⟨x,hx0⟩:=Ao3 (Bo a.x b.x)
 have LK:r=if x≠0 then x else Bo a.y b.y:=by rw [hr,hx0];rfl
 rw [←hx0]at c1;unfold Ak;clear ha hb hr hx0;by_cases h:x=0
 ·subst h;replace LK:r=Bo a.y b.y:=(by rw [LK];rfl);simp only [←LK]at c2;clear LK;go_enter Tryz.func128,Tryz.ntmps128;(go_wp2_with fail);(with_reducible refine(c1 _ (hw.ext hE)).mono ?_);rintro e w1 ⟨rfl,hx⟩;replace hE:=hE.trans hx;replace hA:=(hx.block _ (Ao5 hA)).trans hA;replace hB:=(hx.block _ (Ao5 hB)).trans hB;have k1:=Aa (o:=1) hA rfl;have k2:=Aa (o:=1) hB rfl;(go_wp2_with fail);(with_reducible refine(c2 _ (hw.ext hE)).mono ?_);rintro e w2 ⟨rfl,hx2⟩;go_wp2;go_ret;exact⟨rfl,hE.trans hx2⟩
 ·replace LK:r=x:=(by rw [LK,if_pos h]);have hne:(x != 0)=true:=(by rw [bne_iff_ne];exact h);subst LK;clear c2 h;go_enter Tryz.func128,Tryz.ntmps128;(go_wp2_with fail);(with_reducible refine(c1 _ (hw.ext hE)).mono ?_);rintro e w1 ⟨rfl,hx⟩;go_wp2;go_ret;exact⟨rfl,hE.trans hx⟩
end
section
open Go.RowKit Kl
def Aq(l:List Pt):List (Bs×Bs):=l.map Ma
theorem Co{w:World}{A:Option Addr}{l:List Pt}(hr:Af w A (flat (Aq l))){j:Nat}(h:j<l.length):∃b o,A=some ⟨b,o,none⟩/\w.cell? ⟨b,o+j*2,none⟩=some (S (R l[j].x))/\w.cell? ⟨b,o+j*2+1,none⟩=some (S (R l[j].y)):=by
 have hl:(Aq l).length=l.length:=(by simp [Aq]);obtain⟨b,o,e,hcs⟩:=hr.ad (by rw [flat_length];omega);obtain⟨f1,f2⟩:=flat_get (Aq l) j (by omega);have hg1:=hcs (j*2) (by rw [flat_length];omega);have hg2:=hcs (j*2+1) (by rw [flat_length];omega);rw [AoC (by rw [flat_length];omega),AoB]at f1 f2;rw [f1]at hg1;rw [f2,←Nat.add_assoc]at hg2;have e2:(Aq l)[j]'(by omega)=Ma l[j]:=(by simp [Aq]);rw [e2]at hg1 hg2;exact⟨b,o,e,hg1,hg2⟩
structure Oa(l:List Pt):Prop where
 n3:3<=l.length
 n60:l.length<=60
 turn:∀(i n:Nat) (hi:i<l.length) (hn:n<l.length),n≠i→n≠(i+1)%l.length→0<Ar l[i] (l[(i+1)%l.length]'(Nat.mod_lt _ (by omega))) l[n]
 less:∀(n:Nat) (h:n+1<l.length),¬Bq l[n+1] (l[0]'(by omega))<0
theorem kR(l:List Pt)(hp:Oa l){k:Nat}(hz:∀p∈l,Az k p)(hk:0<k)(hk2:k<=200)(A:Option Addr)(c:Nat)(w:World)(hw:Am w)(hr:Af w A (flat (Aq l)))(hc:l.length<=c)(_:c<=9223372036854775807) :
  Calls Tryz.prog 79 #[.slice A l.length c] w (AI 0 w):=by
 obtain⟨h3,h60,hturn,zW⟩:=hp;have HT:=Ao4 hturn;have HL:=Ao4 zW;have HZ:=Ao4 hz;clear hturn zW hz;go_enter Tryz.func79,Tryz.ntmps79;go_wp2
 go_loopw [21] (fun i wr=>∃j:Nat,i=.int .i64 (j:Nat)/\j<=l.length/\Ab w wr) (fun i _=>l.length-(intOf i).toNat)
 case atStart=>exact⟨0,rfl,by omega,Ab.refl _⟩
 case round=>
  obtain⟨j,rfl,hj,Ac⟩:=hrel;by_cases hlt:j<l.length
  ·obtain⟨b,o,rfl,hg1,hg2⟩:=Co (hr.ext Ac) hlt;have LP:=HZ.out l[j] (Ao8 hlt);obtain⟨p,hp⟩:=Ao3 (l[j]);rw [←hp]at hg1 hg2 LP;have hx1:=Ac.alloc (.cells #[S (R p.x),S (R p.y)] 24);have ck:=GF (R p.x) (R p.y) true (by simp only [true_iff];exact⟨LX LP.x hk hk2,LX LP.y hk hk2⟩) (Rj LP.x hk (by omega)) (Rj LP.y hk (by omega)) _ (hw.ext hx1);rw [Ek]at ck;have hj0:(0:Int)<=(j:Int):=(by omega);have Bc:(j:Int)<(l.length:Int):=(by omega);clear hp LP;(go_wp2_with fail);(with_reducible refine ck.mono ?_);rintro e w2 ⟨rfl,hx2⟩;go_wp2;go_roundw
   case rel=>exact⟨j+1,by go_num,hlt,hx1.trans hx2⟩
   case measure=>simp [intOf];omega
  ·have hle:(l.length:Int)<=(j:Int):=(by omega);have hd:decide (j<l.length)=false:=(by simp [hlt]);have C2:decide ((j:Int)<(l.length:Int))=false:=(by simp;omega);clear hlt;go_wp2
   (try first|simp only [hd]|simp only [C2])
   clear hle hd C2
   go_loopw [33] (fun i wr=>∃i':Nat,i=.int .i64 (i':Nat)/\i'<=l.length/\Ab w wr) (fun i _=>l.length-(intOf i).toNat)
   case atStart=>exact⟨0,rfl,by omega,Ac⟩
   case round=>
    obtain⟨i,rfl,hi,Ty⟩:=hrel;by_cases hlt:i<l.length
    ·obtain⟨b,o,rfl,hg1,hg2⟩:=Co (hr.ext Ty) hlt;obtain⟨kk,CO⟩:=Ao3 ((i+1)%l.length);have Ce:kk<l.length:=(by rw [CO];exact Nat.mod_lt _ (by omega));have LD:((i:Int)+1)%(l.length:Int)=(kk:Int):=(by rw [CO];simp);obtain⟨pa,Gd⟩:=Ao3 (l[i]);have Q9:=HZ.out l[i] (Ao8 hlt);rw [←Gd]at hg1 hg2 Q9;have Kh:(0:Int)<=(i:Int):=(by omega);have Nq:(i:Int)<(l.length:Int):=(by omega);have hx1:=Ty.alloc (.cells #[S (R pa.x),S (R pa.y)] 24);have Av:=Ao6 wr (.cells #[S (R pa.x),S (R pa.y)] 24);have nG:=Ao4 CO;have EM:=Ao4 Gd;clear CO Gd;go_wp2;rw [LD];clear LD hg1 hg2;generalize wr.alloc (.cells #[S (R pa.x),S (R pa.y)] 24)=V at *;obtain⟨ba,xI⟩:=Ao3 wr.heap.size;rw [←xI]at Av ⊢;clear xI Ty
     go_loopw [45] (fun i wr=>∃n:Nat,i=.int .i64 (n:Nat)/\n<=l.length/\Ab V wr) (fun i _=>l.length-(intOf i).toNat)
     case atStart=>exact⟨0,rfl,by omega,Ab.refl _⟩
     case round=>
      obtain⟨n,rfl,hn,Kf⟩:=hrel;by_cases LG:n<l.length
      ·obtain⟨_,_,e1,hg1,hg2⟩:=Co (hr.ext (hx1.trans Kf)) LG;obtain⟨_,_,e2,hg3,hg4⟩:=Co (hr.ext (hx1.trans Kf)) Ce;simp only [AoB,Addr.mk.injEq,and_true]at e1 e2;obtain⟨rfl,rfl⟩:=e1;obtain⟨e2,e3⟩:=e2;subst e2 e3;obtain⟨px,ON⟩:=Ao3 (l[n]);obtain⟨pk,LJ⟩:=Ao3 (l[kk]);have LQ:=HZ.out l[n] (Ao8 LG);have iO:=HZ.out l[kk] (Ao8 Ce);rw [←ON]at hg1 hg2 LQ;rw [←LJ]at hg3 hg4 iO;have M4:=Ao4 ON;have HPK:=Ao4 LJ;clear ON LJ;have Tj:=(Kf.block _ (Ao5 Av)).trans Av;have DZ:=Kf.alloc (.cells #[S (R px.x),S (R px.y)] 24);have As:=Ao6 wr (.cells #[S (R px.x),S (R px.y)] 24);have Gc:(0:Int)<=(n:Int):=(by omega);have hnl:(n:Int)<(l.length:Int):=(by omega);have hk0:(0:Int)<=(kk:Int):=(by omega);have Anu:(kk:Int)<(l.length:Int):=(by omega);have hxx:=(Ab.refl wr).alloc (.cells #[S (R px.x),S (R px.y)] 24);replace Tj:=(hxx.block _ (Ao5 Tj)).trans Tj;have hg3':=hxx.cellS hg3;have eI:=hxx.cellS hg4
       go_upto_region 19 with fail
       clear hg1 hg2 hg3 hg4;generalize wr.alloc (.cells #[S (R px.x),S (R px.y)] 24)=U at *;obtain⟨bx,Nk⟩:=Ao3 wr.heap.size;rw [←Nk]at As ⊢;clear Nk hxx;by_cases If:n=i
       ·have t1:((n:Int) != (i:Int))=false:=(by rw [If];simp);clear If
        go_quiet (fail)
        go_wp2;go_roundw
        case rel=>exact⟨n+1,by go_num,LG,DZ.drewN _⟩
        case measure=>simp [intOf];omega
       ·have t1:((n:Int) != (i:Int))=true:=(by rw [bne_iff_ne];omega);have t1n:(n != i)=true:=(by rw [bne_iff_ne];exact If);have t1e:(n == i)=false:=(by rw [beq_eq_false_iff_ne];exact If);by_cases OL:n=kk
        ·have t2n:(n != kk)=false:=(by rw [OL];simp);have t2:((n:Int) != (kk:Int))=false:=(by rw [OL];simp);clear OL If
         go_quiet (fail)
         go_wp2;go_roundw
         case rel=>exact⟨n+1,by go_num,LG,DZ.drewN _⟩
         case measure=>simp [intOf];omega
        ·have t2:((n:Int) != (kk:Int))=true:=(by rw [bne_iff_ne];omega);have t2n:(n != kk)=true:=(by rw [bne_iff_ne];exact OL);have t2e:(n == kk)=false:=by rw [beq_eq_false_iff_ne];exact OL
         have Tf:0<Ar pa pk px:=by have h:=HT.out i n hlt LG If (by rw [←nG.out];exact OL);rw [EM.out,HPK.out,M4.out];simp only [nG.out];exact h
         have tn:=Al2 pa pk px Q9 iO LQ hk (by omega);rw [lJ Tf]at tn;have c1:=Aa (o:=0) Tj rfl;have c2:=Aa (o:=1) Tj rfl;have c3:=Aa (o:=0) As rfl;have c4:=Aa (o:=1) As rfl;have hU:=hw.ext (hx1.trans DZ);unfold Ak at tn;clear LQ iO Tf If OL
         go_region_held3 (fun w'=>w'.cell? ⟨ba,0,none⟩=some (S (R pa.x))/\w'.cell? ⟨ba,1,none⟩=some (S (R pa.y))/\w'.cell? ⟨b,o+kk*2,none⟩=some (S (R pk.x))/\w'.cell? ⟨b,o+kk*2+1,none⟩=some (S (R pk.y))/\w'.cell? ⟨bx,0,none⟩=some (S (R px.x))/\w'.cell? ⟨bx,1,none⟩=some (S (R px.y)))
          (go_keep)
          (first|((with_reducible refine(tn _ (hU.ext (Ab.refl U).drew)).mono ?_);rintro e w5 ⟨rfl,Ae⟩;have X5:=(Ab.refl U).drew.trans Ae;have d1:=X5.cellS c1;have d2:=X5.cellS c2;have d3:=X5.cellS c3;have d4:=X5.cellS c4;have d5:=X5.cellS hg3';have d6:=X5.cellS eI))
         go_wp2;go_roundw
         case rel=>exact⟨n+1,by go_num,LG,DZ.trans X5⟩
         case measure=>simp [intOf];omega
      ·have hle:(l.length:Int)<=(n:Int):=(by omega);go_wp2;go_roundw
       case rel=>exact⟨i+1,by go_num,hlt,hx1.trans Kf⟩
       case measure=>simp [intOf];omega
    ·have hle:(l.length:Int)<=(i:Int):=(by omega);have hd:decide (i<l.length)=false:=(by simp [hlt]);have C2:decide ((i:Int)<(l.length:Int))=false:=(by simp;omega);have Af8:0<l.length:=(by omega);obtain⟨b,o,rfl,_,_⟩:=Co (hr.ext Ty) Af8;have GW:(1:Int)<=(l.length:Int):=(by omega);have hlc:(l.length:Int)<=(c:Int):=(by omega);have hm1:(l.length:Int)-1=((l.length-1:Nat):Int):=(by omega);obtain⟨m,hme⟩:=Ao3 (l.length-1);rw [←hme]at hm1;have HM:=Ao4 hme;clear hme hlt;go_wp2;rw [←HM.out];clear hle hd C2 hm1 GW hlc
     go_loopw [73] (fun i wr=>∃n:Nat,i=.int .i64 (n:Nat)/\n<=m/\Ab w wr) (fun i _=>m-(intOf i).toNat)
     case atStart=>exact⟨0,rfl,by omega,Ty⟩
     case round=>
      obtain⟨n,rfl,hn,Kf⟩:=hrel;by_cases LG:n<m
      ·have De:n+1<l.length:=(by rw [HM.out]at LG;omega);have hl0:0<l.length:=(by omega);obtain⟨_,_,e1,hg1,hg2⟩:=Co (hr.ext Kf) De;obtain⟨_,_,e2,hg3,hg4⟩:=Co (hr.ext Kf) hl0;simp only [AoB,Addr.mk.injEq,and_true]at e1 e2;obtain⟨rfl,rfl⟩:=e1;obtain⟨e2,e3⟩:=e2;subst e2 e3;obtain⟨px,ON⟩:=Ao3 (l[n+1]);obtain⟨p0,BJ⟩:=Ao3 (l[0]);have LQ:=HZ.out l[n+1] (Ao8 De);have hz0:=HZ.out l[0] (Ao8 hl0);have EH:=HL.out n De;rw [←ON]at hg1 hg2 LQ;rw [←BJ]at hg3 hg4 hz0;rw [←ON,←BJ]at EH;have ls:=Ah7 px p0 LQ hz0 hk (by omega);obtain⟨r,G2⟩:=Ao3 (Bq px p0);rw [←G2]at EH ls;have hr0:0<=r:=(by omega);have e2:o+(n+1)*2=o+2+n*2:=(by omega);rw [e2]at hg1 hg2;rw [Nat.zero_mul,Nat.add_zero]at hg3 hg4;have Gc:(0:Int)<=(n:Int):=(by omega);have hnl:(n:Int)<(m:Int):=(by omega);have hl0':(0:Int)<(l.length:Int):=(by omega);have DZ:=Kf.alloc (.cells #[S (R px.x),S (R px.y)] 24);have As:=Ao6 wr (.cells #[S (R px.x),S (R px.y)] 24);have hxx:=(Ab.refl wr).alloc (.cells #[S (R px.x),S (R px.y)] 24);have hg3':=hxx.cellS hg3;have eI:=hxx.cellS hg4;unfold Ak at ls;clear EH G2 ON BJ LQ hz0 e2
       go_upto_region 26 with fail
       clear hg1 hg2 hg3 hg4;generalize wr.alloc (.cells #[S (R px.x),S (R px.y)] 24)=U at *;obtain⟨bx,Nk⟩:=Ao3 wr.heap.size;rw [←Nk]at As ⊢;clear Nk hxx;have c3:=Aa (o:=0) As rfl;have c4:=Aa (o:=1) As rfl;have hU:=hw.ext DZ
       go_region_held3 (fun w'=>w'.cell? ⟨b,o,none⟩=some (S (R p0.x))/\w'.cell? ⟨b,o+1,none⟩=some (S (R p0.y))/\w'.cell? ⟨bx,0,none⟩=some (S (R px.x))/\w'.cell? ⟨bx,1,none⟩=some (S (R px.y)))
        (go_keep)
        (first|((with_reducible refine(ls _ (hU.ext (Ab.refl U).drew)).mono ?_);rintro e w5 ⟨rfl,Ae⟩;have X5:=(Ab.refl U).drew.trans Ae;have d1:=X5.cellS c3;have d2:=X5.cellS c4;have d3:=X5.cellS hg3';have d4:=X5.cellS eI))
       go_wp2;go_roundw
       case rel=>exact⟨n+1,by go_num,LG,DZ.trans X5⟩
       case measure=>simp [intOf];omega
      ·have hle:(m:Int)<=(n:Int):=(by omega);go_wp2;go_ret;exact⟨rfl,Kf⟩
end
section
open Go.RowKit Kl
theorem kG(x y:Int)(b o:Nat)(w:World)(h1:w.cell? ⟨b,o,none⟩=some (.int .i64 x))(h2:w.cell? ⟨b,o+1,none⟩=some (.int .i64 y)) :
  Calls Tryz.prog 141 #[.slice (some ⟨b,o,none⟩) 2 2] w (AI (if x≠0 then x else y) w):=by
 obtain⟨r,hr⟩:=Ao3 (if x≠0 then x else y);rw [←hr];have HR:=Ao4 hr;clear hr;go_enter Tryz.func141,Tryz.ntmps141;go_wp2
 go_loopw [8] (fun i wr=>∃j:Nat,i=.int .i64 (j:Nat)/\j<=2/\(1<=j→x=0)/\(2<=j→y=0)/\wr=w) (fun i _=>2-(intOf i).toNat)
 case atStart=>exact⟨0,rfl,by omega,by omega,by omega,rfl⟩
 case round=>
  obtain⟨j,rfl,hj,hx,hy,rfl⟩:=hrel;by_cases j0:j=0
  ·subst j0;by_cases hx0:x=0
   ·have t:(x != 0)=false:=(by rw [hx0];rfl);have HX:=Ao4 hx0;clear hx hy hx0;go_wp2;go_roundw
    case rel=>exact⟨1,rfl,by omega,fun _=>HX.out,by omega,by trivial⟩
    case measure=>simp [intOf]
   ·have t:(x != 0)=true:=(by rw [bne_iff_ne];exact hx0);have LK:r=x:=(by rw [HR.out,if_pos hx0]);subst LK;clear hx hy hx0;go_wp2;go_ret;exact⟨rfl,Ab.refl _⟩
  ·by_cases j1:j=1
   ·subst j1;have hx0:x=0:=hx (by omega);have hry:r=y:=(by rw [HR.out,if_neg (by omega)]);subst hry;have HX:=Ao4 hx0;by_cases BA:r=0
    ·have t:(r != 0)=false:=(by rw [BA];rfl);have HY:=Ao4 BA;clear hx hy hx0 BA j0;go_wp2;go_roundw
     case rel=>exact⟨2,rfl,by omega,fun _=>HX.out,fun _=>HY.out,by trivial⟩
     case measure=>simp [intOf]
    ·have t:(r != 0)=true:=(by rw [bne_iff_ne];exact BA);clear hx hy hx0 BA j0;go_wp2;go_ret;exact⟨rfl,Ab.refl _⟩
   ·have j2:j=2:=(by omega);subst j2;have hx0:x=0:=hx (by omega);have BA:y=0:=hy (by omega);have hr0:r=0:=(by rw [HR.out,if_neg (by omega),BA]);subst hr0;clear hx hy hx0 BA j0 j1;go_wp2;go_ret;exact⟨rfl,Ab.refl _⟩
end
end Go.Proofs.YtnddllipjippnaaGreatDoor
