/- rational: Add, Mul, Compare. -/
import Derived.Test.YtblijhokcjpeeaaGreatDoorMI
/- rational: small, join, Parts, Sign, Neg. -/
namespace Go.Proofs.YtblijhokcjpeeaaGreatDoor
open Go.RowKit Kl

set_option maxRecDepth 100000 in
set_option maxHeartbeats 2000000 in
theorem rSmall_c (n : Int) (d : Nat) (hd : 0 < d) (hn1 : -9000000000000000000 ≤ n) (hn2 : n ≤ 9000000000000000000) (hd2 : d ≤ 9000000000000000000) (w : World) (hw : Okw w) :
    Calls Tryz.prog 115 #[.int .i64 n, .int .i64 (d : Nat)] w (RetS (R (mkRat n d)) w) := by
  obtain ⟨g, hg⟩ : ∃ g, g = Nat.gcd n.natAbs d := ⟨_, rfl⟩
  have hg0 : 0 < g := by rw [hg]; exact Nat.gcd_pos_of_pos_right _ hd
  obtain ⟨n', hn'⟩ : ∃ n' : Int, n' = n / (g : Nat) := ⟨_, rfl⟩
  obtain ⟨d', hd'⟩ : ∃ d' : Nat, d' = d / g := ⟨_, rfl⟩
  have hR : R (mkRat n d) = frac n' d' := by rw [R_mkRat n hd, ← hg, ← hn', ← hd']
  have hgn : ((g : Nat) : Int) ∣ n := Int.natAbs_dvd_natAbs.1 (by rw [Int.natAbs_natCast, hg]; exact Nat.gcd_dvd_left ..)
  have e1 : n.tdiv (g : Int) = n' := by rw [hn', Int.tdiv_eq_ediv_of_dvd hgn]
  have e2 : (d : Int) / (g : Int) = (d' : Int) := by rw [hd']; simp
  have b1 : n'.natAbs ≤ n.natAbs := by rw [hn']; exact natAbs_ediv_le _ _ hgn
  have b2 : d' ≤ d := by rw [hd']; exact Nat.div_le_self _ _
  have hgd : g ≤ d := by rw [hg]; exact Nat.gcd_le_right _ hd
  have ln : (I n').length ≤ 20 := I_length_le (z := n') (k := 19) (by omega) (by omega)
  have ld : (D d').length ≤ 19 := D_length_le (by omega) (by omega)
  have HR := Lib.hid hR
  have HG := Lib.hid hg
  have H1 := Lib.hid e1
  have H2 := Lib.hid e2
  have i1 := fun W hW => itoa_c n' (by omega) (by omega) W hW
  have i2 := fun W hW => itoa_c (d' : Int) (by omega) (by omega) W hW
  clear hR hg e1 e2 hn' hd' hgn
  go_enter Tryz.func115, Tryz.ntmps115
  go_wp2
  go_loopw [5, 6] (fun x y wr => ∃ a b : Int, x = .int .i64 a ∧ y = .int .i64 b ∧ Int.gcd a b = g ∧ a.natAbs ≤ 9000000000000000000 ∧ b.natAbs ≤ 9000000000000000000 ∧ Ext w wr) (fun _ y _ => (intOf y).natAbs)
  case atStart => exact ⟨n, d, rfl, rfl, by rw [HG.out]; rfl, by omega, by omega, Ext.refl _⟩
  case round =>
    obtain ⟨a, b, rfl, rfl, hgab, ha, hb, hext⟩ := hrel
    by_cases hb0 : b = 0
    · subst hb0
      have hga : a.natAbs = g := by rw [← hgab]; simp
      by_cases hneg : a < 0
      case' pos => obtain rfl : a = -(g : Int) := by omega
      case' neg => obtain rfl : a = (g : Int) := by omega
      all_goals
        clear hga hgab
        have e1 := H1.out
        have e2 := H2.out
        have hgp : (0 : Int) < (g : Int) := by omega
        have hgz : ((g : Int) == 0) = false := by rw [beq_eq_false_iff_ne]; omega
        by_cases hl1 : d' = 1
        · subst hl1
          have HF : Hid (R (mkRat n d) = I n') := Lib.hid (by rw [HR.out]; rfl)
          go_wp2_with fail
          go_quiet (fail)
          go_wp2_with fail
          ((with_reducible refine (i1 _ (hw.ext (hext.drewN _))).mono ?_); rintro e w3 ⟨rfl, hx3⟩)
          go_wp2
          go_ret
          exact ⟨ret_s (by rw [HF.out]), (hext.drewN _).trans hx3⟩
        · have HF : Hid (R (mkRat n d) = I n' ++ 47 :: D d') := Lib.hid (by rw [HR.out]; exact if_neg hl1)
          have hdb : ((d' : Int) == 1) = false := by rw [beq_eq_false_iff_ne]; omega
          rw [I_nat] at i2
          clear hl1
          go_wp2_with fail
          go_quiet (fail)
          go_wp2_with fail
          ((with_reducible refine (i1 _ (hw.ext (hext.drewN _))).mono ?_); rintro e w3 ⟨rfl, hx3⟩)
          have hx3 := (hext.drewN _).trans hx3
          go_wp2_with fail
          ((with_reducible refine (i2 _ (hw.ext hx3)).mono ?_); rintro e w4 ⟨rfl, hx4⟩)
          go_wp2
          go_ret
          exact ⟨ret_s (by rw [HF.out]; apply ByteArray.ext; simp), hx3.trans hx4⟩
    · have hlt := natAbs_tmod_lt a hb0
      have hlt' : (a.tmod b).natAbs ≤ 9000000000000000000 := Nat.le_trans (Nat.le_of_lt hlt) hb
      have hgt := gcd_tmod a b
      have hbne : (b != 0) = true := by rw [bne_iff_ne]; exact hb0
      have hbe : (b == 0) = false := by rw [beq_eq_false_iff_ne]; exact hb0
      have HGT := Lib.hid (hgt.trans hgab)
      clear hgt hgab
      go_wp2_with fail
      go_quiet (fail)
      go_wp2
      go_roundw
      case rel => exact ⟨b, a.tmod b, rfl, rfl, HGT.out, hb, hlt', hext.drewN _⟩
      case measure => exact hlt

theorem bs_idx (l : Bs) (j : Nat) (h : j < (⟨l.toArray⟩ : ByteArray).size) : (⟨l.toArray⟩ : ByteArray)[j] = l[j]'(by rw [bs_size] at h; exact h) := by
  rw [ByteArray.getElem_eq_getElem_data]; simp
attribute [local go_sem] bs_idx
def sgnR (q : Rat) : Int := if q = 0 then 0 else if q < 0 then -1 else 1
theorem sgnR_zero : sgnR 0 = 0 := rfl
theorem sgnR_neg {q : Rat} (h : q < 0) : sgnR q = -1 := by unfold sgnR; rw [if_neg (by rintro rfl; exact Rat.lt_irrefl h), if_pos h]
theorem sgnR_pos {q : Rat} (h : 0 < q) : sgnR q = 1 := by
  unfold sgnR; rw [if_neg (by rintro rfl; exact Rat.lt_irrefl h), if_neg (by grind)]
theorem R_ne0 {q : Rat} (h : q ≠ 0) : (R q == [48]) = false := by rw [beq_eq_false_iff_ne]; exact fun e => h (R_eq_zero.1 e)
theorem R_ne1 {q : Rat} (h : q ≠ 1) : (R q == [49]) = false := by rw [beq_eq_false_iff_ne]; exact fun e => h (R_eq_one.1 e)
theorem R_length {k : Nat} {q : Rat} (hk : 0 < k) (h : Sz k q) : (R q).length ≤ 2 * k + 2 := by
  have h1 := I_length_le hk h.num
  have h2 := D_length_le hk h.den
  rw [R_def]; unfold frac
  split
  · omega
  · rw [List.length_append, List.length_cons]; omega

set_option maxHeartbeats 400000 in
theorem rSign_c (q : Rat) (w : World) : Calls Tryz.prog 57 #[S (R q)] w (RetI (sgnR q) w) := by
  by_cases h0 : q = 0
  · subst h0
    rw [R_zero]
    go_enter Tryz.func57, Tryz.ntmps57
    go_wp2
    go_ret
    exact ⟨rfl, Ext.refl _⟩
  · have h1 := R_ne0 h0
    rcases R_head q with ⟨hn, e⟩ | ⟨hp, c, l, e, hd, hc⟩
    · have HS := Lib.hid (sgnR_neg hn)
      obtain ⟨c, hc⟩ : ∃ c : UInt8, c = 45 := ⟨_, rfl⟩
      have hl : 0 < (R q).length := by rw [e]; simp
      have hg : (R q)[0]'hl = c := by rw [List.getElem_of_eq e hl, hc]; rfl
      have hcb : ((c.toNat : Int) == 45) = true := by rw [hc]; rfl
      clear e hc hn
      go_enter Tryz.func57, Tryz.ntmps57
      go_wp2
      go_ret
      exact ⟨ret_i HS.out, Ext.refl _⟩
    · have HS := Lib.hid (sgnR_pos (q := q) (by grind))
      have hl : 0 < (R q).length := by rw [e]; simp
      have hg : (R q)[0]'hl = c := by rw [List.getElem_of_eq e hl]; rfl
      have hcb : ((c.toNat : Int) == 45) = false := by rw [beq_eq_false_iff_ne]; intro k; exact hc (UInt8.toNat_inj.1 (by simp; omega))
      clear e hc hp hd
      go_enter Tryz.func57, Tryz.ntmps57
      go_wp2
      go_ret
      exact ⟨ret_i HS.out, Ext.refl _⟩

set_option maxHeartbeats 1000000 in
theorem rNeg_c (q : Rat) {k : Nat} (hk : 0 < k) (hk2 : k ≤ 100000) (hz : Sz k q) (w : World) : Calls Tryz.prog 66 #[S (R q)] w (RetS (R (-q)) w) := by
  have hlen := R_length hk hz
  by_cases h0 : q = 0
  · subst h0
    rw [Rat.neg_zero, R_zero]
    go_enter Tryz.func66, Tryz.ntmps66
    go_wp2
    go_ret
    exact ⟨rfl, Ext.refl _⟩
  · have h1 := R_ne0 h0
    rcases R_head q with ⟨hn, e⟩ | ⟨hp, c, l, e, hd, hc⟩
    · obtain ⟨c, hc⟩ : ∃ c : UInt8, c = 45 := ⟨_, rfl⟩
      have hl : 0 < (R q).length := by rw [e]; simp
      have hg : (R q)[0]'hl = c := by rw [List.getElem_of_eq e hl, hc]; rfl
      have hcb : ((c.toNat : Int) == 45) = true := by rw [hc]; rfl
      have HD : Hid ((R q).drop 1 = R (-q)) := Lib.hid (by rw [e]; rfl)
      have hl1 : (1 : Int) ≤ ((R q).length : Int) := by omega
      clear e hc hn
      go_enter Tryz.func66, Tryz.ntmps66
      go_wp2
      go_ret
      exact ⟨ret_s (by rw [← HD.out]; first | exact ext_hi _ _ | (rw [ext_bs]; simp)), Ext.refl _⟩
    · have HD : Hid (R (-q) = 45 :: R q) := Lib.hid (by
        have := R_neg (q := -q) (by grind)
        rw [this, Rat.neg_neg])
      have hl : 0 < (R q).length := by rw [e]; simp
      have hg : (R q)[0]'hl = c := by rw [List.getElem_of_eq e hl]; rfl
      have hcb : ((c.toNat : Int) == 45) = false := by rw [beq_eq_false_iff_ne]; intro k; exact hc (UInt8.toNat_inj.1 (by simp; omega))
      clear e hc hp hd
      go_enter Tryz.func66, Tryz.ntmps66
      go_wp2
      go_ret
      exact ⟨ret_s (by rw [HD.out]; apply ByteArray.ext; simp), Ext.refl _⟩
/-- A numerator and a denominator are put together. -/
theorem rJoin_c (n : Int) (d : Nat) (hn : Bnd n) (hd : d < Big) (w : World) : Calls Tryz.prog 113 #[S (I n), S (D d)] w (RetS (frac n d) w) := by
  have ln := hn.len
  have ld : (D d).length ≤ 4000 := D_length_le (k := bigE) (by decide) hd
  by_cases h : d = 1
  · subst h
    have HF : Hid (frac n 1 = I n) := Lib.hid (if_pos rfl)
    rw [D_one]
    go_enter Tryz.func113, Tryz.ntmps113
    go_wp2
    go_ret
    exact ⟨ret_s (by rw [HF.out]), Ext.refl _⟩
  · have HF : Hid (frac n d = I n ++ 47 :: D d) := Lib.hid (if_neg h)
    have hb : (D d == [49]) = false := by rw [beq_eq_false_iff_ne, ← D_one]; exact fun e => h (D_inj e)
    clear h
    go_enter Tryz.func113, Tryz.ntmps113
    go_wp2
    go_ret
    exact ⟨ret_s (by rw [HF.out]; apply ByteArray.ext; simp), Ext.refl _⟩
def partsV (q : Rat) : Value := .tuple #[S (I q.num), S (D q.den)]
theorem rParts_c (q : Rat) {k : Nat} (hk : 0 < k) (hk2 : k ≤ 100000) (hz : Sz k q) (w : World) (hw : Okw w) : Calls Tryz.prog 112 #[S (R q)] w (RetV (partsV q) w) := by
  have hlen := R_length hk hz
  have hc := cut_c (R q) [47] w hw (by omega)
  rw [R_cut] at hc
  by_cases h : q.den = 1
  · rw [if_pos h] at hc
    have HP : Hid (partsV q = .tuple #[S (I q.num), S [49]]) := Lib.hid (by unfold partsV; rw [h, D_one])
    clear h
    go_enter Tryz.func112, Tryz.ntmps112
    go_wp2_with fail
    ((with_reducible refine hc.mono ?_); rintro e w1 ⟨rfl, hx1⟩)
    go_wp2
    go_ret2
    exact ⟨ret_v HP.out, hx1⟩
  · rw [if_neg h] at hc
    have HP : Hid (partsV q = .tuple #[S (I q.num), S (D q.den)]) := Lib.hid rfl
    clear h
    go_enter Tryz.func112, Tryz.ntmps112
    go_wp2_with fail
    ((with_reducible refine hc.mono ?_); rintro e w1 ⟨rfl, hx1⟩)
    go_wp2
    go_ret2
    exact ⟨ret_v HP.out, hx1⟩
end Go.Proofs.YtblijhokcjpeeaaGreatDoor
/- rational: lowest, Compare, Add, Mul. -/
namespace Go.Proofs.YtblijhokcjpeeaaGreatDoor
open Go.RowKit Kl

theorem rJoinI_c (n m : Int) (hm : 0 < m) (hn : Bnd n) (hd : Bnd m) (w : World) : Calls Tryz.prog 113 #[S (I n), S (I m)] w (RetS (frac n m.toNat) w) := by
  obtain ⟨d, rfl⟩ := Int.eq_ofNat_of_zero_le (Int.le_of_lt hm)
  rw [I_nat]
  exact rJoin_c n d hn hd w
theorem iGcdI_c (x y : Int) (hx : Bnd x) (hy : Bnd y) (w : World) (hw : Okw w) : Calls Tryz.prog 111 #[S (I x), S (I y)] w (RetS (I (Int.gcd x y : Nat)) w) := by
  rw [I_nat]; exact iGcd_c x y hx hy w hw

set_option maxRecDepth 100000 in
set_option maxHeartbeats 1000000 in
theorem rLowest_c (n m : Int) (hn : Bnd n) (hm : Bnd m) (hm0 : 0 < m) (w : World) (hw : Okw w) : Calls Tryz.prog 116 #[S (I n), S (I m)] w (RetS (R (mkRat n m.toNat)) w) := by
  have hs := iSign_c m
  rw [sgn_pos hm0] at hs
  have hg := iGcdI_c n m hn hm
  obtain ⟨g, hgd⟩ : ∃ g, g = Int.gcd n m := ⟨_, rfl⟩
  have hR := R_mkRat n (d := m.toNat) (by omega)
  have e0 : Nat.gcd n.natAbs m.toNat = g := by rw [hgd]; unfold Int.gcd; rw [show m.natAbs = m.toNat by omega]
  rw [e0] at hR
  have hg0 : 0 < g := by rw [← e0]; exact Nat.gcd_pos_of_pos_right _ (by omega)
  have hgb : g ≤ m.toNat := by rw [← e0]; exact Nat.gcd_le_right _ (by omega)
  have hgn : ((g : Nat) : Int) ∣ n := Int.natAbs_dvd_natAbs.1 (by rw [Int.natAbs_natCast, ← e0]; exact Nat.gcd_dvd_left ..)
  have hgm : ((g : Nat) : Int) ∣ m := Int.natAbs_dvd_natAbs.1 (by rw [Int.natAbs_natCast, ← e0, show m.natAbs = m.toNat by omega]; exact Nat.gcd_dvd_right ..)
  rw [← hgd] at hg
  have bg : Bnd (g : Int) := by unfold Bnd at hm ⊢; rw [Int.natAbs_natCast]; omega
  by_cases h1 : g = 1
  · have hj := rJoinI_c n m hm0 hn hm
    have HR : Hid (R (mkRat n m.toNat) = frac n m.toNat) := Lib.hid (by rw [hR, h1]; simp)
    subst h1
    rw [show I ((1 : Nat) : Int) = [49] from I_one] at hg
    clear hR e0 hgd hgn hgm
    go_enter Tryz.func116, Tryz.ntmps116
    go_wp2_with fail
    ((with_reducible refine (hs _).mono ?_); rintro e w1 ⟨rfl, hx⟩)
    go_wp2_with fail
    ((with_reducible refine (hg _ (hw.ext hx)).mono ?_); rintro e w2 ⟨rfl, hx2⟩)
    replace hx := hx.trans hx2
    go_wp2_with fail
    ((with_reducible refine (hj _).mono ?_); rintro e w3 ⟨rfl, hx3⟩)
    replace hx := hx.trans hx3
    go_wp2
    go_ret
    exact ⟨ret_s (by rw [HR.out]), hx⟩
  · have hgne : (I (g : Int) == [49]) = false := I_ne1 (by omega)
    have d1 := iDivMod_c n g hn bg (by omega)
    have d2 := iDivMod_c m g hm bg (by omega)
    have bn : Bnd (n / (g : Int)) := Nat.lt_of_le_of_lt (natAbs_ediv_le _ _ hgn) hn
    have bm : Bnd (m / (g : Int)) := Nat.lt_of_le_of_lt (natAbs_ediv_le _ _ hgm) hm
    have hmg : 0 < m / (g : Int) := by
      obtain ⟨k, hk⟩ := hgm
      rw [hk, Int.mul_ediv_cancel_left _ (by omega)]
      rw [hk] at hm0
      exact Int.pos_of_mul_pos_right hm0 (by omega)
    have hj := rJoinI_c (n / (g : Int)) (m / (g : Int)) hmg bn bm
    have HR : Hid (R (mkRat n m.toNat) = frac (n / (g : Int)) (m / (g : Int)).toNat) := Lib.hid (by
      rw [hR]
      obtain ⟨d, rfl⟩ := Int.eq_ofNat_of_zero_le (Int.le_of_lt hm0)
      congr 1)
    clear hR e0 hgd hgn hgm h1
    unfold divModV at d1 d2
    go_enter Tryz.func116, Tryz.ntmps116
    go_wp2_with fail
    ((with_reducible refine (hs _).mono ?_); rintro e w1 ⟨rfl, hx⟩)
    go_wp2_with fail
    ((with_reducible refine (hg _ (hw.ext hx)).mono ?_); rintro e w2 ⟨rfl, hx2⟩)
    replace hx := hx.trans hx2
    go_wp2_with fail
    ((with_reducible refine (d1 _ (hw.ext hx)).mono ?_); rintro e w3 ⟨rfl, hx3⟩)
    replace hx := hx.trans hx3
    go_wp2_with fail
    ((with_reducible refine (d2 _ (hw.ext hx)).mono ?_); rintro e w4 ⟨rfl, hx4⟩)
    replace hx := hx.trans hx4
    go_wp2_with fail
    ((with_reducible refine (hj _).mono ?_); rintro e w5 ⟨rfl, hx5⟩)
    replace hx := hx.trans hx5
    go_wp2
    go_ret
    exact ⟨ret_s (by rw [HR.out]), hx⟩
end Go.Proofs.YtblijhokcjpeeaaGreatDoor
namespace Go.Proofs.YtblijhokcjpeeaaGreatDoor
open Go.RowKit Kl

theorem Bnd.of {z : Int} {k : Nat} (h : z.natAbs < 10 ^ k) (hk : k ≤ 4000) : Bnd z := Nat.lt_of_lt_of_le h (Nat.pow_le_pow_right (by omega) hk)
theorem rPartsI_c (q : Rat) {k : Nat} (hk : 0 < k) (hk2 : k ≤ 100000) (hz : Sz k q) (w : World) (hw : Okw w) : Calls Tryz.prog 112 #[S (R q)] w (RetV (.tuple #[S (I q.num), S (I (q.den : Int))]) w) := by
  have h := rParts_c q hk hk2 hz w hw
  unfold partsV at h
  rw [I_nat]; exact h
/-- Two numbers with room for their products. -/
structure Rm (a b : Nat) (p q : Rat) : Prop where
  p : Sz a p
  q : Sz b q
  a0 : 0 < a
  b0 : 0 < b
  le : a + b ≤ 3990
section
variable {a b : Nat} {p q : Rat}
theorem Rm.lp (h : Rm a b p q) : (R p).length ≤ 100000 := by have := R_length h.a0 h.p; have := h.le; omega
theorem Rm.lq (h : Rm a b p q) : (R q).length ≤ 100000 := by have := R_length h.b0 h.q; have := h.le; omega
theorem Rm.bn (h : Rm a b p q) : Bnd p.num := Bnd.of h.p.num (by have := h.le; omega)
theorem Rm.bd (h : Rm a b p q) : Bnd (p.den : Int) := Bnd.of (k := a) (by rw [Int.natAbs_natCast]; exact h.p.den) (by have := h.le; omega)
theorem Rm.bm (h : Rm a b p q) : Bnd q.num := Bnd.of h.q.num (by have := h.le; omega)
theorem Rm.be (h : Rm a b p q) : Bnd (q.den : Int) := Bnd.of (k := b) (by rw [Int.natAbs_natCast]; exact h.q.den) (by have := h.le; omega)
theorem Rm.ne' (h : Rm a b p q) : (p.num * (q.den : Int)).natAbs < 10 ^ (a + b) := by rw [Int.natAbs_mul, Int.natAbs_natCast]; exact mul_lt_pow h.p.num h.q.den
theorem Rm.md' (h : Rm a b p q) : (q.num * (p.den : Int)).natAbs < 10 ^ (a + b) := by rw [Int.natAbs_mul, Int.natAbs_natCast, Nat.add_comm]; exact mul_lt_pow h.q.num h.p.den
theorem Rm.ne (h : Rm a b p q) : Bnd (p.num * (q.den : Int)) := Bnd.of h.ne' (by have := h.le; omega)
theorem Rm.md (h : Rm a b p q) : Bnd (q.num * (p.den : Int)) := Bnd.of h.md' (by have := h.le; omega)
theorem Rm.nm (h : Rm a b p q) : Bnd (p.num * q.num) := Bnd.of (k := a + b) (by rw [Int.natAbs_mul]; exact mul_lt_pow h.p.num h.q.num) (by have := h.le; omega)
theorem Rm.de (h : Rm a b p q) : Bnd ((p.den : Int) * (q.den : Int)) := Bnd.of (k := a + b) (by rw [Int.natAbs_mul, Int.natAbs_natCast, Int.natAbs_natCast]; exact mul_lt_pow h.p.den h.q.den) (by have := h.le; omega)
theorem Rm.sum (h : Rm a b p q) : Bnd (p.num * (q.den : Int) + q.num * (p.den : Int)) := Bnd.of (k := a + b + 1) (Nat.lt_of_le_of_lt (Int.natAbs_add_le _ _) (add_lt_pow h.ne' h.md')) (by have := h.le; omega)
end
theorem de_pos (p q : Rat) : 0 < (p.den : Int) * (q.den : Int) := Int.mul_pos (by have := p.den_pos; omega) (by have := q.den_pos; omega)
theorem de_toNat (p q : Rat) : ((p.den : Int) * (q.den : Int)).toNat = p.den * q.den := by rw [← Int.natCast_mul, Int.toNat_natCast]
/-- Both parts are short. -/
def Short (q : Rat) : Prop := (D q.num.natAbs).length ≤ 9 ∧ (D q.den).length ≤ 9
theorem quickR_yes {q : Rat} (h : Short q) : quickR q = .tuple #[.int .i64 q.num, .int .i64 q.den, .bool true] := if_pos h
theorem quickR_no {q : Rat} (h : ¬ Short q) : quickR q = .tuple #[.int .i64 0, .int .i64 0, .bool false] := if_neg h
theorem Short.num {q : Rat} (h : Short q) : q.num.natAbs < 1000000000 := lt_pow_of_len (k := 9) h.1
theorem Short.den {q : Rat} (h : Short q) : q.den < 1000000000 := lt_pow_of_len (k := 9) h.2
theorem rQuickV_c (q : Rat) (hl : (R q).length ≤ 100000) (w : World) : Calls Tryz.prog 114 #[S (R q)] w (fun e w' => e = .returned (quickR q) ∧ w = w') := rQuick_c q hl w
theorem abs_mul_le {x y : Int} (hx : x.natAbs < 1000000000) (hy : y.natAbs < 1000000000) : (x * y).natAbs ≤ 999999998000000001 := by
  rw [Int.natAbs_mul]; exact mul_lt_sq hx hy

set_option maxRecDepth 100000 in
set_option maxHeartbeats 1000000 in
theorem rAdd_quick (p q : Rat) {a b : Nat} (hr : Rm a b p q) (hp0 : p ≠ 0) (hq0 : q ≠ 0) (h1 : Short p) (h2 : Short q) (w : World) (hw : Okw w) : Calls Tryz.prog 59 #[S (R p), S (R q)] w (RetS (R (p + q)) w) := by
  have q1 := rQuickV_c p hr.lp
  have q2 := rQuickV_c q hr.lq
  rw [quickR_yes h1] at q1
  rw [quickR_yes h2] at q2
  have n1 := R_ne0 hp0
  have n2 := R_ne0 hq0
  clear hp0 hq0
  have w1 := wrap64_mul (x := p.num) (y := (q.den : Int)) h1.num (by rw [Int.natAbs_natCast]; exact h2.den)
  have w2 := wrap64_mul (x := q.num) (y := (p.den : Int)) h2.num (by rw [Int.natAbs_natCast]; exact h1.den)
  have w3 := wrap64_mul (x := (p.den : Int)) (y := (q.den : Int)) (by rw [Int.natAbs_natCast]; exact h1.den) (by rw [Int.natAbs_natCast]; exact h2.den)
  have b1 := abs_mul_le (x := p.num) (y := (q.den : Int)) h1.num (by rw [Int.natAbs_natCast]; exact h2.den)
  have b2 := abs_mul_le (x := q.num) (y := (p.den : Int)) h2.num (by rw [Int.natAbs_natCast]; exact h1.den)
  have b3 := abs_mul_le (x := (p.den : Int)) (y := (q.den : Int)) (by rw [Int.natAbs_natCast]; exact h1.den) (by rw [Int.natAbs_natCast]; exact h2.den)
  have w4 : IntKind.i64.wrap (p.num * (q.den : Int) + q.num * (p.den : Int)) = p.num * (q.den : Int) + q.num * (p.den : Int) := IntWalk.i64_in _ (by omega)
  have sm := rSmall_c (p.num * (q.den : Int) + q.num * (p.den : Int)) (p.den * q.den) (Nat.mul_pos p.den_pos q.den_pos) (by omega) (by omega) (by rw [← Int.natCast_mul, Int.natAbs_natCast] at b3; omega)
  rw [Int.natCast_mul, ← Rat.add_def'] at sm
  clear b1 b2 b3
  have hx := Ext.refl w
  clear h1 h2 hr
  go_enter Tryz.func59, Tryz.ntmps59
  go_wp2_with fail
  ((with_reducible refine (q1 _).mono ?_); rintro e w1 ⟨rfl, rfl⟩)
  go_wp2_with fail
  ((with_reducible refine (q2 _).mono ?_); rintro e w2 ⟨rfl, rfl⟩)
  go_wp2_with fail
  ((with_reducible refine (sm _ hw).mono ?_); rintro e w3 ⟨rfl, hx3⟩)
  go_wp2
  go_ret
  exact ⟨rfl, hx3⟩

set_option maxRecDepth 100000 in
set_option maxHeartbeats 1000000 in
theorem rAdd_long1 (p q : Rat) {a b : Nat} (hr : Rm a b p q) (hp0 : p ≠ 0) (hq0 : q ≠ 0) (h1 : Short p) (h2 : ¬ Short q) (w : World) (hw : Okw w) : Calls Tryz.prog 59 #[S (R p), S (R q)] w (RetS (R (p + q)) w) := by
  have q1 := rQuickV_c p hr.lp
  have q2 := rQuickV_c q hr.lq
  rw [quickR_yes h1] at q1
  rw [quickR_no h2] at q2
  have n1 := R_ne0 hp0
  have n2 := R_ne0 hq0
  clear hp0 hq0
  have hx := Ext.refl w
  have pa := rPartsI_c p hr.a0 (by have := hr.le; omega) hr.p
  have pb := rPartsI_c q hr.b0 (by have := hr.le; omega) hr.q
  have m1 := iMul_c p.num (q.den : Int) hr.bn hr.be
  have m2 := iMul_c q.num (p.den : Int) hr.bm hr.bd
  have ad := iAdd_c (p.num * (q.den : Int)) (q.num * (p.den : Int)) hr.ne hr.md
  have m3 := iMul_c (p.den : Int) (q.den : Int) hr.bd hr.be
  have lo := rLowest_c (p.num * (q.den : Int) + q.num * (p.den : Int)) ((p.den : Int) * (q.den : Int)) hr.sum hr.de (de_pos p q)
  rw [de_toNat, ← Rat.add_def'] at lo
  clear h1 h2 hr
  go_enter Tryz.func59, Tryz.ntmps59
  go_wp2_with fail
  ((with_reducible refine (q1 _).mono ?_); rintro e w1 ⟨rfl, rfl⟩)
  go_wp2_with fail
  ((with_reducible refine (q2 _).mono ?_); rintro e w2 ⟨rfl, rfl⟩)
  go_wp2_with fail
  ((with_reducible refine (pa _ (hw.ext hx)).mono ?_); rintro e w3 ⟨rfl, hx3⟩)
  replace hx := hx.trans hx3
  go_wp2_with fail
  ((with_reducible refine (pb _ (hw.ext hx)).mono ?_); rintro e w4 ⟨rfl, hx4⟩)
  replace hx := hx.trans hx4
  go_wp2_with fail
  ((with_reducible refine (m1 _ (hw.ext hx)).mono ?_); rintro e w5 ⟨rfl, hx5⟩)
  replace hx := hx.trans hx5
  go_wp2_with fail
  ((with_reducible refine (m2 _ (hw.ext hx)).mono ?_); rintro e w6 ⟨rfl, hx6⟩)
  replace hx := hx.trans hx6
  go_wp2_with fail
  ((with_reducible refine (ad _ (hw.ext hx)).mono ?_); rintro e w7 ⟨rfl, hx7⟩)
  replace hx := hx.trans hx7
  go_wp2_with fail
  ((with_reducible refine (m3 _ (hw.ext hx)).mono ?_); rintro e w8 ⟨rfl, hx8⟩)
  replace hx := hx.trans hx8
  go_wp2_with fail
  ((with_reducible refine (lo _ (hw.ext hx)).mono ?_); rintro e w9 ⟨rfl, hx9⟩)
  replace hx := hx.trans hx9
  go_wp2
  go_ret
  exact ⟨rfl, hx⟩

set_option maxRecDepth 100000 in
set_option maxHeartbeats 1000000 in
theorem rAdd_long2 (p q : Rat) {a b : Nat} (hr : Rm a b p q) (hp0 : p ≠ 0) (hq0 : q ≠ 0) (h1 : ¬ Short p) (w : World) (hw : Okw w) : Calls Tryz.prog 59 #[S (R p), S (R q)] w (RetS (R (p + q)) w) := by
  have q1 := rQuickV_c p hr.lp
  rw [quickR_no h1] at q1
  have n1 := R_ne0 hp0
  have n2 := R_ne0 hq0
  clear hp0 hq0
  have hx := Ext.refl w
  have pa := rPartsI_c p hr.a0 (by have := hr.le; omega) hr.p
  have pb := rPartsI_c q hr.b0 (by have := hr.le; omega) hr.q
  have m1 := iMul_c p.num (q.den : Int) hr.bn hr.be
  have m2 := iMul_c q.num (p.den : Int) hr.bm hr.bd
  have ad := iAdd_c (p.num * (q.den : Int)) (q.num * (p.den : Int)) hr.ne hr.md
  have m3 := iMul_c (p.den : Int) (q.den : Int) hr.bd hr.be
  have lo := rLowest_c (p.num * (q.den : Int) + q.num * (p.den : Int)) ((p.den : Int) * (q.den : Int)) hr.sum hr.de (de_pos p q)
  rw [de_toNat, ← Rat.add_def'] at lo
  clear h1 hr
  go_enter Tryz.func59, Tryz.ntmps59
  go_wp2_with fail
  ((with_reducible refine (q1 _).mono ?_); rintro e w1 ⟨rfl, rfl⟩)
  go_wp2_with fail
  ((with_reducible refine (pa _ (hw.ext hx)).mono ?_); rintro e w3 ⟨rfl, hx3⟩)
  replace hx := hx.trans hx3
  go_wp2_with fail
  ((with_reducible refine (pb _ (hw.ext hx)).mono ?_); rintro e w4 ⟨rfl, hx4⟩)
  replace hx := hx.trans hx4
  go_wp2_with fail
  ((with_reducible refine (m1 _ (hw.ext hx)).mono ?_); rintro e w5 ⟨rfl, hx5⟩)
  replace hx := hx.trans hx5
  go_wp2_with fail
  ((with_reducible refine (m2 _ (hw.ext hx)).mono ?_); rintro e w6 ⟨rfl, hx6⟩)
  replace hx := hx.trans hx6
  go_wp2_with fail
  ((with_reducible refine (ad _ (hw.ext hx)).mono ?_); rintro e w7 ⟨rfl, hx7⟩)
  replace hx := hx.trans hx7
  go_wp2_with fail
  ((with_reducible refine (m3 _ (hw.ext hx)).mono ?_); rintro e w8 ⟨rfl, hx8⟩)
  replace hx := hx.trans hx8
  go_wp2_with fail
  ((with_reducible refine (lo _ (hw.ext hx)).mono ?_); rintro e w9 ⟨rfl, hx9⟩)
  replace hx := hx.trans hx9
  go_wp2
  go_ret
  exact ⟨rfl, hx⟩

set_option maxHeartbeats 1000000 in
/-- The sum. -/
theorem rAdd_c (p q : Rat) {a b : Nat} (hr : Rm a b p q) (w : World) (hw : Okw w) : Calls Tryz.prog 59 #[S (R p), S (R q)] w (RetS (R (p + q)) w) := by
  by_cases hp0 : p = 0
  · subst hp0
    rw [Rat.zero_add, R_zero]
    clear hr
    go_enter Tryz.func59, Tryz.ntmps59
    go_wp2
    go_ret
    exact ⟨rfl, Ext.refl _⟩
  · by_cases hq0 : q = 0
    · subst hq0
      rw [Rat.add_zero, R_zero]
      have n1 := R_ne0 hp0
      clear hr hp0
      go_enter Tryz.func59, Tryz.ntmps59
      go_wp2
      go_ret
      exact ⟨rfl, Ext.refl _⟩
    · by_cases h1 : Short p
      · by_cases h2 : Short q
        · exact rAdd_quick p q hr hp0 hq0 h1 h2 w hw
        · exact rAdd_long1 p q hr hp0 hq0 h1 h2 w hw
      · exact rAdd_long2 p q hr hp0 hq0 h1 w hw

set_option maxRecDepth 100000 in
set_option maxHeartbeats 1000000 in
theorem rMul_quick (p q : Rat) {a b : Nat} (hr : Rm a b p q) (hp0 : p ≠ 0) (hq0 : q ≠ 0) (hp1 : p ≠ 1) (hq1 : q ≠ 1) (h1 : Short p) (h2 : Short q) (w : World) (hw : Okw w) : Calls Tryz.prog 60 #[S (R p), S (R q)] w (RetS (R (p * q)) w) := by
  have q1 := rQuickV_c p hr.lp
  have q2 := rQuickV_c q hr.lq
  rw [quickR_yes h1] at q1
  rw [quickR_yes h2] at q2
  have n1 := R_ne0 hp0
  have n2 := R_ne0 hq0
  have n3 := R_ne1 hp1
  have n4 := R_ne1 hq1
  clear hp0 hq0 hp1 hq1
  have w1 := wrap64_mul (x := p.num) (y := q.num) h1.num h2.num
  have w3 := wrap64_mul (x := (p.den : Int)) (y := (q.den : Int)) (by rw [Int.natAbs_natCast]; exact h1.den) (by rw [Int.natAbs_natCast]; exact h2.den)
  have b1 := abs_mul_le (x := p.num) (y := q.num) h1.num h2.num
  have b3 := abs_mul_le (x := (p.den : Int)) (y := (q.den : Int)) (by rw [Int.natAbs_natCast]; exact h1.den) (by rw [Int.natAbs_natCast]; exact h2.den)
  have sm := rSmall_c (p.num * q.num) (p.den * q.den) (Nat.mul_pos p.den_pos q.den_pos) (by omega) (by omega) (by rw [← Int.natCast_mul, Int.natAbs_natCast] at b3; omega)
  rw [Int.natCast_mul, ← Rat.mul_def'] at sm
  clear b1 b3
  have hx := Ext.refl w
  clear h1 h2 hr
  go_enter Tryz.func60, Tryz.ntmps60
  go_wp2_with fail
  ((with_reducible refine (q1 _).mono ?_); rintro e w1 ⟨rfl, rfl⟩)
  go_wp2_with fail
  ((with_reducible refine (q2 _).mono ?_); rintro e w2 ⟨rfl, rfl⟩)
  go_wp2_with fail
  ((with_reducible refine (sm _ hw).mono ?_); rintro e w3 ⟨rfl, hx3⟩)
  go_wp2
  go_ret
  exact ⟨rfl, hx3⟩

set_option maxRecDepth 100000 in
set_option maxHeartbeats 1000000 in
theorem rMul_long1 (p q : Rat) {a b : Nat} (hr : Rm a b p q) (hp0 : p ≠ 0) (hq0 : q ≠ 0) (hp1 : p ≠ 1) (hq1 : q ≠ 1) (h1 : Short p) (h2 : ¬ Short q) (w : World) (hw : Okw w) : Calls Tryz.prog 60 #[S (R p), S (R q)] w (RetS (R (p * q)) w) := by
  have q1 := rQuickV_c p hr.lp
  have q2 := rQuickV_c q hr.lq
  rw [quickR_yes h1] at q1
  rw [quickR_no h2] at q2
  have n1 := R_ne0 hp0
  have n2 := R_ne0 hq0
  have n3 := R_ne1 hp1
  have n4 := R_ne1 hq1
  clear hp0 hq0 hp1 hq1
  have hx := Ext.refl w
  have pa := rPartsI_c p hr.a0 (by have := hr.le; omega) hr.p
  have pb := rPartsI_c q hr.b0 (by have := hr.le; omega) hr.q
  have m1 := iMul_c p.num q.num hr.bn hr.bm
  have m3 := iMul_c (p.den : Int) (q.den : Int) hr.bd hr.be
  have lo := rLowest_c (p.num * q.num) ((p.den : Int) * (q.den : Int)) hr.nm hr.de (de_pos p q)
  rw [de_toNat, ← Rat.mul_def'] at lo
  clear h1 h2 hr
  go_enter Tryz.func60, Tryz.ntmps60
  go_wp2_with fail
  ((with_reducible refine (q1 _).mono ?_); rintro e w1 ⟨rfl, rfl⟩)
  go_wp2_with fail
  ((with_reducible refine (q2 _).mono ?_); rintro e w2 ⟨rfl, rfl⟩)
  go_wp2_with fail
  ((with_reducible refine (pa _ (hw.ext hx)).mono ?_); rintro e w3 ⟨rfl, hx3⟩)
  replace hx := hx.trans hx3
  go_wp2_with fail
  ((with_reducible refine (pb _ (hw.ext hx)).mono ?_); rintro e w4 ⟨rfl, hx4⟩)
  replace hx := hx.trans hx4
  go_wp2_with fail
  ((with_reducible refine (m1 _ (hw.ext hx)).mono ?_); rintro e w5 ⟨rfl, hx5⟩)
  replace hx := hx.trans hx5
  go_wp2_with fail
  ((with_reducible refine (m3 _ (hw.ext hx)).mono ?_); rintro e w8 ⟨rfl, hx8⟩)
  replace hx := hx.trans hx8
  go_wp2_with fail
  ((with_reducible refine (lo _ (hw.ext hx)).mono ?_); rintro e w9 ⟨rfl, hx9⟩)
  replace hx := hx.trans hx9
  go_wp2
  go_ret
  exact ⟨rfl, hx⟩

set_option maxRecDepth 100000 in
set_option maxHeartbeats 1000000 in
theorem rMul_long2 (p q : Rat) {a b : Nat} (hr : Rm a b p q) (hp0 : p ≠ 0) (hq0 : q ≠ 0) (hp1 : p ≠ 1) (hq1 : q ≠ 1) (h1 : ¬ Short p) (w : World) (hw : Okw w) : Calls Tryz.prog 60 #[S (R p), S (R q)] w (RetS (R (p * q)) w) := by
  have q1 := rQuickV_c p hr.lp
  rw [quickR_no h1] at q1
  have n1 := R_ne0 hp0
  have n2 := R_ne0 hq0
  have n3 := R_ne1 hp1
  have n4 := R_ne1 hq1
  clear hp0 hq0 hp1 hq1
  have hx := Ext.refl w
  have pa := rPartsI_c p hr.a0 (by have := hr.le; omega) hr.p
  have pb := rPartsI_c q hr.b0 (by have := hr.le; omega) hr.q
  have m1 := iMul_c p.num q.num hr.bn hr.bm
  have m3 := iMul_c (p.den : Int) (q.den : Int) hr.bd hr.be
  have lo := rLowest_c (p.num * q.num) ((p.den : Int) * (q.den : Int)) hr.nm hr.de (de_pos p q)
  rw [de_toNat, ← Rat.mul_def'] at lo
  clear h1 hr
  go_enter Tryz.func60, Tryz.ntmps60
  go_wp2_with fail
  ((with_reducible refine (q1 _).mono ?_); rintro e w1 ⟨rfl, rfl⟩)
  go_wp2_with fail
  ((with_reducible refine (pa _ (hw.ext hx)).mono ?_); rintro e w3 ⟨rfl, hx3⟩)
  replace hx := hx.trans hx3
  go_wp2_with fail
  ((with_reducible refine (pb _ (hw.ext hx)).mono ?_); rintro e w4 ⟨rfl, hx4⟩)
  replace hx := hx.trans hx4
  go_wp2_with fail
  ((with_reducible refine (m1 _ (hw.ext hx)).mono ?_); rintro e w5 ⟨rfl, hx5⟩)
  replace hx := hx.trans hx5
  go_wp2_with fail
  ((with_reducible refine (m3 _ (hw.ext hx)).mono ?_); rintro e w8 ⟨rfl, hx8⟩)
  replace hx := hx.trans hx8
  go_wp2_with fail
  ((with_reducible refine (lo _ (hw.ext hx)).mono ?_); rintro e w9 ⟨rfl, hx9⟩)
  replace hx := hx.trans hx9
  go_wp2
  go_ret
  exact ⟨rfl, hx⟩

set_option maxHeartbeats 1000000 in
/-- The product. -/
theorem rMul_c (p q : Rat) {a b : Nat} (hr : Rm a b p q) (w : World) (hw : Okw w) : Calls Tryz.prog 60 #[S (R p), S (R q)] w (RetS (R (p * q)) w) := by
  by_cases hp0 : p = 0
  · subst hp0
    rw [Rat.zero_mul, R_zero]
    clear hr
    go_enter Tryz.func60, Tryz.ntmps60
    go_wp2
    go_ret
    exact ⟨rfl, Ext.refl _⟩
  by_cases hq0 : q = 0
  · subst hq0
    rw [Rat.mul_zero, R_zero]
    have n1 := R_ne0 hp0
    clear hr hp0
    go_enter Tryz.func60, Tryz.ntmps60
    go_wp2
    go_ret
    exact ⟨rfl, Ext.refl _⟩
  by_cases hp1 : p = 1
  · subst hp1
    rw [Rat.one_mul, R_one]
    have n1 := R_ne0 hq0
    clear hr hq0 hp0
    go_enter Tryz.func60, Tryz.ntmps60
    go_wp2
    go_ret
    exact ⟨rfl, Ext.refl _⟩
  by_cases hq1 : q = 1
  · subst hq1
    rw [Rat.mul_one, R_one]
    have n1 := R_ne0 hp0
    have n2 := R_ne1 hp1
    clear hr hq0 hp0 hp1
    go_enter Tryz.func60, Tryz.ntmps60
    go_wp2
    go_ret
    exact ⟨rfl, Ext.refl _⟩
  by_cases h1 : Short p
  · by_cases h2 : Short q
    · exact rMul_quick p q hr hp0 hq0 hp1 hq1 h1 h2 w hw
    · exact rMul_long1 p q hr hp0 hq0 hp1 hq1 h1 h2 w hw
  · exact rMul_long2 p q hr hp0 hq0 hp1 hq1 h1 w hw
end Go.Proofs.YtblijhokcjpeeaaGreatDoor
