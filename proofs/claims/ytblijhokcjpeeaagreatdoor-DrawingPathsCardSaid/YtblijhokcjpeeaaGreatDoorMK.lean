/- rational.Check. -/
import Derived.Test.YtblijhokcjpeeaaGreatDoorMJ
import Derived.Test.YtblijhokcjpeeaaGreatDoorMC
/- rational: Compare, Max, Min, Sub, Div, Floor, Whole, New, Of. -/
namespace Go.Proofs.YtblijhokcjpeeaaGreatDoor
open Go.RowKit Kl

def cmpR (p q : Rat) : Int := if p < q then -1 else if p = q then 0 else 1
theorem cmpR_lt {p q : Rat} (h : p < q) : cmpR p q = -1 := if_pos h
theorem cmpR_eq {p q : Rat} (h : p = q) : cmpR p q = 0 := by unfold cmpR; rw [if_neg (by rw [h]; exact Rat.lt_irrefl), if_pos h]
theorem cmpR_gt {p q : Rat} (h : q < p) : cmpR p q = 1 := by
  unfold cmpR; rw [if_neg (by grind), if_neg (by rintro rfl; exact Rat.lt_irrefl h)]
theorem cmpR_Z (p q : Rat) : cmpZ (p.num * (q.den : Int)) (q.num * (p.den : Int)) = cmpR p q := by
  unfold cmpZ cmpR
  by_cases h : p < q
  · rw [if_pos (Rat.lt_iff _ _ |>.1 h), if_pos h]
  · rw [if_neg (fun k => h (Rat.lt_iff _ _ |>.2 k)), if_neg h]
    by_cases e : p = q
    · rw [if_pos (Rat.eq_iff_mul_eq_mul.1 e), if_pos e]
    · rw [if_neg (fun k => e (Rat.eq_iff_mul_eq_mul.2 k)), if_neg e]
theorem cmpR_range (p q : Rat) : -1 ≤ cmpR p q ∧ cmpR p q ≤ 1 := by unfold cmpR; split <;> (try split) <;> omega

set_option maxRecDepth 100000 in
set_option maxHeartbeats 1000000 in
theorem rCompare_quick (p q : Rat) {a b : Nat} (hr : Rm a b p q) (hne : p ≠ q) (h1 : Short p) (h2 : Short q) (w : World) : Calls Tryz.prog 64 #[S (R p), S (R q)] w (RetI (cmpR p q) w) := by
  have q1 := rQuickV_c p hr.lp
  have q2 := rQuickV_c q hr.lq
  rw [quickR_yes h1] at q1
  rw [quickR_yes h2] at q2
  have n1 : (R p == R q) = false := by rw [beq_eq_false_iff_ne]; exact fun e => hne (R_inj e)
  have w1 := wrap64_mul (x := p.num) (y := (q.den : Int)) h1.num (by rw [Int.natAbs_natCast]; exact h2.den)
  have w2 := wrap64_mul (x := q.num) (y := (p.den : Int)) h2.num (by rw [Int.natAbs_natCast]; exact h1.den)
  have hc := cmpR_Z p q
  obtain ⟨x, hx⟩ : ∃ x, x = p.num * (q.den : Int) := ⟨_, rfl⟩
  obtain ⟨y, hy⟩ : ∃ y, y = q.num * (p.den : Int) := ⟨_, rfl⟩
  rw [← hx] at w1 hc
  rw [← hy] at w2 hc
  rw [hx] at w1
  rw [hy] at w2
  have w1' : IntKind.i64.wrap (p.num * (q.den : Int)) = x := by rw [hx]; exact w1
  have w2' : IntKind.i64.wrap (q.num * (p.den : Int)) = y := by rw [hy]; exact w2
  have HC := Lib.hid hc
  clear h1 h2 hr hne w1 w2 hx hy hc
  rcases Int.lt_trichotomy x y with h | h | h
  · have HR := Lib.hid (cmpZ_lt h)
    go_enter Tryz.func64, Tryz.ntmps64
    go_wp2_with fail
    ((with_reducible refine (q1 _).mono ?_); rintro e w1 ⟨rfl, rfl⟩)
    go_wp2_with fail
    ((with_reducible refine (q2 _).mono ?_); rintro e w2 ⟨rfl, rfl⟩)
    go_wp2
    go_ret
    exact ⟨ret_i (by rw [← HC.out, HR.out]), Ext.refl _⟩
  · have HR := Lib.hid (cmpZ_eq h)
    have h1 : ¬ x < y := by omega
    have h2 : ¬ y < x := by omega
    clear h
    go_enter Tryz.func64, Tryz.ntmps64
    go_wp2_with fail
    ((with_reducible refine (q1 _).mono ?_); rintro e w1 ⟨rfl, rfl⟩)
    go_wp2_with fail
    ((with_reducible refine (q2 _).mono ?_); rintro e w2 ⟨rfl, rfl⟩)
    go_wp2
    go_ret
    exact ⟨ret_i (by rw [← HC.out, HR.out]), Ext.refl _⟩
  · have HR := Lib.hid (cmpZ_gt h)
    have h1 : ¬ x < y := by omega
    go_enter Tryz.func64, Tryz.ntmps64
    go_wp2_with fail
    ((with_reducible refine (q1 _).mono ?_); rintro e w1 ⟨rfl, rfl⟩)
    go_wp2_with fail
    ((with_reducible refine (q2 _).mono ?_); rintro e w2 ⟨rfl, rfl⟩)
    go_wp2
    go_ret
    exact ⟨ret_i (by rw [← HC.out, HR.out]), Ext.refl _⟩
set_option maxRecDepth 100000 in
set_option maxHeartbeats 1000000 in
theorem rCompare_c (p q : Rat) {a b : Nat} (hr : Rm a b p q) (w : World) (hw : Okw w) : Calls Tryz.prog 64 #[S (R p), S (R q)] w (RetI (cmpR p q) w) := by
  by_cases hpq : p = q
  · subst hpq
    have HR := Lib.hid (cmpR_eq (rfl : p = p))
    have n1 : (R p == R p) = true := by simp
    clear hr
    go_enter Tryz.func64, Tryz.ntmps64
    go_wp2
    go_ret
    exact ⟨ret_i HR.out, Ext.refl _⟩
  by_cases h1 : Short p
  · by_cases h2 : Short q
    · exact rCompare_quick p q hr hpq h1 h2 w
    · have q1 := rQuickV_c p hr.lp
      have q2 := rQuickV_c q hr.lq
      rw [quickR_yes h1] at q1
      rw [quickR_no h2] at q2
      have n1 : (R p == R q) = false := by rw [beq_eq_false_iff_ne]; exact fun e => hpq (R_inj e)
      have pa := rPartsI_c p hr.a0 (by have := hr.le; omega) hr.p
      have pb := rPartsI_c q hr.b0 (by have := hr.le; omega) hr.q
      have m1 := iMul_c p.num (q.den : Int) hr.bn hr.be
      have m2 := iMul_c q.num (p.den : Int) hr.bm hr.bd
      have cp := iCompare_c _ _ hr.ne hr.md
      rw [cmpR_Z] at cp
      have hx := Ext.refl w
      clear h1 h2 hr hpq
      go_enter Tryz.func64, Tryz.ntmps64
      go_wp2_with fail
      ((with_reducible refine (q1 _).mono ?_); rintro e w1 ⟨rfl, rfl⟩)
      go_wp2_with fail
      ((with_reducible refine (q2 _).mono ?_); rintro e w2 ⟨rfl, rfl⟩)
      go_wp2_with fail
      ((with_reducible refine (pa _ (hw.ext hx)).mono ?_); rintro e w3 ⟨rfl, hx3⟩)
      replace hx := hx.trans hx3
      go_wp2_with fail
      ((with_reducible refine (pb _ (hw.ext hx)).mono ?_); rintro e w4 ⟨rfl, hx4⟩)
      replace hx := hx.trans hx4
      go_wp2_with fail
      ((with_reducible refine (m1 _ (hw.ext hx)).mono ?_); rintro e w5 ⟨rfl, hx5⟩)
      replace hx := hx.trans hx5
      go_wp2_with fail
      ((with_reducible refine (m2 _ (hw.ext hx)).mono ?_); rintro e w6 ⟨rfl, hx6⟩)
      replace hx := hx.trans hx6
      go_wp2_with fail
      ((with_reducible refine (cp _).mono ?_); rintro e w7 ⟨rfl, hx7⟩)
      replace hx := hx.trans hx7
      go_wp2
      go_ret
      exact ⟨rfl, hx⟩
  · have q1 := rQuickV_c p hr.lp
    rw [quickR_no h1] at q1
    have n1 : (R p == R q) = false := by rw [beq_eq_false_iff_ne]; exact fun e => hpq (R_inj e)
    have pa := rPartsI_c p hr.a0 (by have := hr.le; omega) hr.p
    have pb := rPartsI_c q hr.b0 (by have := hr.le; omega) hr.q
    have m1 := iMul_c p.num (q.den : Int) hr.bn hr.be
    have m2 := iMul_c q.num (p.den : Int) hr.bm hr.bd
    have cp := iCompare_c _ _ hr.ne hr.md
    rw [cmpR_Z] at cp
    have hx := Ext.refl w
    clear h1 hr hpq
    go_enter Tryz.func64, Tryz.ntmps64
    go_wp2_with fail
    ((with_reducible refine (q1 _).mono ?_); rintro e w1 ⟨rfl, rfl⟩)
    go_wp2_with fail
    ((with_reducible refine (pa _ (hw.ext hx)).mono ?_); rintro e w3 ⟨rfl, hx3⟩)
    replace hx := hx.trans hx3
    go_wp2_with fail
    ((with_reducible refine (pb _ (hw.ext hx)).mono ?_); rintro e w4 ⟨rfl, hx4⟩)
    replace hx := hx.trans hx4
    go_wp2_with fail
    ((with_reducible refine (m1 _ (hw.ext hx)).mono ?_); rintro e w5 ⟨rfl, hx5⟩)
    replace hx := hx.trans hx5
    go_wp2_with fail
    ((with_reducible refine (m2 _ (hw.ext hx)).mono ?_); rintro e w6 ⟨rfl, hx6⟩)
    replace hx := hx.trans hx6
    go_wp2_with fail
    ((with_reducible refine (cp _).mono ?_); rintro e w7 ⟨rfl, hx7⟩)
    replace hx := hx.trans hx7
    go_wp2
    go_ret
    exact ⟨rfl, hx⟩
end Go.Proofs.YtblijhokcjpeeaaGreatDoor
/- rational: Max, Min, Sub, Div, Floor, Whole, New, Of, Check. -/
namespace Go.Proofs.YtblijhokcjpeeaaGreatDoor
open Go.RowKit Kl

theorem Rm.swap {a b : Nat} {p q : Rat} (h : Rm a b p q) : Rm b a q p := ⟨h.q, h.p, h.b0, h.a0, by have := h.le; omega⟩
set_option maxHeartbeats 1000000 in
theorem rMax_c (p q : Rat) {a b : Nat} (hr : Rm a b p q) (w : World) (hw : Okw w) : Calls Tryz.prog 83 #[S (R p), S (R q)] w (RetS (R (maxR p q)) w) := by
  have hc := rCompare_c q p hr.swap w hw
  clear hr
  by_cases h : p < q
  · have HM : Hid (maxR p q = q) := Lib.hid (if_pos h)
    rw [cmpR_gt h] at hc
    go_enter Tryz.func83, Tryz.ntmps83
    go_wp2_with fail
    ((with_reducible refine hc.mono ?_); rintro e w1 ⟨rfl, hx⟩)
    go_wp2
    go_ret
    exact ⟨ret_s (by rw [HM.out]), hx⟩
  · have HM : Hid (maxR p q = p) := Lib.hid (if_neg h)
    obtain ⟨s, hs, hs0⟩ : ∃ s : Int, s = cmpR q p ∧ ¬ s > 0 := by
      by_cases e : q = p
      · exact ⟨_, rfl, by rw [cmpR_eq e]; omega⟩
      · exact ⟨_, rfl, by rw [cmpR_lt (by grind)]; omega⟩
    rw [← hs] at hc
    clear hs h
    go_enter Tryz.func83, Tryz.ntmps83
    go_wp2_with fail
    ((with_reducible refine hc.mono ?_); rintro e w1 ⟨rfl, hx⟩)
    go_wp2
    go_ret
    exact ⟨ret_s (by rw [HM.out]), hx⟩
set_option maxHeartbeats 1000000 in
theorem rMin_c (p q : Rat) {a b : Nat} (hr : Rm a b p q) (w : World) (hw : Okw w) : Calls Tryz.prog 84 #[S (R p), S (R q)] w (RetS (R (minR p q)) w) := by
  have hc := rCompare_c q p hr.swap w hw
  clear hr
  by_cases h : q < p
  · have HM : Hid (minR p q = q) := Lib.hid (if_pos h)
    rw [cmpR_lt h] at hc
    go_enter Tryz.func84, Tryz.ntmps84
    go_wp2_with fail
    ((with_reducible refine hc.mono ?_); rintro e w1 ⟨rfl, hx⟩)
    go_wp2
    go_ret
    exact ⟨ret_s (by rw [HM.out]), hx⟩
  · have HM : Hid (minR p q = p) := Lib.hid (if_neg h)
    obtain ⟨s, hs, hs0⟩ : ∃ s : Int, s = cmpR q p ∧ ¬ s < 0 := by
      by_cases e : q = p
      · exact ⟨_, rfl, by rw [cmpR_eq e]; omega⟩
      · exact ⟨_, rfl, by rw [cmpR_gt (by grind)]; omega⟩
    rw [← hs] at hc
    clear hs h
    go_enter Tryz.func84, Tryz.ntmps84
    go_wp2_with fail
    ((with_reducible refine hc.mono ?_); rintro e w1 ⟨rfl, hx⟩)
    go_wp2
    go_ret
    exact ⟨ret_s (by rw [HM.out]), hx⟩
set_option maxHeartbeats 1000000 in
theorem rSub_c (p q : Rat) {a b : Nat} (hr : Rm a b p q) (w : World) (hw : Okw w) : Calls Tryz.prog 71 #[S (R p), S (R q)] w (RetS (R (p - q)) w) := by
  have hn := rNeg_c q hr.b0 (by have := hr.le; omega) hr.q
  have ha := rAdd_c p (-q) (a := a) (b := b) ⟨hr.p, hr.q.neg, hr.a0, hr.b0, hr.le⟩
  rw [← Rat.sub_eq_add_neg] at ha
  clear hr
  go_enter Tryz.func71, Tryz.ntmps71
  go_wp2_with fail
  ((with_reducible refine (hn _).mono ?_); rintro e w1 ⟨rfl, hx1⟩)
  go_wp2_with fail
  ((with_reducible refine (ha _ (hw.ext hx1)).mono ?_); rintro e w2 ⟨rfl, hx2⟩)
  go_wp2
  go_ret
  exact ⟨rfl, hx1.trans hx2⟩
theorem rWhole_c (n : Int) (h0 : -9223372036854775808 ≤ n) (h1 : n ≤ 9223372036854775807) (w : World) (hw : Okw w) : Calls Tryz.prog 145 #[.int .i64 n] w (RetS (R (n : Rat)) w) := by
  have ho := iOf_c n h0 h1 w hw
  rw [R_int]
  clear h0 h1
  go_enter Tryz.func145, Tryz.ntmps145
  go_wp2_with fail
  ((with_reducible refine ho.mono ?_); rintro e w1 ⟨rfl, hx1⟩)
  go_wp2
  go_ret
  exact ⟨rfl, hx1⟩
theorem R_inv_pos {q : Rat} (h : 0 < q) : R q⁻¹ = frac (q.den : Int) q.num.toNat := by
  have hn : 0 < q.num := num_pos_iff.2 h
  rw [R_def, Rat.num_inv, Rat.den_inv, if_neg (by omega), Int.sign_eq_one_of_pos hn, Int.one_mul, show q.num.natAbs = q.num.toNat by omega]
theorem R_inv_neg {q : Rat} (h : q < 0) : R q⁻¹ = frac (-(q.den : Int)) (-q.num).toNat := by
  have hn : q.num < 0 := num_neg_iff.2 h
  rw [R_def, Rat.num_inv, Rat.den_inv, if_neg (by omega), Int.sign_eq_neg_one_of_neg hn, Int.neg_one_mul, show q.num.natAbs = (-q.num).toNat by omega]
theorem Bnd.neg {z : Int} (h : Bnd z) : Bnd (-z) := by unfold Bnd at h ⊢; rw [Int.natAbs_neg]; exact h
/-- A number and 0, no error. -/
def retRE (q : Rat) : Value := .tuple #[S (R q), .int .i64 0]
attribute [local go_sem] bs_idx
set_option maxHeartbeats 1000000 in
theorem rDiv_c (p q : Rat) (hq0 : q ≠ 0) {a b : Nat} (hr : Rm a b p q) (w : World) (hw : Okw w) : Calls Tryz.prog 58 #[S (R p), S (R q)] w (RetV (retRE (p / q)) w) := by
  have n1 := R_ne0 hq0
  have pb := rPartsI_c q hr.b0 (by have := hr.le; omega) hr.q
  have hm := rMul_c p q⁻¹ (a := a) (b := b) ⟨hr.p, hr.q.inv hr.b0, hr.a0, hr.b0, hr.le⟩
  rw [← Rat.div_def] at hm
  rcases R_head q with ⟨hn, e⟩ | ⟨hp, c, l, e, hd, hc⟩
  · rw [R_inv_neg hn] at hm
    have ne1 := iNeg_c q.num hr.bm
    have ne2 := iNeg_c (q.den : Int) hr.be
    have hj := rJoinI_c (-(q.den : Int)) (-q.num) (by have := num_neg_iff.2 hn; omega) hr.be.neg hr.bm.neg
    obtain ⟨c, hc⟩ : ∃ c : UInt8, c = 45 := ⟨_, rfl⟩
    have hl : 0 < (R q).length := by rw [e]; simp
    have hg : (R q)[0]'hl = c := by rw [List.getElem_of_eq e hl, hc]; rfl
    have hcb : ((c.toNat : Int) == 45) = true := by rw [hc]; rfl
    clear e hc hn hr hq0
    unfold retRE
    go_enter Tryz.func58, Tryz.ntmps58
    go_wp2_with fail
    ((with_reducible refine (pb _ hw).mono ?_); rintro e w1 ⟨rfl, hx⟩)
    go_wp2_with fail
    ((with_reducible refine (ne1 _).mono ?_); rintro e w2 ⟨rfl, hx2⟩)
    replace hx := hx.trans hx2
    go_wp2_with fail
    ((with_reducible refine (ne2 _).mono ?_); rintro e w3 ⟨rfl, hx3⟩)
    replace hx := hx.trans hx3
    go_wp2_with fail
    ((with_reducible refine (hj _).mono ?_); rintro e w4 ⟨rfl, hx4⟩)
    replace hx := hx.trans hx4
    go_wp2_with fail
    ((with_reducible refine (hm _ (hw.ext hx)).mono ?_); rintro e w5 ⟨rfl, hx5⟩)
    replace hx := hx.trans hx5
    go_wp2
    go_ret2
    exact ⟨rfl, hx⟩
  · have hp : 0 < q := by grind
    rw [R_inv_pos hp] at hm
    have hj := rJoinI_c (q.den : Int) q.num (num_pos_iff.2 hp) hr.be hr.bm
    have hl : 0 < (R q).length := by rw [e]; simp
    have hg : (R q)[0]'hl = c := by rw [List.getElem_of_eq e hl]; rfl
    have hcb : ((c.toNat : Int) == 45) = false := by rw [beq_eq_false_iff_ne]; intro k; exact hc (UInt8.toNat_inj.1 (by simp; omega))
    clear e hc hp hd hr hq0
    unfold retRE
    go_enter Tryz.func58, Tryz.ntmps58
    go_wp2_with fail
    ((with_reducible refine (pb _ hw).mono ?_); rintro e w1 ⟨rfl, hx⟩)
    go_wp2_with fail
    ((with_reducible refine (hj _).mono ?_); rintro e w4 ⟨rfl, hx4⟩)
    replace hx := hx.trans hx4
    go_wp2_with fail
    ((with_reducible refine (hm _ (hw.ext hx)).mono ?_); rintro e w5 ⟨rfl, hx5⟩)
    replace hx := hx.trans hx5
    go_wp2
    go_ret2
    exact ⟨rfl, hx⟩
theorem floor_neg (n : Int) (d : Nat) (hd : 0 < d) : n / (d : Int) = -((-n) / (d : Int) + if (-n) % (d : Int) = 0 then 0 else 1) := by
  have h1 := Int.mul_ediv_add_emod (-n) (d : Int)
  have h2 := Int.emod_nonneg (-n) (b := (d : Int)) (by omega)
  have h3 := Int.emod_lt_of_pos (-n) (b := (d : Int)) (by omega)
  obtain ⟨q, hq⟩ : ∃ q, q = (-n) / (d : Int) := ⟨_, rfl⟩
  obtain ⟨r, hr⟩ : ∃ r, r = (-n) % (d : Int) := ⟨_, rfl⟩
  rw [← hq, ← hr] at h1
  rw [← hr] at h2 h3
  rw [← hq, ← hr]
  split
  · next h0 =>
    refine (ud n d _ 0 (by omega) ?_ (by omega) (by omega)).1
    rw [Int.add_zero, Int.mul_neg]
    omega
  · next h0 =>
    refine (ud n d _ (d - r) (by omega) ?_ (by omega) (by omega)).1
    rw [Int.mul_neg, Int.mul_add, Int.mul_one]
    omega
set_option maxHeartbeats 1000000 in
theorem rFloor_c (q : Rat) {k : Nat} (hk : 0 < k) (hk2 : k ≤ 3990) (hz : Sz k q) (w : World) (hw : Okw w) : Calls Tryz.prog 62 #[S (R q)] w (RetS (I q.floor) w) := by
  have pb := rPartsI_c q hk (by omega) hz
  have bn : Bnd q.num := Bnd.of hz.num (by omega)
  have be : Bnd (q.den : Int) := Bnd.of (k := k) (by rw [Int.natAbs_natCast]; exact hz.den) (by omega)
  have hs := iSign_c q.num
  have hd0 := q.den_pos
  by_cases hn : q.num < 0
  · rw [sgn_neg hn] at hs
    have ne1 := iNeg_c q.num bn
    have dm := iDivMod_c (-q.num) (q.den : Int) bn.neg be (by omega)
    have hf := floor_neg q.num q.den hd0
    rw [← Rat.floor_def] at hf
    have hqn : (-q.num / (q.den : Int)).natAbs ≤ q.num.natAbs := by
      have := Int.natAbs_ediv_le_natAbs (-q.num) (q.den : Int)
      rwa [Int.natAbs_neg] at this
    unfold divModV at dm
    by_cases h0 : (-q.num) % (q.den : Int) = 0
    · rw [if_pos h0, Int.add_zero] at hf
      have ne2 := iNeg_c (-q.num / (q.den : Int)) (Nat.lt_of_le_of_lt hqn bn)
      rw [← hf] at ne2
      have hz0 : (I ((-q.num) % (q.den : Int)) == [48]) = true := by rw [h0, I_zero]; rfl
      clear h0 hf hqn hz hd0 bn be
      go_enter Tryz.func62, Tryz.ntmps62
      go_wp2_with fail
      ((with_reducible refine (pb _ hw).mono ?_); rintro e w1 ⟨rfl, hx⟩)
      go_wp2_with fail
      ((with_reducible refine (hs _).mono ?_); rintro e w2 ⟨rfl, hx2⟩)
      replace hx := hx.trans hx2
      go_wp2_with fail
      ((with_reducible refine (ne1 _).mono ?_); rintro e w3 ⟨rfl, hx3⟩)
      replace hx := hx.trans hx3
      go_wp2_with fail
      ((with_reducible refine (dm _ (hw.ext hx)).mono ?_); rintro e w4 ⟨rfl, hx4⟩)
      replace hx := hx.trans hx4
      go_wp2_with fail
      ((with_reducible refine (ne2 _).mono ?_); rintro e w5 ⟨rfl, hx5⟩)
      replace hx := hx.trans hx5
      go_wp2
      go_ret
      exact ⟨rfl, hx⟩
    · rw [if_neg h0] at hf
      have hb2 : Bnd (-q.num / (q.den : Int)) := Nat.lt_of_le_of_lt hqn bn
      have hb1 : Bnd 1 := Bnd.of (k := 1) (by decide) (by omega)
      have ad := iAdd_c (-q.num / (q.den : Int)) 1 hb2 hb1
      rw [I_one] at ad
      have ne2 := iNeg_c (-q.num / (q.den : Int) + 1) (Bnd.of (k := k + 1) (Nat.lt_of_le_of_lt (Int.natAbs_add_le _ _) (add_lt_pow (Nat.lt_of_le_of_lt hqn hz.num) (Nat.one_lt_pow (by omega) (by omega)))) (by omega))
      rw [← hf] at ne2
      have hz0 : (I ((-q.num) % (q.den : Int)) == [48]) = false := I_ne0 h0
      clear h0 hf hqn hz hd0 bn be hb2 hb1
      go_enter Tryz.func62, Tryz.ntmps62
      go_wp2_with fail
      ((with_reducible refine (pb _ hw).mono ?_); rintro e w1 ⟨rfl, hx⟩)
      go_wp2_with fail
      ((with_reducible refine (hs _).mono ?_); rintro e w2 ⟨rfl, hx2⟩)
      replace hx := hx.trans hx2
      go_wp2_with fail
      ((with_reducible refine (ne1 _).mono ?_); rintro e w3 ⟨rfl, hx3⟩)
      replace hx := hx.trans hx3
      go_wp2_with fail
      ((with_reducible refine (dm _ (hw.ext hx)).mono ?_); rintro e w4 ⟨rfl, hx4⟩)
      replace hx := hx.trans hx4
      go_wp2_with fail
      ((with_reducible refine (ad _ (hw.ext hx)).mono ?_); rintro e w6 ⟨rfl, hx6⟩)
      replace hx := hx.trans hx6
      go_wp2_with fail
      ((with_reducible refine (ne2 _).mono ?_); rintro e w5 ⟨rfl, hx5⟩)
      replace hx := hx.trans hx5
      go_wp2
      go_ret
      exact ⟨rfl, hx⟩
  · have dm := iDivMod_c q.num (q.den : Int) bn be (by omega)
    unfold divModV at dm
    rw [← Rat.floor_def] at dm
    obtain ⟨s, hsg, hs0⟩ : ∃ s : Int, s = sgn q.num ∧ 0 ≤ s := ⟨_, rfl, by unfold sgn; split <;> (try split) <;> omega⟩
    rw [← hsg] at hs
    clear hsg hn hz hd0 bn be
    go_enter Tryz.func62, Tryz.ntmps62
    go_wp2_with fail
    ((with_reducible refine (pb _ hw).mono ?_); rintro e w1 ⟨rfl, hx⟩)
    go_wp2_with fail
    ((with_reducible refine (hs _).mono ?_); rintro e w2 ⟨rfl, hx2⟩)
    replace hx := hx.trans hx2
    go_wp2_with fail
    ((with_reducible refine (dm _ (hw.ext hx)).mono ?_); rintro e w4 ⟨rfl, hx4⟩)
    replace hx := hx.trans hx4
    go_wp2
    go_ret
    exact ⟨rfl, hx⟩
set_option maxHeartbeats 1000000 in
theorem rNew_c (n m : Int) (hn : Bnd n) (hm : Bnd m) (hm0 : 0 < m) (w : World) (hw : Okw w) : Calls Tryz.prog 102 #[S (I n), S (I m)] w (RetV (retRE (mkRat n m.toNat)) w) := by
  have hs := iSign_c m
  rw [sgn_pos hm0] at hs
  have lo := rLowest_c n m hn hm hm0
  clear hn hm hm0
  unfold retRE
  go_enter Tryz.func102, Tryz.ntmps102
  go_wp2_with fail
  ((with_reducible refine (hs _).mono ?_); rintro e w1 ⟨rfl, hx⟩)
  go_wp2_with fail
  ((with_reducible refine (lo _ (hw.ext hx)).mono ?_); rintro e w2 ⟨rfl, hx2⟩)
  go_wp2
  go_ret2
  exact ⟨rfl, hx.trans hx2⟩
theorem Bnd.small {z : Int} (h0 : -9223372036854775808 ≤ z) (h1 : z ≤ 9223372036854775807) : Bnd z := by
  refine Bnd.of (k := 19) ?_ (by omega)
  have e : (10 : Nat) ^ 19 = 10000000000000000000 := by decide
  omega
set_option maxHeartbeats 1000000 in
theorem rOf_c (n m : Int) (h0 : -9223372036854775808 ≤ n) (h1 : n ≤ 9223372036854775807) (hm0 : 0 < m) (hm1 : m ≤ 9223372036854775807) (w : World) (hw : Okw w) : Calls Tryz.prog 51 #[.int .i64 n, .int .i64 m] w (RetV (retRE (mkRat n m.toNat)) w) := by
  have o1 := iOf_c n h0 h1
  have o2 := iOf_c m (by omega) hm1
  have nw := rNew_c n m (Bnd.small h0 h1) (Bnd.small (by omega) hm1) hm0
  clear h0 h1 hm0 hm1
  unfold retRE at nw ⊢
  go_enter Tryz.func51, Tryz.ntmps51
  go_wp2_with fail
  ((with_reducible refine (o1 _ hw).mono ?_); rintro e w1 ⟨rfl, hx⟩)
  go_wp2_with fail
  ((with_reducible refine (o2 _ (hw.ext hx)).mono ?_); rintro e w2 ⟨rfl, hx2⟩)
  replace hx := hx.trans hx2
  go_wp2_with fail
  ((with_reducible refine (nw _ (hw.ext hx)).mono ?_); rintro e w3 ⟨rfl, hx3⟩)
  replace hx := hx.trans hx3
  go_wp2
  go_ret2
  exact ⟨rfl, hx⟩
end Go.Proofs.YtblijhokcjpeeaaGreatDoor
namespace Go.Proofs.YtblijhokcjpeeaaGreatDoor
open Go.RowKit Kl

theorem Bnd.of_len {z : Int} {k : Nat} (h : (D z.natAbs).length ≤ k) (hk : k ≤ 4000) : Bnd z := Bnd.of (lt_pow_of_len h) hk
section
variable {l n d : Bs}
set_option maxHeartbeats 1000000 in
theorem rCheck_plain (hl : l.length < 100000) (hn : (47 : UInt8) ∉ l) (b : Bool) (hb : ∀ W, Calls Tryz.prog 110 #[S l] W (RetI (chkV b) W)) (w : World) (hw : Okw w) :
    Calls Tryz.prog 56 #[S l] w (RetI (chkV b) w) := by
  have hc := cut_c l [47] w hw (by omega)
  rw [cut_miss hn] at hc
  cases b
  · rw [chkV_f] at hb ⊢
    go_enter Tryz.func56, Tryz.ntmps56
    go_wp2_with fail
    ((with_reducible refine hc.mono ?_); rintro e w1 ⟨rfl, hx⟩)
    go_wp2_with fail
    ((with_reducible refine (hb _).mono ?_); rintro e w2 ⟨rfl, hx2⟩)
    go_wp2
    go_ret
    exact ⟨rfl, hx.trans hx2⟩
  · rw [chkV_t] at hb ⊢
    go_enter Tryz.func56, Tryz.ntmps56
    go_wp2_with fail
    ((with_reducible refine hc.mono ?_); rintro e w1 ⟨rfl, hx⟩)
    go_wp2_with fail
    ((with_reducible refine (hb _).mono ?_); rintro e w2 ⟨rfl, hx2⟩)
    go_wp2
    go_ret
    exact ⟨rfl, hx.trans hx2⟩
set_option maxHeartbeats 1000000 in
theorem rCheck_num (hl : (n ++ 47 :: d).length < 100000) (hn : (47 : UInt8) ∉ n) (hb : ∀ W, Calls Tryz.prog 110 #[S n] W (RetI 2 W)) (w : World) (hw : Okw w) :
    Calls Tryz.prog 56 #[S (n ++ 47 :: d)] w (RetI 2 w) := by
  have hc := cut_c (n ++ 47 :: d) [47] w hw (by omega)
  rw [cut_hit hn] at hc
  go_enter Tryz.func56, Tryz.ntmps56
  go_wp2_with fail
  ((with_reducible refine hc.mono ?_); rintro e w1 ⟨rfl, hx⟩)
  go_wp2_with fail
  ((with_reducible refine (hb _).mono ?_); rintro e w2 ⟨rfl, hx2⟩)
  go_wp2
  go_ret
  exact ⟨rfl, hx.trans hx2⟩
set_option maxHeartbeats 1000000 in
theorem rCheck_den (hl : (n ++ 47 :: d).length < 100000) (hn : (47 : UInt8) ∉ n) (ha : ∀ W, Calls Tryz.prog 110 #[S n] W (RetI 0 W)) (hb : ∀ W, Calls Tryz.prog 110 #[S d] W (RetI 2 W)) (w : World) (hw : Okw w) :
    Calls Tryz.prog 56 #[S (n ++ 47 :: d)] w (RetI 2 w) := by
  have hc := cut_c (n ++ 47 :: d) [47] w hw (by omega)
  rw [cut_hit hn] at hc
  go_enter Tryz.func56, Tryz.ntmps56
  go_wp2_with fail
  ((with_reducible refine hc.mono ?_); rintro e w1 ⟨rfl, hx⟩)
  go_wp2_with fail
  ((with_reducible refine (ha _).mono ?_); rintro e w2 ⟨rfl, hx2⟩)
  replace hx := hx.trans hx2
  go_wp2_with fail
  ((with_reducible refine (hb _).mono ?_); rintro e w3 ⟨rfl, hx3⟩)
  replace hx := hx.trans hx3
  go_wp2
  go_ret
  exact ⟨rfl, hx⟩
end
def slashOk (a b : Int) : Bool := decide (1 < b) && decide (a ≠ 0) && decide (Int.gcd a b = 1)
set_option maxRecDepth 100000 in
set_option maxHeartbeats 2000000 in
theorem rCheck_both (a b : Int) (hla : (D a.natAbs).length ≤ 200) (hlb : (D b.natAbs).length ≤ 200) (w : World) (hw : Okw w) :
    Calls Tryz.prog 56 #[S (I a ++ 47 :: I b)] w (RetI (chkV (slashOk a b)) w) := by
  have ba := Bnd.of_len hla (by omega)
  have bb := Bnd.of_len hlb (by omega)
  have l1 := ba.len
  have l2 := bb.len
  have hc := cut_c (I a ++ 47 :: I b) [47] w hw (by rw [List.length_append, List.length_cons]; omega)
  rw [cut_hit (I_no47 a)] at hc
  have ca := iCheck_c (I a)
  have cb := iCheck_c (I b)
  rw [if_pos ⟨a, rfl, hla⟩] at ca
  rw [if_pos ⟨b, rfl, hlb⟩] at cb
  have hb1 : Bnd 1 := Bnd.of (k := 1) (by decide) (by omega)
  have cp := iCompare_c b 1 bb hb1
  rw [I_one] at cp
  have gc := iGcdI_c a b ba bb
  have hlen : (I a ++ 47 :: I b).length < 10000 := by rw [List.length_append, List.length_cons]; omega
  obtain ⟨l, hl⟩ : ∃ l, l = I a ++ 47 :: I b := ⟨_, rfl⟩
  rw [← hl] at hc ⊢
  clear hl hla hlb ba bb hlen
  by_cases h1 : 1 < b
  · rw [cmpZ_gt h1] at cp
    by_cases h2 : a = 0
    · have HV : Hid (chkV (slashOk a b) = 2) := Lib.hid (by unfold slashOk; rw [decide_eq_false (p := a ≠ 0) (by simpa using h2)]; simp; rfl)
      have hz : (I a == [48]) = true := by rw [h2, I_zero]; rfl
      clear gc h2
      go_enter Tryz.func56, Tryz.ntmps56
      go_wp2_with fail
      ((with_reducible refine hc.mono ?_); rintro e w1 ⟨rfl, hx⟩)
      go_wp2_with fail
      ((with_reducible refine (ca _).mono ?_); rintro e w2 ⟨rfl, hx2⟩)
      replace hx := hx.trans hx2
      go_wp2_with fail
      ((with_reducible refine (cb _).mono ?_); rintro e w3 ⟨rfl, hx3⟩)
      replace hx := hx.trans hx3
      go_wp2_with fail
      ((with_reducible refine (cp _).mono ?_); rintro e w4 ⟨rfl, hx4⟩)
      replace hx := hx.trans hx4
      go_wp2
      go_ret
      exact ⟨ret_i HV.out, hx⟩
    · have hz := I_ne0 h2
      have HV : Hid (chkV (slashOk a b) = if Int.gcd a b = 1 then 0 else 2) := Lib.hid (by
        unfold slashOk; rw [decide_eq_true h1, decide_eq_true (p := a ≠ 0) h2]
        by_cases h : Int.gcd a b = 1
        · rw [if_pos h, decide_eq_true h]; rfl
        · rw [if_neg h, decide_eq_false h]; rfl)
      by_cases h3 : Int.gcd a b = 1
      · rw [if_pos h3] at HV
        have hg1 : (I (Int.gcd a b : Nat) == [49]) = true := by rw [h3]; rw [show ((1 : Nat) : Int) = 1 from rfl, I_one]; rfl
        clear h3 h2
        go_enter Tryz.func56, Tryz.ntmps56
        go_wp2_with fail
        ((with_reducible refine hc.mono ?_); rintro e w1 ⟨rfl, hx⟩)
        go_wp2_with fail
        ((with_reducible refine (ca _).mono ?_); rintro e w2 ⟨rfl, hx2⟩)
        replace hx := hx.trans hx2
        go_wp2_with fail
        ((with_reducible refine (cb _).mono ?_); rintro e w3 ⟨rfl, hx3⟩)
        replace hx := hx.trans hx3
        go_wp2_with fail
        ((with_reducible refine (cp _).mono ?_); rintro e w4 ⟨rfl, hx4⟩)
        replace hx := hx.trans hx4
        go_wp2_with fail
        ((with_reducible refine (gc _ (hw.ext hx)).mono ?_); rintro e w5 ⟨rfl, hx5⟩)
        replace hx := hx.trans hx5
        go_wp2
        go_ret
        exact ⟨ret_i HV.out, hx⟩
      · rw [if_neg h3] at HV
        have hg1 : (I (Int.gcd a b : Nat) == [49]) = false := I_ne1 (by omega)
        clear h3 h2
        go_enter Tryz.func56, Tryz.ntmps56
        go_wp2_with fail
        ((with_reducible refine hc.mono ?_); rintro e w1 ⟨rfl, hx⟩)
        go_wp2_with fail
        ((with_reducible refine (ca _).mono ?_); rintro e w2 ⟨rfl, hx2⟩)
        replace hx := hx.trans hx2
        go_wp2_with fail
        ((with_reducible refine (cb _).mono ?_); rintro e w3 ⟨rfl, hx3⟩)
        replace hx := hx.trans hx3
        go_wp2_with fail
        ((with_reducible refine (cp _).mono ?_); rintro e w4 ⟨rfl, hx4⟩)
        replace hx := hx.trans hx4
        go_wp2_with fail
        ((with_reducible refine (gc _ (hw.ext hx)).mono ?_); rintro e w5 ⟨rfl, hx5⟩)
        replace hx := hx.trans hx5
        go_wp2
        go_ret
        exact ⟨ret_i HV.out, hx⟩
  · have HV : Hid (chkV (slashOk a b) = 2) := Lib.hid (by unfold slashOk; rw [decide_eq_false h1]; rfl)
    obtain ⟨s, hs, hs0⟩ : ∃ s : Int, s = cmpZ b 1 ∧ s ≤ 0 := ⟨_, rfl, by unfold cmpZ; split <;> (try split) <;> omega⟩
    rw [← hs] at cp
    clear hs gc h1
    go_enter Tryz.func56, Tryz.ntmps56
    go_wp2_with fail
    ((with_reducible refine hc.mono ?_); rintro e w1 ⟨rfl, hx⟩)
    go_wp2_with fail
    ((with_reducible refine (ca _).mono ?_); rintro e w2 ⟨rfl, hx2⟩)
    replace hx := hx.trans hx2
    go_wp2_with fail
    ((with_reducible refine (cb _).mono ?_); rintro e w3 ⟨rfl, hx3⟩)
    replace hx := hx.trans hx3
    go_wp2_with fail
    ((with_reducible refine (cp _).mono ?_); rintro e w4 ⟨rfl, hx4⟩)
    replace hx := hx.trans hx4
    go_wp2
    go_ret
    exact ⟨ret_i HV.out, hx⟩
open Classical in
theorem chkI_val (l : Bs) : (if OkI l then (0 : Int) else 2) = chkV (decide (OkI l)) := by
  by_cases h : OkI l
  · rw [if_pos h, decide_eq_true h]; rfl
  · rw [if_neg h, decide_eq_false h]; rfl
open Classical in
/-- Check answers 0 for a fraction with parts of at most 200 digits, else ErrNumber. -/
theorem rCheck_c (l : Bs) (hl : l.length < 100000) (w : World) (hw : Okw w) : Calls Tryz.prog 56 #[S l] w (RetI (chkV (decide (OkR l))) w) := by
  rcases cut_cases l with ⟨n, d, rfl, hn, -⟩ | ⟨hn, -⟩
  · have ca := iCheck_c n
    have cb := iCheck_c d
    by_cases h1 : OkI n
    · rw [if_pos h1] at ca
      by_cases h2 : OkI d
      · obtain ⟨a, rfl, ha⟩ := h1
        obtain ⟨b, rfl, hb⟩ := h2
        have h := rCheck_both a b ha hb w hw
        have e : slashOk a b = decide (OkR (I a ++ 47 :: I b)) := by
          rw [Bool.eq_iff_iff, decide_eq_true_eq, okR_slash hn]
          unfold slashOk
          simp only [Bool.and_eq_true, decide_eq_true_eq]
          constructor
          · rintro ⟨⟨x1, x2⟩, x3⟩
            exact ⟨a, b, rfl, rfl, ha, hb, x1, x2, x3⟩
          · rintro ⟨a', b', e1, e2, _, _, x1, x2, x3⟩
            obtain rfl := I_inj e1
            obtain rfl := I_inj e2
            exact ⟨⟨x1, x2⟩, x3⟩
        rw [← e]; exact h
      · rw [if_neg h2] at cb
        have e : decide (OkR (n ++ 47 :: d)) = false := by
          rw [decide_eq_false_iff_not, okR_slash hn]
          rintro ⟨a, b, _, e2, _, hb, _⟩
          exact h2 ⟨b, e2, hb⟩
        rw [e]
        exact rCheck_den hl hn ca cb w hw
    · rw [if_neg h1] at ca
      have e : decide (OkR (n ++ 47 :: d)) = false := by
        rw [decide_eq_false_iff_not, okR_slash hn]
        rintro ⟨a, b, e1, _, ha, _⟩
        exact h1 ⟨a, e1, ha⟩
      rw [e]
      exact rCheck_num hl hn ca w hw
  · have ca := iCheck_c l
    simp only [chkI_val] at ca
    have e : decide (OkR l) = decide (OkI l) := by rw [Bool.eq_iff_iff, decide_eq_true_eq, decide_eq_true_eq]; exact okR_plain hn
    rw [e]
    exact rCheck_plain hl hn _ ca w hw
end Go.Proofs.YtblijhokcjpeeaaGreatDoor
