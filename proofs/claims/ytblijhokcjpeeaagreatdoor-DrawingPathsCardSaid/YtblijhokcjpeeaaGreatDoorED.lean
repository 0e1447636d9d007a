/- The reference of layer 2, at any numbers: Sign, Neg, Add, Sub, Mul, Div, Compare, Floor, Nearest. -/
import Derived.Test.YtblijhokcjpeeaaGreatDoorEC
import Derived.Test.YtblijhokcjpeeaaGreatDoorMH
import Derived.Test.YtblijhokcjpeeaaGreatDoorMQ
import Derived.Test.YtblijhokcjpeeaaGreatDoorMK
/- The reference of layer 1: DivMod, Gcd. -/
namespace Go.Proofs.YtblijhokcjpeeaaGreatDoor
open Go.RowKit Kl

/-! ### the plain law -/
theorem rdm_exact (x y : Int) (h : x % y = 0) : x.tdiv y = x / y := Int.tdiv_eq_ediv_of_dvd (Int.dvd_of_emod_eq_zero h)
theorem rdm_sub (x y : Int) (hy : y ≠ 0) : (x - x % y).tdiv y = x / y := by
  have h := Int.mul_ediv_add_emod x y
  rw [show x - x % y = y * (x / y) by omega, Int.mul_tdiv_cancel_left _ hy]
theorem rtmod_neg (x y : Int) (hx : x < 0) (hy : y ≠ 0) : (x.tmod y = 0 ∧ x % y = 0) ∨ (x.tmod y < 0 ∧ x.tmod y + (y.natAbs : Int) = x % y) := by
  have e := Int.tmod_eq_emod (a := x) (b := y)
  have h0 := Int.emod_nonneg x hy
  have h1 : x % y < y.natAbs := Int.emod_lt x hy
  by_cases hd : y ∣ x
  · rw [if_pos (.inr hd)] at e
    have := Int.emod_eq_zero_of_dvd hd
    exact .inl ⟨by rw [e, this]; rfl, this⟩
  · have hn : ¬ (0 ≤ x ∨ y ∣ x) := by
      rintro (h2 | h2)
      · omega
      · exact hd h2
    rw [if_neg hn] at e
    right
    omega
theorem sgI_f (n : Nat) : sgI false n = n := by unfold sgI; rw [if_neg (by simp)]
theorem sgI_t (n : Nat) : sgI true n = -(n : Int) := by unfold sgI; rw [if_pos rfl]
theorem rdm_long0 {a b : Int} {m n : Bool} (hm : m = decide (a < 0)) (hn : n = decide (b < 0)) (hb : b ≠ 0) (h : m = false ∨ a.natAbs % b.natAbs = 0) :
    sgI (!(m == n)) (a.natAbs / b.natAbs) = a / b ∧ sgI false (a.natAbs % b.natAbs) = a % b := by
  have hdm := Nat.div_add_mod a.natAbs b.natAbs
  have hml := Nat.mod_lt a.natAbs (show 0 < b.natAbs by omega)
  generalize hq : a.natAbs / b.natAbs = q at *
  generalize hr : a.natAbs % b.natAbs = r at *
  have hcast : (b.natAbs : Int) * q + r = a.natAbs := by exact_mod_cast hdm
  rw [sgI_f]
  by_cases ha0 : a < 0
  · have hm1 : m = true := by rw [hm]; exact decide_eq_true ha0
    have hr0 : r = 0 := by
      rcases h with h | h
      · rw [hm1] at h; cases h
      · exact h
    subst hr0
    by_cases hb0 : b < 0
    · have hn1 : n = true := by rw [hn]; exact decide_eq_true hb0
      rw [hm1, hn1, show (!(true == true)) = false from rfl, sgI_f]
      have hbb : (b.natAbs : Int) = -b := by omega
      rw [hbb, Int.neg_mul] at hcast
      have := ud a b q ((0 : Nat) : Int) hb (by omega) (by omega) (by omega)
      exact ⟨this.1.symm, this.2.symm⟩
    · have hn1 : n = false := by rw [hn]; exact decide_eq_false hb0
      rw [hm1, hn1, show (!(true == false)) = true from rfl, sgI_t]
      have hbb : (b.natAbs : Int) = b := by omega
      rw [hbb] at hcast
      have := ud a b (-(q : Int)) ((0 : Nat) : Int) hb (by rw [Int.mul_neg]; omega) (by omega) (by omega)
      exact ⟨this.1.symm, this.2.symm⟩
  · have hm1 : m = false := by rw [hm]; exact decide_eq_false ha0
    by_cases hb0 : b < 0
    · have hn1 : n = true := by rw [hn]; exact decide_eq_true hb0
      rw [hm1, hn1, show (!(false == true)) = true from rfl, sgI_t]
      have hbb : (b.natAbs : Int) = -b := by omega
      rw [hbb, Int.neg_mul] at hcast
      have := ud a b (-(q : Int)) (r : Int) hb (by rw [Int.mul_neg]; omega) (by omega) (by omega)
      exact ⟨this.1.symm, this.2.symm⟩
    · have hn1 : n = false := by rw [hn]; exact decide_eq_false hb0
      rw [hm1, hn1, show (!(false == false)) = false from rfl, sgI_f]
      have hbb : (b.natAbs : Int) = b := by omega
      rw [hbb] at hcast
      have := ud a b (q : Int) (r : Int) hb (by omega) (by omega) (by omega)
      exact ⟨this.1.symm, this.2.symm⟩
theorem rdm_long1 {a b : Int} {m n : Bool} (hm : m = decide (a < 0)) (hn : n = decide (b < 0)) (hb : b ≠ 0) (h : m = true) (h0 : 0 < a.natAbs % b.natAbs) :
    sgI (!(m == n)) (a.natAbs / b.natAbs + 1) = a / b ∧ sgI false (b.natAbs - a.natAbs % b.natAbs) = a % b := by
  have hdm := Nat.div_add_mod a.natAbs b.natAbs
  have hml := Nat.mod_lt a.natAbs (show 0 < b.natAbs by omega)
  generalize hq : a.natAbs / b.natAbs = q at *
  generalize hr : a.natAbs % b.natAbs = r at *
  have hcast : (b.natAbs : Int) * q + r = a.natAbs := by exact_mod_cast hdm
  have ha0 : a < 0 := by rw [h] at hm; exact of_decide_eq_true hm.symm
  rw [sgI_f, h]
  by_cases hb0 : b < 0
  · have hn1 : n = true := by rw [hn]; exact decide_eq_true hb0
    rw [hn1, show (!(true == true)) = false from rfl, sgI_f]
    have hbb : (b.natAbs : Int) = -b := by omega
    rw [hbb, Int.neg_mul] at hcast
    have := ud a b ((q + 1 : Nat) : Int) ((b.natAbs - r : Nat) : Int) hb (by rw [Int.natCast_add, Int.mul_add]; omega) (by omega) (by omega)
    exact ⟨this.1.symm, this.2.symm⟩
  · have hn1 : n = false := by rw [hn]; exact decide_eq_false hb0
    rw [hn1, show (!(true == false)) = true from rfl, sgI_t]
    have hbb : (b.natAbs : Int) = b := by omega
    rw [hbb] at hcast
    have := ud a b (-((q + 1 : Nat) : Int)) ((b.natAbs - r : Nat) : Int) hb (by rw [Int.mul_neg, Int.natCast_add, Int.mul_add]; omega) (by omega) (by omega)
    exact ⟨this.1.symm, this.2.symm⟩
/-- Quotient and remainder are returned. -/
abbrev RetQI (q r : Int) (w : World) : Ending → World → Prop := RetV (.tuple #[S (I q), S (I r)]) w
set_option maxRecDepth 100000 in
set_option maxHeartbeats 4000000 in
theorem refDivMod_short (a b : Int) (hb0 : b ≠ 0) (ha : (D a.natAbs).length ≤ 17) (hb : (D b.natAbs).length ≤ 17) (w : World) (hw : Okw w) : Calls Tryz.prog 136 #[S (I a), S (I b)] w (RetQI (a / b) (a % b) w) := by
  have ba := refBrief_yes a ha
  have bb := refBrief_yes b hb
  obtain ⟨a1, a2⟩ := short17 ha
  obtain ⟨b1, b2⟩ := short17 hb
  have hr0 := Int.emod_nonneg a hb0
  have hr1 : a % b < b.natAbs := Int.emod_lt a hb0
  have hq : (a / b).natAbs ≤ a.natAbs + 1 := by
    have h := Int.natAbs_ediv_le_natAbs a b
    omega
  have o1 := refOfI_c (a / b) (by omega) (by omega)
  have o2 := refOfI_c (a % b) (by omega) (by omega)
  have hbe : (b == 0) = false := by rw [beq_eq_false_iff_ne]; exact hb0
  have h3 := rdm_sub a b hb0
  have hneg := fun h => rtmod_neg a b h hb0
  have hex := rdm_exact a b
  obtain ⟨q, hqq⟩ : ∃ q, q = a / b := ⟨_, rfl⟩
  obtain ⟨r, hrr⟩ : ∃ r, r = a % b := ⟨_, rfl⟩
  rw [← hqq] at o1 hq h3 hex ⊢
  rw [← hrr] at o2 hr0 hr1 h3 hneg hex ⊢
  clear ha hb
  have hw1 : IntKind.i64.wrap (-b) = -b := IntWalk.i64_in _ (by omega)
  have hq1 : -200000000000000000 ≤ q := by omega
  have hq2 : q ≤ 200000000000000000 := by omega
  by_cases hx0 : 0 ≤ a
  · have h1 : a.tdiv b = q := by rw [hqq]; exact Int.tdiv_eq_ediv_of_nonneg hx0
    have h2 : a.tmod b = r := by rw [hrr]; exact Int.tmod_eq_emod_of_nonneg hx0
    have h1' : a / b = q := hqq.symm
    have h2' : a % b = r := hrr.symm
    have hw2 : IntKind.i64.wrap q = q := IntWalk.i64_in _ (by omega)
    have hw3 : IntKind.i64.wrap r = r := IntWalk.i64_in _ (by omega)
    clear hqq hrr h3 hneg hex hr1 hq
    go_enter Tryz.func136, Tryz.ntmps136
    go_wp2_with fail
    ((with_reducible refine (ba _).mono ?_); rintro e w1 ⟨rfl, hx1⟩)
    go_wp2_with fail
    ((with_reducible refine (bb _).mono ?_); rintro e w2 ⟨rfl, hx2⟩)
    have hE := hx1.trans hx2
    go_wp2_with fail
    go_quiet (fail)
    go_wp2_with fail
    ((with_reducible refine (o1 _ (hw.ext (hE.drewN _))).mono ?_); rintro e w3 ⟨rfl, hx3⟩)
    have hE3 := (hE.drewN _).trans hx3
    go_wp2_with fail
    ((with_reducible refine (o2 _ (hw.ext hE3)).mono ?_); rintro e w4 ⟨rfl, hx4⟩)
    go_wp2
    go_ret2
    exact ⟨rfl, hE3.trans hx4⟩
  · rcases hneg (by omega) with ⟨ht, hr⟩ | ⟨ht, hr⟩
    · have h1 : a.tdiv b = q := hex hr
      subst hr
      have hw2 : IntKind.i64.wrap q = q := IntWalk.i64_in _ (by omega)
      clear hqq hrr h3 hneg hex hr1 hq hr0
      go_enter Tryz.func136, Tryz.ntmps136
      go_wp2_with fail
      ((with_reducible refine (ba _).mono ?_); rintro e w1 ⟨rfl, hx1⟩)
      go_wp2_with fail
      ((with_reducible refine (bb _).mono ?_); rintro e w2 ⟨rfl, hx2⟩)
      have hE := hx1.trans hx2
      go_wp2_with fail
      go_quiet (fail)
      go_wp2_with fail
      ((with_reducible refine (o1 _ (hw.ext (hE.drewN _))).mono ?_); rintro e w3 ⟨rfl, hx3⟩)
      have hE3 := (hE.drewN _).trans hx3
      go_wp2_with fail
      ((with_reducible refine (o2 _ (hw.ext hE3)).mono ?_); rintro e w4 ⟨rfl, hx4⟩)
      go_wp2
      go_ret2
      exact ⟨rfl, hE3.trans hx4⟩
    · obtain ⟨t, htt⟩ : ∃ t, a.tmod b = t := ⟨_, rfl⟩
      rw [htt] at ht hr
      obtain ⟨u, hu⟩ : ∃ u, a.tdiv b = u := ⟨_, rfl⟩
      have hua : u.natAbs ≤ a.natAbs := by rw [← hu, Int.natAbs_tdiv]; exact Nat.div_le_self _ _
      have hw2 : IntKind.i64.wrap u = u := IntWalk.i64_in _ (by omega)
      have hw3 : IntKind.i64.wrap t = t := IntWalk.i64_in _ (by omega)
      have hmx : t + max b (-b) = r := by omega
      have hw4 : IntKind.i64.wrap r = r := IntWalk.i64_in _ (by omega)
      have hw5 : IntKind.i64.wrap (a - r) = a - r := IntWalk.i64_in _ (by omega)
      have hw6 : IntKind.i64.wrap q = q := IntWalk.i64_in _ (by omega)
      clear hqq hrr hneg hex hq hua
      go_enter Tryz.func136, Tryz.ntmps136
      go_wp2_with fail
      ((with_reducible refine (ba _).mono ?_); rintro e w1 ⟨rfl, hx1⟩)
      go_wp2_with fail
      ((with_reducible refine (bb _).mono ?_); rintro e w2 ⟨rfl, hx2⟩)
      have hE := hx1.trans hx2
      go_wp2_with fail
      go_quiet (fail)
      go_wp2_with fail
      ((with_reducible refine (o1 _ (hw.ext (hE.drewN _))).mono ?_); rintro e w3 ⟨rfl, hx3⟩)
      have hE3 := (hE.drewN _).trans hx3
      go_wp2_with fail
      ((with_reducible refine (o2 _ (hw.ext hE3)).mono ?_); rintro e w4 ⟨rfl, hx4⟩)
      go_wp2
      go_ret2
      exact ⟨rfl, hE3.trans hx4⟩
theorem ret_ss {a b : ByteArray} {c d : Bs} (h : a = ⟨c.toArray⟩) (k : b = ⟨d.toArray⟩) : Ending.returned (.tuple #[.string a, .string b]) = .returned (.tuple #[S c, S d]) := by rw [h, k]
set_option maxRecDepth 100000 in
set_option maxHeartbeats 8000000 in
theorem refDivMod_c (a b : Int) (hb0 : b ≠ 0) (K : Nat) (hK : K ≤ 8000) (hK0 : 0 < K) (ha : a.natAbs < 10 ^ K) (hb : b.natAbs < 10 ^ K) (w : World) (hw : Okw w) : Calls Tryz.prog 136 #[S (I a), S (I b)] w (RetQI (a / b) (a % b) w) := by
  have la := D_length_le hK0 ha
  have lb := D_length_le hK0 hb
  by_cases hsh : (D a.natAbs).length ≤ 17 ∧ (D b.natAbs).length ≤ 17
  · exact refDivMod_short a b hb0 hsh.1 hsh.2 w hw
  · obtain ⟨x, y, o1, o2, ba, bb, hoo⟩ := brief_two a b (by omega) (by omega) hsh
    obtain ⟨m, hm⟩ : ∃ m, m = decide (a < 0) := ⟨_, rfl⟩
    obtain ⟨n, hn⟩ : ∃ n, n = decide (b < 0) := ⟨_, rfl⟩
    obtain ⟨p, hp⟩ : ∃ p, p = a.natAbs := ⟨_, rfl⟩
    obtain ⟨q, hq⟩ : ∃ q, q = b.natAbs := ⟨_, rfl⟩
    have hq0 : 0 < q := by omega
    have sa := refSplit_c a m p hm hp (by rw [hp]; omega)
    have sb := refSplit_c b n q hn hq (by rw [hq]; omega)
    have z0 := rdm_long0 hm hn hb0
    have z1 := rdm_long1 hm hn hb0
    rw [← hp, ← hq] at z0 z1
    rw [← hp] at ha la
    rw [← hq] at hb lb
    have ta := refTakeD_c p (by omega)
    have tb := refTakeD_c q (by omega)
    have hpl := pcD ha
    have hql := pcD hb
    have pt := fun u v W => refParts_c p q hq0 (by omega) (by omega) u v W
    have hd1 : p / q ≤ p := Nat.div_le_self _ _
    have hd2 : p % q < q := Nat.mod_lt _ hq0
    obtain ⟨d, hdd⟩ : ∃ d, d = p / q := ⟨_, rfl⟩
    obtain ⟨r, hrr⟩ : ∃ r, r = p % q := ⟨_, rfl⟩
    rw [← hdd] at z0 z1 pt hd1
    rw [← hrr] at z0 z1 pt hd2
    have hdl : (D d).length ≤ K := Nat.le_trans (D_mono hd1) la
    have hrl : (D r).length ≤ K := Nat.le_trans (D_mono (Nat.le_of_lt hd2)) lb
    have hpq := lt_pow4s ha hb
    obtain ⟨g, hg⟩ : ∃ g, (!(m == n)) = g := ⟨_, rfl⟩
    rw [hg] at z0 z1
    by_cases hm0 : m = false
    · have hgn : g = n := by rw [← hg, hm0]; cases n <;> rfl
      obtain ⟨e1, e2⟩ := z0 (.inl hm0)
      rw [hgn] at e1
      have HZ1 := Lib.hid e1
      have HZ2 := Lib.hid e2
      have md1 := fun v W hW => refMade_c n d (by omega) v W hW
      have md2 := fun v W hW => refMade_c false r (by omega) v W hW
      subst hm0
      clear z0 z1 e1 e2 hm hn hp hq ha hb la lb hpl hql hd1 hd2 hdd hrr hdl hrl hpq hsh hq0 hb0 hgn hg
      rcases hoo with rfl | ⟨rfl, rfl⟩
      all_goals
        go_enter Tryz.func136, Tryz.ntmps136
        go_wp2_with fail
        ((with_reducible refine (ba _).mono ?_); rintro e w1 ⟨rfl, hx1⟩)
        go_wp2_with fail
        ((with_reducible refine (bb _).mono ?_); rintro e w2 ⟨rfl, hx2⟩)
        go_wp2_with fail
        ((with_reducible refine (sa _).mono ?_); rintro e w3 ⟨rfl, hx3⟩)
        go_wp2_with fail
        ((with_reducible refine (sb _).mono ?_); rintro e w4 ⟨rfl, hx4⟩)
        go_wp2_with fail
        ((with_reducible refine (ta _).mono ?_); rintro e w5 ⟨v5, rfl, hv5, hx5⟩)
        go_wp2_with fail
        ((with_reducible refine (tb _).mono ?_); rintro e w6 ⟨v6, rfl, hv6, hx6⟩)
        have hE := ((((hx1.trans hx2).trans hx3).trans hx4).trans hx5).trans hx6
        go_wp2_with fail
        ((with_reducible refine (pt _ _ _ (hv5.ext hx6) hv6).mono ?_); rintro e w7 ⟨v7, v8, rfl, hv7, hv8, hx7⟩)
        have hE7 := hE.trans hx7
        have hE7 := hE7
        clear ba bb sa sb ta tb pt hx1 hx2 hx3 hx4 hx5 hx6 hx7 hv5 hv6 hE
        go_wp2_with fail
        ((with_reducible refine (md1 _ _ (hw.ext hE7) hv7).mono ?_); rintro e w9 ⟨rfl, hx9⟩)
        go_wp2_with fail
        ((with_reducible refine (md2 _ _ (hw.ext (hE7.trans hx9)) (hv8.ext hx9)).mono ?_); rintro e wa ⟨rfl, hxa⟩)
        go_wp2
        go_ret2
        exact ⟨ret_ss (by rw [HZ1.out]) (by rw [HZ2.out]), (hE7.trans hx9).trans hxa⟩
    · have hmt : m = true := by simpa using hm0
      have hgn : g = !n := by rw [← hg, hmt]; cases n <;> rfl
      by_cases hr0 : r = 0
      · obtain ⟨e1, e2⟩ := z0 (.inr hr0)
        rw [hgn] at e1
        have HZ1 := Lib.hid e1
        have HZ2 := Lib.hid e2
        have HP0 : Hid (pc 10000 r = []) := Lib.hid (by rw [hr0]; exact pc_zero)
        have md1 := fun v W hW => refMade_c (!n) d (by omega) v W hW
        have md2 := fun v W hW => refMade_c false r (by omega) v W hW
        subst hmt
        clear z0 z1 e1 e2 hm hn hp hq ha hb la lb hpl hql hd1 hd2 hdd hrr hdl hrl hpq hsh hq0 hb0 hm0 hr0 hgn hg
        rcases hoo with rfl | ⟨rfl, rfl⟩
        all_goals
          go_enter Tryz.func136, Tryz.ntmps136
          go_wp2_with fail
          ((with_reducible refine (ba _).mono ?_); rintro e w1 ⟨rfl, hx1⟩)
          go_wp2_with fail
          ((with_reducible refine (bb _).mono ?_); rintro e w2 ⟨rfl, hx2⟩)
          go_wp2_with fail
          ((with_reducible refine (sa _).mono ?_); rintro e w3 ⟨rfl, hx3⟩)
          go_wp2_with fail
          ((with_reducible refine (sb _).mono ?_); rintro e w4 ⟨rfl, hx4⟩)
          go_wp2_with fail
          ((with_reducible refine (ta _).mono ?_); rintro e w5 ⟨v5, rfl, hv5, hx5⟩)
          go_wp2_with fail
          ((with_reducible refine (tb _).mono ?_); rintro e w6 ⟨v6, rfl, hv6, hx6⟩)
          have hE := ((((hx1.trans hx2).trans hx3).trans hx4).trans hx5).trans hx6
          go_wp2_with fail
          ((with_reducible refine (pt _ _ _ (hv5.ext hx6) hv6).mono ?_); rintro e w7 ⟨v7, v8, rfl, hv7, hv8, hx7⟩)
          have hE7 := hE.trans hx7
          clear ba bb sa sb ta tb pt hx1 hx2 hx3 hx4 hx5 hx6 hx7 hv5 hv6 hE
          obtain ⟨A8, c8, rfl, hz8⟩ := hv8
          have hv8 : RZ w7 (.slice A8 0 c8) (zn (pc 10000 r)) := ⟨A8, c8, by rw [HP0.out]; rfl, hz8⟩
          have hl8 : (zn (pc 10000 r)).length = 0 := by rw [HP0.out]; rfl
          rw [hl8]
          clear hl8 hz8
          go_wp2_with fail
          ((with_reducible refine (md1 _ _ (hw.ext hE7) hv7).mono ?_); rintro e w9 ⟨rfl, hx9⟩)
          go_wp2_with fail
          ((with_reducible refine (md2 _ _ (hw.ext (hE7.trans hx9)) (hv8.ext hx9)).mono ?_); rintro e wa ⟨rfl, hxa⟩)
          go_wp2
          go_ret2
          exact ⟨ret_ss (by rw [HZ1.out]) (by rw [HZ2.out]), (hE7.trans hx9).trans hxa⟩
      · obtain ⟨e1, e2⟩ := z1 hmt (by omega)
        rw [hgn] at e1
        have HZ1 := Lib.hid e1
        have HZ2 := Lib.hid e2
        have hp0 : 0 < (zn (pc 10000 r)).length := by rw [zn_length]; exact List.length_pos_iff.2 (fun e => hr0 ((pc_eq_nil (by omega)).1 e))
        have hd4 : d + 1 < 10000 ^ (K + 1) := by omega
        have hq4 : q - r < 10000 ^ (K + 1) := by omega
        have j1 := fun u v W => refJoined_c d 1 1 (d + 1) (K + 1) (by omega) hd4 (by omega) (by omega) (by omega) (by have := pcD (lt_pow_of_len hdl); omega) (by rw [pc_small (by omega) (by omega) (by omega)]; simp) u v W
        have j2 := fun u v W => refJoined_c q r (-1) (q - r) (K + 1) (by omega) hq4 (by omega) (by omega) (by omega) (by omega) (by have := pcD (lt_pow_of_len hrl); omega) u v W
        have hd5 : (D (d + 1)).length ≤ K + 1 := D_length_le (by omega) (by have := lt_pow_of_len hdl; rw [Nat.pow_succ]; omega)
        have md1 := fun v W hW => refMade_c (!n) (d + 1) (by omega) v W hW
        have md2 := fun v W hW => refMade_c false (q - r) (Nat.le_trans (D_mono (Nat.sub_le _ _)) (by omega)) v W hW
        subst hmt
        clear z0 z1 e1 e2 hm hn hp hq ha hb la lb hpl hql hd1 hd2 hdd hrr hdl hrl hpq hsh hq0 hb0 hm0 hr0 hd4 hq4 hd5 hgn hg
        rcases hoo with rfl | ⟨rfl, rfl⟩
        all_goals
          go_enter Tryz.func136, Tryz.ntmps136
          go_wp2_with fail
          ((with_reducible refine (ba _).mono ?_); rintro e w1 ⟨rfl, hx1⟩)
          go_wp2_with fail
          ((with_reducible refine (bb _).mono ?_); rintro e w2 ⟨rfl, hx2⟩)
          go_wp2_with fail
          ((with_reducible refine (sa _).mono ?_); rintro e w3 ⟨rfl, hx3⟩)
          go_wp2_with fail
          ((with_reducible refine (sb _).mono ?_); rintro e w4 ⟨rfl, hx4⟩)
          go_wp2_with fail
          ((with_reducible refine (ta _).mono ?_); rintro e w5 ⟨v5, rfl, hv5, hx5⟩)
          go_wp2_with fail
          ((with_reducible refine (tb _).mono ?_); rintro e w6 ⟨v6, rfl, hv6, hx6⟩)
          have hE := ((((hx1.trans hx2).trans hx3).trans hx4).trans hx5).trans hx6
          go_wp2_with fail
          ((with_reducible refine (pt _ _ _ (hv5.ext hx6) hv6).mono ?_); rintro e w7 ⟨v7, v8, rfl, hv7, hv8, hx7⟩)
          have hE7 := hE.trans hx7
          clear ba bb sa sb ta pt hx1 hx2 hx3 hx4 hx5 hx6 hx7 hv5 hv6 hE
          obtain ⟨A8, c8, rfl, hz8⟩ := hv8
          have hv8 : RZ w7 (.slice A8 (zn (pc 10000 r)).length c8) (zn (pc 10000 r)) := ⟨A8, c8, rfl, hz8⟩
          have hv1 : RZ (w7.alloc (.cells #[.int .i64 1] 3)) (.slice (some ⟨w7.heap.size, 0, none⟩) 1 1) (zn (pc 10000 1)) := by
            rw [pc_small (by omega) (by omega) (by omega)]
            exact RZ.lit w7 [1] 3 (by simp)
          have hx8 := (Ext.refl w7).alloc (.cells #[.int .i64 1] 3)
          go_wp2_with fail
          ((with_reducible refine (j1 _ _ _ (hv7.ext hx8) hv1).mono ?_); rintro e w9 ⟨v9, rfl, hv9, hx9⟩)
          have hx79 := hx8.trans hx9
          go_wp2_with fail
          ((with_reducible refine (tb _).mono ?_); rintro e wa ⟨va, rfl, hva, hxa⟩)
          go_wp2_with fail
          ((with_reducible refine (j2 _ _ _ hva ((hv8.ext hx79).ext hxa)).mono ?_); rintro e wb ⟨vb, rfl, hvb, hxb⟩)
          have hE7 := ((hE7.trans hx79).trans hxa).trans hxb
          have hv7 := (hv9.ext hxa).ext hxb
          have hv8 := hvb
          clear hx8 hx9 hx79 hxa hxb hv9 hva hvb hv1 tb j1 j2 hz8
          go_wp2_with fail
          ((with_reducible refine (md1 _ _ (hw.ext hE7) hv7).mono ?_); rintro e w9 ⟨rfl, hx9⟩)
          go_wp2_with fail
          ((with_reducible refine (md2 _ _ (hw.ext (hE7.trans hx9)) (hv8.ext hx9)).mono ?_); rintro e wa ⟨rfl, hxa⟩)
          go_wp2
          go_ret2
          exact ⟨ret_ss (by rw [HZ1.out]) (by rw [HZ2.out]), (hE7.trans hx9).trans hxa⟩
/-! ### Gcd -/
def gmeas : Value → Nat
  | .string s => val s.data.toList
  | _ => 0
theorem gmeas_S (l : Bs) : gmeas (S l) = val l := by simp [gmeas]
set_option maxRecDepth 100000 in
set_option maxHeartbeats 4000000 in
theorem refGcd_c (a b : Int) (K : Nat) (hK : K ≤ 8000) (hK0 : 0 < K) (ha : a.natAbs < 10 ^ K) (hb : b.natAbs < 10 ^ K) (w : World) (hw : Okw w) : Calls Tryz.prog 135 #[S (I a), S (I b)] w (RetS (D (Nat.gcd a.natAbs b.natAbs)) w) := by
  have la := D_length_le hK0 ha
  have lb := D_length_le hK0 hb
  have aa := refIAbs_c a (by omega)
  have ab := refIAbs_c b (by omega)
  obtain ⟨p, hp⟩ : ∃ p, p = a.natAbs := ⟨_, rfl⟩
  obtain ⟨q, hq⟩ : ∃ q, q = b.natAbs := ⟨_, rfl⟩
  rw [← hp] at aa ha la ⊢
  rw [← hq] at ab hb lb ⊢
  obtain ⟨g, hg⟩ : ∃ g, g = Nat.gcd p q := ⟨_, rfl⟩
  rw [← hg]
  have HG := Lib.hid hg
  have HA := Lib.hid ha
  have HB := Lib.hid hb
  clear hg hp hq ha hb
  go_enter Tryz.func135, Tryz.ntmps135
  go_wp2_with fail
  ((with_reducible refine (aa _).mono ?_); rintro e w1 ⟨rfl, hx1⟩)
  go_wp2_with fail
  ((with_reducible refine (ab _).mono ?_); rintro e w2 ⟨rfl, hx2⟩)
  have hE := hx1.trans hx2
  clear aa ab hx1 hx2
  go_wp2
  go_loopw [0, 1] (fun x y wr => ∃ c d : Nat, x = S (D c) ∧ y = S (D d) ∧ Nat.gcd c d = g ∧ c < 10 ^ K ∧ d < 10 ^ K ∧ Ext w wr) (fun _ y _ => gmeas y)
  case atStart => exact ⟨p, q, rfl, rfl, HG.out.symm, HA.out, HB.out, hE⟩
  case round =>
    clear hE
    obtain ⟨c, d, rfl, rfl, hgc, hc, hd, hext⟩ := hrel
    by_cases hd0 : d = 0
    · subst hd0
      have HC : Hid (c = g) := Lib.hid (by rw [← hgc]; simp)
      rw [D_small (show 0 < 10 by omega)]
      clear hgc hc hd
      go_wp2
      go_ret
      exact ⟨ret_s (by rw [HC.out]), hext⟩
    · have hne : (D d == [48]) = false := by
        rw [beq_eq_false_iff_ne]
        intro e
        exact hd0 (D_inj (e.trans (D_small (show 0 < 10 by omega)).symm))
      have dm := refDivMod_c (c : Int) (d : Int) (by omega) K hK hK0 (by rw [Int.natAbs_natCast]; exact hc) (by rw [Int.natAbs_natCast]; exact hd)
      unfold RetQI at dm
      rw [I_nat, I_nat, ← Int.natCast_ediv, ← Int.natCast_emod, I_nat, I_nat] at dm
      have HGT : Hid (Nat.gcd d (c % d) = g) := Lib.hid (by rw [← hgc, Nat.gcd_comm d, ← Nat.gcd_rec, Nat.gcd_comm])
      have hlt : c % d < d := Nat.mod_lt _ (by omega)
      have HD := Lib.hid hd
      have HLT := Lib.hid hlt
      clear hgc hc hd hd0 hlt
      go_wp2_with fail
      ((with_reducible refine (dm _ (hw.ext hext)).mono ?_); rintro e w3 ⟨rfl, hx3⟩)
      go_wp2
      go_roundw
      case rel => exact ⟨d, c % d, rfl, rfl, HGT.out, HD.out, Nat.lt_trans HLT.out HD.out, hext.trans hx3⟩
      case measure => rw [gmeas_S, gmeas_S, val_D, val_D]; exact HLT.out
end Go.Proofs.YtblijhokcjpeeaaGreatDoor
/- The reference of layer 2, at any numbers: small with a negative denominator, brief, Parts, Fraction. -/
namespace Go.Proofs.YtblijhokcjpeeaaGreatDoor
open Go.RowKit Kl
attribute [local go_sem] ext_hi ext_lo

set_option maxRecDepth 100000 in
set_option maxHeartbeats 2000000 in
theorem refSmallN_c (n : Int) (d : Nat) (hd : 0 < d) (hn1 : -9000000000000000000 ≤ n) (hn2 : n ≤ 9000000000000000000) (hd2 : d ≤ 9000000000000000000) (w : World) (hw : Okw w) :
    Calls Tryz.prog 132 #[S (I (-n)), S (I (-(d : Int)))] w (RetS (R (mkRat n d)) w) := by
  obtain ⟨n', d', hlow⟩ := low_of n hd
  obtain ⟨g, hg⟩ : ∃ g, g = Nat.gcd n.natAbs d := ⟨_, rfl⟩
  rw [← hg] at hlow
  obtain ⟨hR, e1, e2, hg0, hgd, b1, b2⟩ := hlow
  have ln : (I n').length ≤ 20 := I_length_le (z := n') (k := 19) (by omega) (by omega)
  have ld : (D d').length ≤ 19 := D_length_le (by omega) (by omega)
  obtain ⟨n0, hn0⟩ : ∃ x, x = -n := ⟨_, rfl⟩
  obtain ⟨d0, hd0⟩ : ∃ x, x = -(d : Int) := ⟨_, rfl⟩
  have hnn : -n0 = n := by omega
  have hdd : -d0 = (d : Int) := by omega
  have hdneg : d0 < 0 := by omega
  rw [← hn0, ← hd0]
  have at1 := atoi_ok n0 (by omega) (by omega)
  have at2 := atoi_ok d0 (by omega) (by omega)
  have hdi : (0 : Int) < (d : Int) := by omega
  have hw1 : IntKind.i64.wrap n = n := IntWalk.i64_in _ (by omega)
  have hw2 : IntKind.i64.wrap (d : Int) = d := IntWalk.i64_in _ (by omega)
  have HR := Lib.hid hR
  have HG := Lib.hid hg
  have H1 := Lib.hid e1
  have H2 := Lib.hid e2
  have i1 := fun W hW => itoa_c n' (by omega) (by omega) W hW
  have i2 := fun W hW => itoa_c (d' : Int) (by omega) (by omega) W hW
  rw [I_nat] at i2
  obtain ⟨na, hna⟩ : ∃ na : Nat, na = n.natAbs := ⟨_, rfl⟩
  have hna2 : na ≤ 9000000000000000000 := by omega
  have HNA := Lib.hid hna
  clear hR hg e1 e2 hna hn0 hd0
  by_cases hneg : n < 0
  case' pos =>
    have hneq : -n = (na : Int) := by have := HNA.out; omega
    go_enter Tryz.func132, Tryz.ntmps132
    go_wp2_with fail
    ((with_reducible refine (at1 _).mono ?_); rintro e w1 ⟨rfl, hx⟩)
    go_wp2_with fail
    ((with_reducible refine (at2 _).mono ?_); rintro e w2 ⟨rfl, hx2⟩)
    have hE := hx.trans hx2
    go_wp2
    clear hneq
  case' neg =>
    obtain ⟨m, hm⟩ := Int.eq_ofNat_of_zero_le (show 0 ≤ n by omega)
    obtain rfl : m = na := by have := HNA.out; omega
    subst hm
    go_enter Tryz.func132, Tryz.ntmps132
    go_wp2_with fail
    ((with_reducible refine (at1 _).mono ?_); rintro e w1 ⟨rfl, hx⟩)
    go_wp2_with fail
    ((with_reducible refine (at2 _).mono ?_); rintro e w2 ⟨rfl, hx2⟩)
    have hE := hx.trans hx2
    go_wp2
  all_goals
    clear at1 at2 hx hx2
    go_loopw [9, 10] (fun x y wr => ∃ a b : Nat, x = .int .i64 (a : Nat) ∧ y = .int .i64 (b : Nat) ∧ Nat.gcd a b = g ∧ a ≤ 9000000000000000000 ∧ b ≤ 9000000000000000000 ∧ Ext w wr) (fun _ y _ => (intOf y).natAbs)
    case atStart => exact ⟨_, d, rfl, rfl, by rw [HG.out, ← HNA.out], hna2, hd2, hE⟩
    case round =>
      obtain ⟨a, b, rfl, rfl, hgab, ha, hb, hext⟩ := hrel
      by_cases hb0 : b = 0
      · subst hb0
        obtain rfl : a = g := by rw [← hgab]; simp
        clear hgab
        have e1 := H1.out
        have e2 := H2.out
        have hgp : (0 : Int) < (a : Int) := by omega
        have hgz : ((a : Int) == 0) = false := by rw [beq_eq_false_iff_ne]; omega
        by_cases hl1 : d' = 1
        · subst hl1
          have HF : Hid (R (mkRat _ d) = I n') := Lib.hid (by rw [HR.out]; rfl)
          go_wp2_with fail
          go_quiet (fail)
          go_wp2_with fail
          ((with_reducible refine (i1 _ (hw.ext (hext.drewN _))).mono ?_); rintro e w3 ⟨rfl, hx3⟩)
          go_wp2
          go_ret
          exact ⟨ret_s (by rw [HF.out]), (hext.drewN _).trans hx3⟩
        · have HF : Hid (R (mkRat _ d) = I n' ++ 47 :: D d') := Lib.hid (by rw [HR.out]; exact if_neg hl1)
          have hdb : ((d' : Int) == 1) = false := by rw [beq_eq_false_iff_ne]; omega
          clear hl1
          go_wp2_with fail
          go_quiet (fail)
          go_wp2_with fail
          ((with_reducible refine (i1 _ (hw.ext (hext.drewN _))).mono ?_); rintro e w3 ⟨rfl, hx3⟩)
          have hx3 := (hext.drewN _).trans hx3
          go_wp2_with fail
          ((with_reducible refine (i2 _ (hw.ext hx3)).mono ?_); rintro e w4 ⟨rfl, hx4⟩)
          go_wp2
          go_ret
          exact ⟨ret_s (by rw [HF.out]; apply ByteArray.ext; simp), hx3.trans hx4⟩
      · have hlt : a % b < b := Nat.mod_lt _ (by omega)
        have hbne : ((b : Int) != 0) = true := by rw [bne_iff_ne]; omega
        have hbe : ((b : Int) == 0) = false := by rw [beq_eq_false_iff_ne]; omega
        have hbp : (0 : Int) < (b : Int) := by omega
        have HGT : Hid (Nat.gcd b (a % b) = g) := Lib.hid (by rw [← hgab, Nat.gcd_comm b, ← Nat.gcd_rec, Nat.gcd_comm])
        clear hgab
        go_wp2_with fail
        go_quiet (fail)
        go_wp2
        go_roundw
        case rel => exact ⟨b, a % b, rfl, by go_num, HGT.out, hb, by omega, hext.drewN _⟩
        case measure => simp [intOf]; omega

theorem rbrief_no (s : Bs) (hl : 9 < s.length) (w : World) : Calls Tryz.prog 74 #[S s] w (fun e w' => e = .returned (.tuple #[.int .i64 0, .int .i64 0, .bool false]) ∧ w = w') := by
  have h : (9 : Int) < (s.length : Int) := by omega
  clear hl
  go_enter Tryz.func74, Tryz.ntmps74
  go_wp2
  go_ret3
  exact ⟨rfl, rfl⟩
set_option maxRecDepth 100000 in
set_option maxHeartbeats 1000000 in
theorem refParts_q (q : Rat) {k : Nat} (hk : 0 < k) (hk2 : k ≤ 100000) (hz : Sz k q) (w : World) : Calls Tryz.prog 76 #[S (R q)] w (RetV (.tuple #[S (I q.num), S (I (q.den : Int))]) w) := by
  have hlen := R_length hk hz
  by_cases h : q.den = 1
  · have ib := indexByte_c (I q.num) 47
    rw [show (47 : Int).toNat.toUInt8 = 47 from rfl, indexByte_miss (I_no47 q.num)] at ib
    rw [R_whole h, h, show ((1 : Nat) : Int) = 1 from rfl, I_one]
    clear h
    go_enter Tryz.func76, Tryz.ntmps76
    go_wp2_with fail
    ((with_reducible refine (ib _).mono ?_); rintro e w1 ⟨rfl, hx1⟩)
    go_wp2
    go_ret2
    exact ⟨rfl, hx1⟩
  · have ib := indexByte_c (R q) 47
    rw [show (47 : Int).toNat.toUInt8 = 47 from rfl] at ib
    rw [R_frac h] at ib hlen ⊢
    rw [indexByte_hit (I_no47 q.num)] at ib
    obtain ⟨t, ht⟩ : ∃ t, I q.num ++ 47 :: D q.den = t := ⟨_, rfl⟩
    rw [ht] at ib hlen ⊢
    obtain ⟨L, hL⟩ : ∃ L, (I q.num).length = L := ⟨_, rfl⟩
    rw [hL] at ib
    have H1 : Hid (t.take L = I q.num) := Lib.hid (by rw [← ht, ← hL]; simp)
    have H2 : Hid (t.drop (L + 1) = D q.den) := Lib.hid (by rw [← ht, ← hL, ← List.drop_drop]; simp)
    have hlt : L + 1 ≤ t.length := by rw [← ht, ← hL, List.length_append, List.length_cons]; omega
    rw [I_nat]
    have hl0 : (0 : Int) ≤ (L : Int) := by omega
    have hl1 : (L : Int) ≤ (t.length : Int) := by omega
    have hl2 : (L : Int) + 1 ≤ (t.length : Int) := by omega
    have hl3 : (0 : Int) ≤ (L : Int) + 1 := by omega
    have hw1 : IntKind.i64.wrap ((L : Int) + 1) = (L : Int) + 1 := IntWalk.i64_in _ (by omega)
    have ht1 : ((L : Int) + 1).toNat = L + 1 := by omega
    clear h ht hL hlt
    go_enter Tryz.func76, Tryz.ntmps76
    go_wp2_with fail
    ((with_reducible refine (ib _).mono ?_); rintro e w1 ⟨rfl, hx1⟩)
    go_wp2_with fail
    go_quiet (fail)
    go_wp2
    go_ret2
    refine ⟨ret_ss (d := D q.den) ?_ ?_, hx1.drewN _⟩
    · rw [← H1.out]
    · rw [← H2.out]
/-! ### Fraction -/
theorem len_le9 {n : Int} (h : (I n).length ≤ 9) : n.natAbs < 1000000000 := by
  have e9 : (10 : Nat) ^ 9 = 1000000000 := by decide
  have := short_lt h
  rwa [e9] at this
set_option maxRecDepth 100000 in
set_option maxHeartbeats 4000000 in
theorem refFraction_c (n : Int) (d : Nat) (hd : 0 < d) (K : Nat) (hK : K ≤ 8000) (hK0 : 0 < K) (h1 : n.natAbs < 10 ^ K) (h2 : d < 10 ^ K) (w : World) (hw : Okw w) : Calls Tryz.prog 77 #[S (I n), S (I (d : Int))] w (RetS (R (mkRat n d)) w) := by
  have ln : (I n).length ≤ 8001 := Nat.le_trans (I_length_le (z := n) hK0 (by exact h1)) (by omega)
  have ld : (I (d : Int)).length ≤ 8001 := Nat.le_trans (I_length_le (z := (d : Int)) hK0 (by rw [Int.natAbs_natCast]; exact h2)) (by omega)
  by_cases hs : (I n).length ≤ 9 ∧ (I (d : Int)).length ≤ 9
  · exact refFraction_short n d hd hs.1 hs.2 w hw
  · have gc := refGcd_c n (d : Int) K hK hK0 h1 (by rw [Int.natAbs_natCast]; exact h2)
    rw [Int.natAbs_natCast] at gc
    have hg0 : 0 < Nat.gcd n.natAbs d := Nat.gcd_pos_of_pos_right _ hd
    have hgd : Nat.gcd n.natAbs d ≤ d := Nat.gcd_le_right _ hd
    have hR := R_mkRat n hd
    have hdd : d / Nat.gcd n.natAbs d ≤ d := Nat.div_le_self _ _
    obtain ⟨g, hg⟩ : ∃ g, g = Nat.gcd n.natAbs d := ⟨_, rfl⟩
    rw [← hg] at gc hg0 hgd hR hdd
    have hgK : ((g : Int)).natAbs < 10 ^ K := by rw [Int.natAbs_natCast]; omega
    have d1 := refDivMod_c n (g : Int) (by omega) K hK hK0 h1 hgK
    have d2 := refDivMod_c (d : Int) (g : Int) (by omega) K hK hK0 (by rw [Int.natAbs_natCast]; exact h2) hgK
    have hnq : (n / (g : Int)).natAbs < 10 ^ K := by
      have hgn : ((g : Nat) : Int) ∣ n := by rw [hg]; exact Int.natAbs_dvd_natAbs.1 (by rw [Int.natAbs_natCast]; exact Nat.gcd_dvd_left ..)
      exact Nat.lt_of_le_of_lt (natAbs_ediv_le _ _ hgn) h1
    unfold RetQI at d1 d2
    rw [I_nat g] at d1 d2
    rw [← Int.natCast_ediv, I_nat (d / g)] at d2
    have lq : (I (n / (g : Int))).length ≤ 8001 := Nat.le_trans (I_length_le hK0 hnq) (by omega)
    have le : (D (d / g)).length ≤ 8000 := Nat.le_trans (D_length_le hK0 (Nat.lt_of_le_of_lt hdd h2)) (by omega)
    obtain ⟨x, hx⟩ : ∃ x, x = I (n / (g : Int)) := ⟨_, rfl⟩
    rw [← hx] at d1 lq
    obtain ⟨z, hz⟩ : ∃ z, z = I ((d : Int) % (g : Int)) := ⟨_, rfl⟩
    rw [← hz] at d2
    obtain ⟨y, hy⟩ : ∃ y, y = I (n % (g : Int)) := ⟨_, rfl⟩
    rw [← hy] at d1
    obtain ⟨f, hf⟩ : ∃ f, f = d / g := ⟨_, rfl⟩
    rw [← hf] at d2 hR le
    have sg := refISign_c (d : Int) (by rw [Int.natAbs_natCast]; have := D_length_le hK0 h2; omega)
    rw [sgn_pos (show 0 < (d : Int) by omega)] at sg
    have HR := Lib.hid hR
    have HF := Lib.hid hf
    have HX := Lib.hid hx
    obtain ⟨tn, htn⟩ : ∃ t, t = I n := ⟨_, rfl⟩
    obtain ⟨td, htd⟩ : ∃ t, t = I (d : Int) := ⟨_, rfl⟩
    rw [← htn, ← htd] at hs
    rw [← htn] at ln
    rw [← htd] at ld
    rw [← htn, ← htd]
    rw [← htd] at sg
    rw [← htn] at gc d1
    rw [← htd] at gc d2
    clear hR hf hx hz hy hg hdd hgd hgK h1 h2 hd hnq htn htd
    have hden : (Hid (R (mkRat n d) = x) ∧ D f = [49]) ∨ (Hid (R (mkRat n d) = x ++ 47 :: D f) ∧ (D f == [49]) = false) := by
      by_cases hf1 : f = 1
      · exact .inl ⟨Lib.hid (by rw [HR.out, hf1, HX.out]; exact if_pos rfl), by rw [hf1]; exact D_one⟩
      · refine .inr ⟨Lib.hid (by rw [HR.out, HX.out]; exact if_neg hf1), ?_⟩
        rw [beq_eq_false_iff_ne]
        intro e
        exact hf1 (D_inj (e.trans D_one.symm))
    have hlen : ((tn.length : Int) ≤ 9 ∧ (9 : Int) < (td.length : Int)) ∨ ((9 : Int) < (tn.length : Int) ∧ True) := by
      by_cases hs1 : tn.length ≤ 9
      · have : ¬ td.length ≤ 9 := fun h => hs ⟨hs1, h⟩
        exact .inl ⟨by omega, by omega⟩
      · exact .inr ⟨by omega, trivial⟩
    clear hs
    rcases hlen with ⟨i1, i2⟩ | ⟨i1, i2⟩ <;> rcases hden with ⟨HD, hD1⟩ | ⟨HD, hD1⟩
    all_goals
      go_enter Tryz.func77, Tryz.ntmps77
      go_wp2_with fail
      ((with_reducible refine (sg _).mono ?_); rintro e w1 ⟨rfl, hx1⟩)
      go_wp2_with fail
      ((with_reducible refine (gc _ (hw.ext hx1)).mono ?_); rintro e w2 ⟨rfl, hx2⟩)
      have hx2 := hx1.trans hx2
      go_wp2_with fail
      ((with_reducible refine (d1 _ (hw.ext hx2)).mono ?_); rintro e w3 ⟨rfl, hx3⟩)
      have hx3 := hx2.trans hx3
      go_wp2_with fail
      ((with_reducible refine (d2 _ (hw.ext hx3)).mono ?_); rintro e w4 ⟨rfl, hx4⟩)
      have hx4 := hx3.trans hx4
      clear gc d1 d2 sg
      go_wp2
      go_ret
      exact ⟨ret_s (by first | (rw [HD.out]; done) | (rw [HD.out]; apply ByteArray.ext; simp)), hx4⟩
set_option maxRecDepth 100000 in
set_option maxHeartbeats 4000000 in
theorem refFractionN_c (n : Int) (d : Nat) (hd : 0 < d) (K : Nat) (hK : K ≤ 8000) (hK0 : 0 < K) (h1 : n.natAbs < 10 ^ K) (h2 : d < 10 ^ K) (w : World) (hw : Okw w) : Calls Tryz.prog 77 #[S (I (-n)), S (I (-(d : Int)))] w (RetS (R (mkRat n d)) w) := by
  have ln : (I (-n)).length ≤ 8001 := Nat.le_trans (I_length_le (z := (-n)) hK0 (by rw [Int.natAbs_neg]; exact h1)) (by omega)
  have ld : (I (-(d : Int))).length ≤ 8001 := Nat.le_trans (I_length_le (z := (-(d : Int))) hK0 (by rw [Int.natAbs_neg]; rw [Int.natAbs_natCast]; exact h2)) (by omega)
  by_cases hs : (I (-n)).length ≤ 9 ∧ (I (-(d : Int))).length ≤ 9
  · have b1 := len_le9 hs.1
    have b2 := len_le9 hs.2
    rw [Int.natAbs_neg] at b1 b2
    rw [Int.natAbs_natCast] at b2
    have sm := refSmallN_c n d hd (by omega) (by omega) (by omega)
    have i1 : ((I (-n)).length : Int) ≤ 9 := by omega
    have i2 : ((I (-(d : Int))).length : Int) ≤ 9 := by omega
    clear b1 b2 hd hs h1 h2
    go_enter Tryz.func77, Tryz.ntmps77
    go_wp2_with fail
    ((with_reducible refine (sm _ hw).mono ?_); rintro e w3 ⟨rfl, hx3⟩)
    go_wp2
    go_ret
    exact ⟨rfl, hx3⟩
  · have gc := refGcd_c n (d : Int) K hK hK0 h1 (by rw [Int.natAbs_natCast]; exact h2)
    rw [Int.natAbs_natCast] at gc
    have hg0 : 0 < Nat.gcd n.natAbs d := Nat.gcd_pos_of_pos_right _ hd
    have hgd : Nat.gcd n.natAbs d ≤ d := Nat.gcd_le_right _ hd
    have hR := R_mkRat n hd
    have hdd : d / Nat.gcd n.natAbs d ≤ d := Nat.div_le_self _ _
    obtain ⟨g, hg⟩ : ∃ g, g = Nat.gcd n.natAbs d := ⟨_, rfl⟩
    rw [← hg] at gc hg0 hgd hR hdd
    have hgK : ((g : Int)).natAbs < 10 ^ K := by rw [Int.natAbs_natCast]; omega
    have d1 := refDivMod_c n (g : Int) (by omega) K hK hK0 h1 hgK
    have d2 := refDivMod_c (d : Int) (g : Int) (by omega) K hK hK0 (by rw [Int.natAbs_natCast]; exact h2) hgK
    have hnq : (n / (g : Int)).natAbs < 10 ^ K := by
      have hgn : ((g : Nat) : Int) ∣ n := by rw [hg]; exact Int.natAbs_dvd_natAbs.1 (by rw [Int.natAbs_natCast]; exact Nat.gcd_dvd_left ..)
      exact Nat.lt_of_le_of_lt (natAbs_ediv_le _ _ hgn) h1
    unfold RetQI at d1 d2
    rw [I_nat g] at d1 d2
    rw [← Int.natCast_ediv, I_nat (d / g)] at d2
    have lq : (I (n / (g : Int))).length ≤ 8001 := Nat.le_trans (I_length_le hK0 hnq) (by omega)
    have le : (D (d / g)).length ≤ 8000 := Nat.le_trans (D_length_le hK0 (Nat.lt_of_le_of_lt hdd h2)) (by omega)
    obtain ⟨x, hx⟩ : ∃ x, x = I (n / (g : Int)) := ⟨_, rfl⟩
    rw [← hx] at d1 lq
    obtain ⟨z, hz⟩ : ∃ z, z = I ((d : Int) % (g : Int)) := ⟨_, rfl⟩
    rw [← hz] at d2
    obtain ⟨y, hy⟩ : ∃ y, y = I (n % (g : Int)) := ⟨_, rfl⟩
    rw [← hy] at d1
    obtain ⟨f, hf⟩ : ∃ f, f = d / g := ⟨_, rfl⟩
    rw [← hf] at d2 hR le
    have sg := refISign_c (-(d : Int)) (by rw [Int.natAbs_neg, Int.natAbs_natCast]; have := D_length_le hK0 h2; omega)
    rw [sgn_neg (show -(d : Int) < 0 by omega)] at sg
    have n1 := refINeg_c (-n) (by rw [Int.natAbs_neg]; have := D_length_le hK0 h1; omega)
    have n2 := refINeg_c (-(d : Int)) (by rw [Int.natAbs_neg, Int.natAbs_natCast]; have := D_length_le hK0 h2; omega)
    rw [Int.neg_neg] at n1 n2
    rw [I_nat] at n2
    have HR := Lib.hid hR
    have HF := Lib.hid hf
    have HX := Lib.hid hx
    obtain ⟨tn, htn⟩ : ∃ t, t = I (-n) := ⟨_, rfl⟩
    obtain ⟨td, htd⟩ : ∃ t, t = I (-(d : Int)) := ⟨_, rfl⟩
    rw [← htn, ← htd] at hs
    rw [← htn] at ln
    rw [← htd] at ld
    rw [← htn, ← htd]
    rw [← htd] at sg
    rw [← htn] at n1
    rw [← htd] at n2
    rw [I_nat d] at gc d2
    clear hR hf hx hz hy hg hdd hgd hgK h1 h2 hd hnq htn htd
    have hden : (Hid (R (mkRat n d) = x) ∧ D f = [49]) ∨ (Hid (R (mkRat n d) = x ++ 47 :: D f) ∧ (D f == [49]) = false) := by
      by_cases hf1 : f = 1
      · exact .inl ⟨Lib.hid (by rw [HR.out, hf1, HX.out]; exact if_pos rfl), by rw [hf1]; exact D_one⟩
      · refine .inr ⟨Lib.hid (by rw [HR.out, HX.out]; exact if_neg hf1), ?_⟩
        rw [beq_eq_false_iff_ne]
        intro e
        exact hf1 (D_inj (e.trans D_one.symm))
    have hlen : ((tn.length : Int) ≤ 9 ∧ (9 : Int) < (td.length : Int)) ∨ ((9 : Int) < (tn.length : Int) ∧ True) := by
      by_cases hs1 : tn.length ≤ 9
      · have : ¬ td.length ≤ 9 := fun h => hs ⟨hs1, h⟩
        exact .inl ⟨by omega, by omega⟩
      · exact .inr ⟨by omega, trivial⟩
    clear hs
    rcases hlen with ⟨i1, i2⟩ | ⟨i1, i2⟩ <;> rcases hden with ⟨HD, hD1⟩ | ⟨HD, hD1⟩
    all_goals
      go_enter Tryz.func77, Tryz.ntmps77
      go_wp2_with fail
      ((with_reducible refine (sg _).mono ?_); rintro e w1 ⟨rfl, hx1⟩)
      go_wp2_with fail
      ((with_reducible refine (n1 _).mono ?_); rintro e w1n ⟨rfl, hx1n⟩)
      go_wp2_with fail
      ((with_reducible refine (n2 _).mono ?_); rintro e w1m ⟨rfl, hx1m⟩)
      have hx1 := (hx1.trans hx1n).trans hx1m
      go_wp2_with fail
      ((with_reducible refine (gc _ (hw.ext hx1)).mono ?_); rintro e w2 ⟨rfl, hx2⟩)
      have hx2 := hx1.trans hx2
      go_wp2_with fail
      ((with_reducible refine (d1 _ (hw.ext hx2)).mono ?_); rintro e w3 ⟨rfl, hx3⟩)
      have hx3 := hx2.trans hx3
      go_wp2_with fail
      ((with_reducible refine (d2 _ (hw.ext hx3)).mono ?_); rintro e w4 ⟨rfl, hx4⟩)
      have hx4 := hx3.trans hx4
      clear gc d1 d2 sg
      go_wp2
      go_ret
      exact ⟨ret_s (by first | (rw [HD.out]; done) | (rw [HD.out]; apply ByteArray.ext; simp)), hx4⟩
end Go.Proofs.YtblijhokcjpeeaaGreatDoor
namespace Go.Proofs.YtblijhokcjpeeaaGreatDoor
open Go.RowKit Kl
attribute [local go_sem] bs_idx

set_option maxHeartbeats 400000 in
theorem refSign_c (q : Rat) (w : World) : Calls Tryz.prog 38 #[S (R q)] w (RetI (sgnR q) w) := by
  by_cases h0 : q = 0
  · subst h0
    rw [R_zero]
    go_enter Tryz.func38, Tryz.ntmps38
    go_wp2
    go_ret
    exact ⟨rfl, Ext.refl _⟩
  · have h1 := R_ne0 h0
    rcases R_head q with ⟨hn, e⟩ | ⟨hp, c, l, e, hd, hc⟩
    · have HS := Lib.hid (sgnR_neg hn)
      obtain ⟨c, hc⟩ : ∃ c : UInt8, c = 45 := ⟨_, rfl⟩
      have hl : 0 < (R q).length := by rw [e]; simp
      have hg : (R q)[0]'hl = c := by rw [List.getElem_of_eq e hl, hc]; rfl
      have hcb : ((c.toNat : Int) == 45) = true := by rw [hc]; rfl
      clear e hc hn
      go_enter Tryz.func38, Tryz.ntmps38
      go_wp2
      go_ret
      exact ⟨ret_i HS.out, Ext.refl _⟩
    · have HS := Lib.hid (sgnR_pos (q := q) (by grind))
      have hl : 0 < (R q).length := by rw [e]; simp
      have hg : (R q)[0]'hl = c := by rw [List.getElem_of_eq e hl]; rfl
      have hcb : ((c.toNat : Int) == 45) = false := by rw [beq_eq_false_iff_ne]; intro k; exact hc (UInt8.toNat_inj.1 (by simp; omega))
      clear e hc hp hd
      go_enter Tryz.func38, Tryz.ntmps38
      go_wp2
      go_ret
      exact ⟨ret_i HS.out, Ext.refl _⟩

set_option maxHeartbeats 1000000 in
theorem refNeg_c (q : Rat) {k : Nat} (hk : 0 < k) (hk2 : k ≤ 100000) (hz : Sz k q) (w : World) : Calls Tryz.prog 147 #[S (R q)] w (RetS (R (-q)) w) := by
  have hlen := R_length hk hz
  by_cases h0 : q = 0
  · subst h0
    rw [Rat.neg_zero, R_zero]
    go_enter Tryz.func147, Tryz.ntmps147
    go_wp2
    go_ret
    exact ⟨rfl, Ext.refl _⟩
  · have h1 := R_ne0 h0
    rcases R_head q with ⟨hn, e⟩ | ⟨hp, c, l, e, hd, hc⟩
    · obtain ⟨c, hc⟩ : ∃ c : UInt8, c = 45 := ⟨_, rfl⟩
      have hl : 0 < (R q).length := by rw [e]; simp
      have hg : (R q)[0]'hl = c := by rw [List.getElem_of_eq e hl, hc]; rfl
      have hcb : ((c.toNat : Int) == 45) = true := by rw [hc]; rfl
      have HD : Hid ((R q).drop 1 = R (-q)) := Lib.hid (by rw [e]; rfl)
      have hl1 : (1 : Int) ≤ ((R q).length : Int) := by omega
      clear e hc hn
      go_enter Tryz.func147, Tryz.ntmps147
      go_wp2
      go_ret
      exact ⟨ret_s (by rw [← HD.out]; first | exact ext_hi _ _ | (rw [ext_bs]; simp)), Ext.refl _⟩
    · have HD : Hid (R (-q) = 45 :: R q) := Lib.hid (by
        have := R_neg (q := -q) (by grind)
        rw [this, Rat.neg_neg])
      have hl : 0 < (R q).length := by rw [e]; simp
      have hg : (R q)[0]'hl = c := by rw [List.getElem_of_eq e hl]; rfl
      have hcb : ((c.toNat : Int) == 45) = false := by rw [beq_eq_false_iff_ne]; intro k; exact hc (UInt8.toNat_inj.1 (by simp; omega))
      clear e hc hp hd
      go_enter Tryz.func147, Tryz.ntmps147
      go_wp2
      go_ret
      exact ⟨ret_s (by rw [HD.out]; apply ByteArray.ext; simp), Ext.refl _⟩

/-- What the reference's brief tells of two numbers of which one is long. -/
theorem rbrief_two (p q : Rat) (h : ¬ ((R p).length ≤ 9 ∧ (R q).length ≤ 9)) :
    (∃ (n d : Int), (∀ w, Calls Tryz.prog 74 #[S (R p)] w (fun e w' => e = .returned (.tuple #[.int .i64 n, .int .i64 d, .bool true]) ∧ w = w')) ∧ (∀ w, Calls Tryz.prog 74 #[S (R q)] w (fun e w' => e = .returned (.tuple #[.int .i64 0, .int .i64 0, .bool false]) ∧ w = w'))) ∨
    (∀ w, Calls Tryz.prog 74 #[S (R p)] w (fun e w' => e = .returned (.tuple #[.int .i64 0, .int .i64 0, .bool false]) ∧ w = w')) := by
  by_cases h1 : (R p).length ≤ 9
  · exact .inl ⟨_, _, rbrief_yes p h1, rbrief_no _ (by have : ¬ (R q).length ≤ 9 := fun h2 => h ⟨h1, h2⟩; omega)⟩
  · exact .inr (rbrief_no _ (by omega))
theorem Rm.k {a b : Nat} {p q : Rat} (h : Rm a b p q) : a + b + 1 ≤ 8000 := by have := h.le; omega
theorem pow_up {n a b : Nat} (h : n < 10 ^ a) (hab : a ≤ b) : n < 10 ^ b := Nat.lt_of_lt_of_le h (Nat.pow_le_pow_right (by omega) hab)
set_option maxRecDepth 100000 in
set_option maxHeartbeats 4000000 in
theorem refAdd_long (p q : Rat) {a b : Nat} (hr : Rm a b p q) (hs : ¬ ((R p).length ≤ 9 ∧ (R q).length ≤ 9)) (w : World) (hw : Okw w) : Calls Tryz.prog 27 #[S (R p), S (R q)] w (RetS (R (p + q)) w) := by
  have bt := rbrief_two p q hs
  have p1 := refParts_q p hr.a0 (by have := hr.le; omega) hr.p
  have p2 := refParts_q q hr.b0 (by have := hr.le; omega) hr.q
  have hK := hr.k
  have z1 := pow_up hr.p.num (show a ≤ a + b + 1 by omega)
  have z2 : ((p.den : Int)).natAbs < 10 ^ (a + b + 1) := by rw [Int.natAbs_natCast]; exact pow_up hr.p.den (by omega)
  have z3 := pow_up hr.q.num (show b ≤ a + b + 1 by omega)
  have z4 : ((q.den : Int)).natAbs < 10 ^ (a + b + 1) := by rw [Int.natAbs_natCast]; exact pow_up hr.q.den (by omega)
  have y1 := pow_up hr.ne' (show a + b ≤ a + b + 1 by omega)
  have y2 := pow_up hr.md' (show a + b ≤ a + b + 1 by omega)
  have y3 : (p.num * (q.den : Int) + q.num * (p.den : Int)).natAbs < 10 ^ (a + b + 1) := Nat.lt_of_le_of_lt (Int.natAbs_add_le _ _) (add_lt_pow hr.ne' hr.md')
  have y4 : p.den * q.den < 10 ^ (a + b + 1) := pow_up (mul_lt_pow hr.p.den hr.q.den) (by omega)
  have m1 := refIMul_c p.num (q.den : Int) (a + b + 1) hK (by omega) z1 z4
  have m2 := refIMul_c q.num (p.den : Int) (a + b + 1) hK (by omega) z3 z2
  have ad := refIAdd_c (p.num * (q.den : Int)) (q.num * (p.den : Int)) (a + b + 1) hK (by omega) y1 y2
  have m3 := refIMul_c (p.den : Int) (q.den : Int) (a + b + 1) hK (by omega) z2 z4
  have fr := refFraction_c (p.num * (q.den : Int) + q.num * (p.den : Int)) (p.den * q.den) (Nat.mul_pos p.den_pos q.den_pos) (a + b + 1) hK (by omega) y3 y4
  rw [← Rat.add_def', Int.natCast_mul] at fr
  clear hK z1 z2 z3 z4 y3 y4 hs hr y1 y2
  rcases bt with ⟨n0, d0, b1, b2⟩ | b1
  case' inl =>
    go_enter Tryz.func27, Tryz.ntmps27
    go_wp2_with fail
    ((with_reducible refine (b1 _).mono ?_); rintro e w1 ⟨rfl, rfl⟩)
    go_wp2_with fail
    ((with_reducible refine (b2 _).mono ?_); rintro e w2 ⟨rfl, rfl⟩)
    go_wp2_with fail
  case' inr =>
    go_enter Tryz.func27, Tryz.ntmps27
    go_wp2_with fail
    ((with_reducible refine (b1 _).mono ?_); rintro e w1 ⟨rfl, rfl⟩)
    go_wp2_with fail
  all_goals
    ((with_reducible refine (p1 _).mono ?_); rintro e wa ⟨rfl, hxa⟩)
    go_wp2_with fail
    ((with_reducible refine (p2 _).mono ?_); rintro e wb ⟨rfl, hxb⟩)
    have hE := hxa.trans hxb
    go_wp2_with fail
    ((with_reducible refine (m1 _ (hw.ext hE)).mono ?_); rintro e w3 ⟨rfl, hx3⟩)
    have hE := hE.trans hx3
    go_wp2_with fail
    ((with_reducible refine (m2 _ (hw.ext hE)).mono ?_); rintro e w4 ⟨rfl, hx4⟩)
    have hE := hE.trans hx4
    go_wp2_with fail
    ((with_reducible refine (ad _ (hw.ext hE)).mono ?_); rintro e w5 ⟨rfl, hx5⟩)
    have hE := hE.trans hx5
    go_wp2_with fail
    ((with_reducible refine (m3 _ (hw.ext hE)).mono ?_); rintro e w6 ⟨rfl, hx6⟩)
    have hE := hE.trans hx6
    go_wp2_with fail
    ((with_reducible refine (fr _ (hw.ext hE)).mono ?_); rintro e w7 ⟨rfl, hx7⟩)
    go_wp2
    go_ret
    exact ⟨rfl, hE.trans hx7⟩
theorem refAdd_c (p q : Rat) {a b : Nat} (hr : Rm a b p q) (w : World) (hw : Okw w) : Calls Tryz.prog 27 #[S (R p), S (R q)] w (RetS (R (p + q)) w) := by
  by_cases hs : (R p).length ≤ 9 ∧ (R q).length ≤ 9
  · exact refAdd_short p q hs.1 hs.2 w hw
  · exact refAdd_long p q hr hs w hw
set_option maxRecDepth 100000 in
theorem refMul_short (p q : Rat) (h1 : (R p).length ≤ 9) (h2 : (R q).length ≤ 9) (w : World) (hw : Okw w) : Calls Tryz.prog 148 #[S (R p), S (R q)] w (RetS (R (p * q)) w) := by
  have q1 := rbrief_yes p h1
  have q2 := rbrief_yes q h2
  have e9 : (10 : Nat) ^ 9 = 1000000000 := by decide
  obtain ⟨s1, s2⟩ := (R_parts_short h1).resolve_right (by omega)
  obtain ⟨s3, s4⟩ := (R_parts_short h2).resolve_right (by omega)
  rw [e9] at s1 s2 s3 s4
  have w1 := wrap64_mul (x := p.num) (y := q.num) s1 s3
  have w3 := wrap64_mul (x := (p.den : Int)) (y := (q.den : Int)) (by rw [Int.natAbs_natCast]; exact s2) (by rw [Int.natAbs_natCast]; exact s4)
  have b1 := abs_mul_le (x := p.num) (y := q.num) s1 s3
  have b3 := abs_mul_le (x := (p.den : Int)) (y := (q.den : Int)) (by rw [Int.natAbs_natCast]; exact s2) (by rw [Int.natAbs_natCast]; exact s4)
  have sm := refLowest_c (p.num * q.num) (p.den * q.den) (Nat.mul_pos p.den_pos q.den_pos) (by omega) (by omega) (by rw [← Int.natCast_mul, Int.natAbs_natCast] at b3; omega)
  rw [Int.natCast_mul, ← Rat.mul_def'] at sm
  clear b1 b3 h1 h2 e9 s1 s2 s3 s4
  go_enter Tryz.func148, Tryz.ntmps148
  go_wp2_with fail
  ((with_reducible refine (q1 _).mono ?_); rintro e w1 ⟨rfl, rfl⟩)
  go_wp2_with fail
  ((with_reducible refine (q2 _).mono ?_); rintro e w2 ⟨rfl, rfl⟩)
  go_wp2_with fail
  ((with_reducible refine (sm _ hw).mono ?_); rintro e w3 ⟨rfl, hx3⟩)
  go_wp2
  go_ret
  exact ⟨rfl, hx3⟩
set_option maxRecDepth 100000 in
set_option maxHeartbeats 4000000 in
theorem refMul_long (p q : Rat) {a b : Nat} (hr : Rm a b p q) (hs : ¬ ((R p).length ≤ 9 ∧ (R q).length ≤ 9)) (w : World) (hw : Okw w) : Calls Tryz.prog 148 #[S (R p), S (R q)] w (RetS (R (p * q)) w) := by
  have bt := rbrief_two p q hs
  have p1 := refParts_q p hr.a0 (by have := hr.le; omega) hr.p
  have p2 := refParts_q q hr.b0 (by have := hr.le; omega) hr.q
  have hK := hr.k
  have z1 := pow_up hr.p.num (show a ≤ a + b + 1 by omega)
  have z2 : ((p.den : Int)).natAbs < 10 ^ (a + b + 1) := by rw [Int.natAbs_natCast]; exact pow_up hr.p.den (by omega)
  have z3 := pow_up hr.q.num (show b ≤ a + b + 1 by omega)
  have z4 : ((q.den : Int)).natAbs < 10 ^ (a + b + 1) := by rw [Int.natAbs_natCast]; exact pow_up hr.q.den (by omega)
  have y3 : (p.num * q.num).natAbs < 10 ^ (a + b + 1) := pow_up (by rw [Int.natAbs_mul]; exact mul_lt_pow hr.p.num hr.q.num) (show a + b ≤ a + b + 1 by omega)
  have y4 : p.den * q.den < 10 ^ (a + b + 1) := pow_up (mul_lt_pow hr.p.den hr.q.den) (by omega)
  have m1 := refIMul_c p.num q.num (a + b + 1) hK (by omega) z1 z3
  have m3 := refIMul_c (p.den : Int) (q.den : Int) (a + b + 1) hK (by omega) z2 z4
  have fr := refFraction_c (p.num * q.num) (p.den * q.den) (Nat.mul_pos p.den_pos q.den_pos) (a + b + 1) hK (by omega) y3 y4
  rw [← Rat.mul_def', Int.natCast_mul] at fr
  clear hK z1 z2 z3 z4 y3 y4 hs hr
  rcases bt with ⟨n0, d0, b1, b2⟩ | b1
  case' inl =>
    go_enter Tryz.func148, Tryz.ntmps148
    go_wp2_with fail
    ((with_reducible refine (b1 _).mono ?_); rintro e w1 ⟨rfl, rfl⟩)
    go_wp2_with fail
    ((with_reducible refine (b2 _).mono ?_); rintro e w2 ⟨rfl, rfl⟩)
    go_wp2_with fail
  case' inr =>
    go_enter Tryz.func148, Tryz.ntmps148
    go_wp2_with fail
    ((with_reducible refine (b1 _).mono ?_); rintro e w1 ⟨rfl, rfl⟩)
    go_wp2_with fail
  all_goals
    ((with_reducible refine (p1 _).mono ?_); rintro e wa ⟨rfl, hxa⟩)
    go_wp2_with fail
    ((with_reducible refine (p2 _).mono ?_); rintro e wb ⟨rfl, hxb⟩)
    have hE := hxa.trans hxb
    go_wp2_with fail
    ((with_reducible refine (m1 _ (hw.ext hE)).mono ?_); rintro e w3 ⟨rfl, hx3⟩)
    have hE := hE.trans hx3
    go_wp2_with fail
    ((with_reducible refine (m3 _ (hw.ext hE)).mono ?_); rintro e w6 ⟨rfl, hx6⟩)
    have hE := hE.trans hx6
    go_wp2_with fail
    ((with_reducible refine (fr _ (hw.ext hE)).mono ?_); rintro e w7 ⟨rfl, hx7⟩)
    go_wp2
    go_ret
    exact ⟨rfl, hE.trans hx7⟩
theorem refMul_c (p q : Rat) {a b : Nat} (hr : Rm a b p q) (w : World) (hw : Okw w) : Calls Tryz.prog 148 #[S (R p), S (R q)] w (RetS (R (p * q)) w) := by
  by_cases hs : (R p).length ≤ 9 ∧ (R q).length ≤ 9
  · exact refMul_short p q hs.1 hs.2 w hw
  · exact refMul_long p q hr hs w hw
theorem Rm.negq {a b : Nat} {p q : Rat} (h : Rm a b p q) : Rm a b p (-q) := ⟨h.p, h.q.neg, h.a0, h.b0, h.le⟩
theorem refSub_c (p q : Rat) {a b : Nat} (hr : Rm a b p q) (w : World) (hw : Okw w) : Calls Tryz.prog 86 #[S (R p), S (R q)] w (RetS (R (p - q)) w) := by
  have ng := refNeg_c q hr.b0 (by have := hr.le; omega) hr.q
  have ad := refAdd_c p (-q) hr.negq
  rw [← Rat.sub_eq_add_neg] at ad
  clear hr
  go_enter Tryz.func86, Tryz.ntmps86
  go_wp2_with fail
  ((with_reducible refine (ng _).mono ?_); rintro e w1 ⟨rfl, hx1⟩)
  go_wp2_with fail
  ((with_reducible refine (ad _ (hw.ext hx1)).mono ?_); rintro e w2 ⟨rfl, hx2⟩)
  go_wp2
  go_ret
  exact ⟨rfl, hx1.trans hx2⟩
theorem sgnR_sub (p q : Rat) : sgnR (p - q) = cmpR p q := by
  unfold sgnR cmpR
  by_cases h : p = q
  · subst h; rw [if_pos (by grind), if_neg Rat.lt_irrefl, if_pos rfl]
  · rw [if_neg (by grind)]
    by_cases h2 : p < q
    · rw [if_pos h2, if_pos (by grind)]
    · rw [if_neg h2, if_neg h, if_neg (by grind)]
theorem refCompare_c (p q : Rat) {a b : Nat} (hr : Rm a b p q) (w : World) (hw : Okw w) : Calls Tryz.prog 40 #[S (R p), S (R q)] w (RetI (cmpR p q) w) := by
  have sb := refSub_c p q hr
  have sg := refSign_c (p - q)
  rw [sgnR_sub] at sg
  clear hr
  go_enter Tryz.func40, Tryz.ntmps40
  go_wp2_with fail
  ((with_reducible refine (sb _ hw).mono ?_); rintro e w1 ⟨rfl, hx1⟩)
  go_wp2_with fail
  ((with_reducible refine (sg _).mono ?_); rintro e w2 ⟨rfl, hx2⟩)
  go_wp2
  go_ret
  exact ⟨rfl, hx1.trans hx2⟩
theorem inv_mk_pos {q : Rat} (h : 0 < q) : mkRat (q.den : Int) q.num.toNat = q⁻¹ := by
  have hn : 0 < q.num := num_pos_iff.2 h
  apply R_inj
  rw [R_inv_pos h, R_mkRat_one _ (by omega)]
  rw [Int.natAbs_natCast, show q.num.toNat = q.num.natAbs by omega, Nat.gcd_comm]
  exact q.reduced
theorem inv_mk_neg {q : Rat} (h : q < 0) : mkRat (-(q.den : Int)) (-q.num).toNat = q⁻¹ := by
  have hn : q.num < 0 := num_neg_iff.2 h
  apply R_inj
  rw [R_inv_neg h, R_mkRat_one _ (by omega)]
  rw [Int.natAbs_neg, Int.natAbs_natCast, show (-q.num).toNat = q.num.natAbs by omega, Nat.gcd_comm]
  exact q.reduced
theorem refDiv_c (p q : Rat) (hq0 : q ≠ 0) {a b : Nat} (hr : Rm a b p q) (w : World) (hw : Okw w) : Calls Tryz.prog 87 #[S (R p), S (R q)] w (RetS (R (p / q)) w) := by
  have pt := refParts_q q hr.b0 (by have := hr.le; omega) hr.q
  have ml := refMul_c p q⁻¹ (a := a) (b := b) ⟨hr.p, hr.q.inv hr.b0, hr.a0, hr.b0, hr.le⟩
  rw [← Rat.div_def] at ml
  have hle := hr.le
  have hb0 := hr.b0
  have hqn := hr.q.num
  have hqd := hr.q.den
  have fr : ∀ W, Okw W → Calls Tryz.prog 77 #[S (I (q.den : Int)), S (I q.num)] W (RetS (R q⁻¹) W) := by
    intro W hW
    by_cases h : 0 < q
    · have hn : 0 < q.num := num_pos_iff.2 h
      have f := refFraction_c (q.den : Int) q.num.toNat (by omega) b (by omega) hb0 (by rw [Int.natAbs_natCast]; exact hqd) (by omega) W hW
      rw [inv_mk_pos h, show ((q.num.toNat : Nat) : Int) = q.num by omega] at f
      exact f
    · have h' : q < 0 := by grind
      have hn : q.num < 0 := num_neg_iff.2 h'
      have f := refFractionN_c (-(q.den : Int)) (-q.num).toNat (by omega) b (by omega) hb0 (by rw [Int.natAbs_neg, Int.natAbs_natCast]; exact hqd) (by omega) W hW
      rw [inv_mk_neg h', Int.neg_neg, show -(((-q.num).toNat : Nat) : Int) = q.num by omega] at f
      exact f
  clear hr hle hb0 hqn hqd hq0
  go_enter Tryz.func87, Tryz.ntmps87
  go_wp2_with fail
  ((with_reducible refine (pt _).mono ?_); rintro e w1 ⟨rfl, hx1⟩)
  go_wp2_with fail
  ((with_reducible refine (fr _ (hw.ext hx1)).mono ?_); rintro e w2 ⟨rfl, hx2⟩)
  have hE := hx1.trans hx2
  go_wp2_with fail
  ((with_reducible refine (ml _ (hw.ext hE)).mono ?_); rintro e w3 ⟨rfl, hx3⟩)
  go_wp2
  go_ret
  exact ⟨rfl, hE.trans hx3⟩
theorem refFloor_c (q : Rat) {k : Nat} (hk : 0 < k) (hk2 : k ≤ 8000) (hz : Sz k q) (w : World) (hw : Okw w) : Calls Tryz.prog 151 #[S (R q)] w (RetS (I q.floor) w) := by
  have pt := refParts_q q hk (by omega) hz
  have dm := refDivMod_c q.num (q.den : Int) (by have := q.den_pos; omega) k hk2 hk hz.num (by rw [Int.natAbs_natCast]; exact hz.den)
  unfold RetQI at dm
  rw [← Rat.floor_def] at dm
  clear hz
  go_enter Tryz.func151, Tryz.ntmps151
  go_wp2_with fail
  ((with_reducible refine (pt _).mono ?_); rintro e w1 ⟨rfl, hx1⟩)
  go_wp2_with fail
  ((with_reducible refine (dm _ (hw.ext hx1)).mono ?_); rintro e w2 ⟨rfl, hx2⟩)
  go_wp2
  go_ret
  exact ⟨rfl, hx1.trans hx2⟩
theorem refNearest_c (q : Rat) {k : Nat} (hk : 0 < k) (hk2 : k ≤ 3980) (hz : Sz k q) (w : World) (hw : Okw w) : Calls Tryz.prog 90 #[S (R q)] w (RetS (I (q + 1/2).floor) w) := by
  have hh : Sz 1 (1/2 : Rat) := ⟨by decide +kernel, by decide +kernel⟩
  have ad := refAdd_c q (1/2) (a := k) (b := 1) ⟨hz, hh, hk, by omega, by omega⟩
  rw [show R (1/2 : Rat) = [49, 47, 50] by decide +kernel] at ad
  have fl := refFloor_c (q + 1/2) (k := k + 1 + 1) (by omega) (by omega) (hz.add hh)
  clear hz hh
  go_enter Tryz.func90, Tryz.ntmps90
  go_wp2_with fail
  ((with_reducible refine (ad _ hw).mono ?_); rintro e w1 ⟨rfl, hx1⟩)
  go_wp2_with fail
  ((with_reducible refine (fl _ (hw.ext hx1)).mono ?_); rintro e w2 ⟨rfl, hx2⟩)
  go_wp2
  go_ret
  exact ⟨rfl, hx1.trans hx2⟩
end Go.Proofs.YtblijhokcjpeeaaGreatDoor
