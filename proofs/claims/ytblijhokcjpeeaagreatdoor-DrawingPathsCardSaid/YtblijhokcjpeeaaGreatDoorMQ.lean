/- The law's at and Make. -/
import Derived.Test.YtblijhokcjpeeaaGreatDoorMP
/- The reference of layer 2, at short numbers: small, lowest, Of. -/
namespace Go.Proofs.YtblijhokcjpeeaaGreatDoor
open Go.RowKit Kl

theorem refOfI_c (z : Int) (h0 : -9223372036854775808 ≤ z) (h1 : z ≤ 9223372036854775807) (w : World) (hw : Okw w) : Calls Tryz.prog 80 #[.int .i64 z] w (RetS (I z) w) := by
  have hi := itoa_c z h0 h1 w hw
  clear h0 h1
  go_enter Tryz.func80, Tryz.ntmps80
  go_wp2_with fail
  ((with_reducible refine hi.mono ?_); rintro e w1 ⟨rfl, hx1⟩)
  go_wp2
  go_ret
  exact ⟨rfl, hx1⟩
/-- What both reductions have in common: a quotient in lowest terms. -/
structure Low (n : Int) (d g : Nat) (n' : Int) (d' : Nat) : Prop where
  R : R (mkRat n d) = frac n' d'
  e1 : n.tdiv (g : Int) = n'
  e2 : (d : Int) / (g : Int) = (d' : Int)
  g0 : 0 < g
  gd : g ≤ d
  b1 : n'.natAbs ≤ n.natAbs
  b2 : d' ≤ d
theorem low_of (n : Int) {d : Nat} (hd : 0 < d) : ∃ n' d', Low n d (Nat.gcd n.natAbs d) n' d' := by
  have hgn : ((Nat.gcd n.natAbs d : Nat) : Int) ∣ n := Int.natAbs_dvd_natAbs.1 (by rw [Int.natAbs_natCast]; exact Nat.gcd_dvd_left ..)
  refine ⟨n / (Nat.gcd n.natAbs d : Nat), d / Nat.gcd n.natAbs d, R_mkRat n hd, Int.tdiv_eq_ediv_of_dvd hgn, by simp, Nat.gcd_pos_of_pos_right _ hd, Nat.gcd_le_right _ hd, natAbs_ediv_le _ _ hgn, Nat.div_le_self _ _⟩
set_option maxRecDepth 100000 in
set_option maxHeartbeats 2000000 in
theorem refSmall_c (n : Int) (d : Nat) (hd : 0 < d) (hn1 : -9000000000000000000 ≤ n) (hn2 : n ≤ 9000000000000000000) (hd2 : d ≤ 9000000000000000000) (w : World) (hw : Okw w) :
    Calls Tryz.prog 132 #[S (I n), S (I (d : Int))] w (RetS (R (mkRat n d)) w) := by
  obtain ⟨n', d', hlow⟩ := low_of n hd
  obtain ⟨g, hg⟩ : ∃ g, g = Nat.gcd n.natAbs d := ⟨_, rfl⟩
  rw [← hg] at hlow
  obtain ⟨hR, e1, e2, hg0, hgd, b1, b2⟩ := hlow
  have ln : (I n').length ≤ 20 := I_length_le (z := n') (k := 19) (by omega) (by omega)
  have ld : (D d').length ≤ 19 := D_length_le (by omega) (by omega)
  have at1 := atoi_ok n (by omega) (by omega)
  have at2 := atoi_ok (d : Int) (by omega) (by omega)
  have HR := Lib.hid hR
  have HG := Lib.hid hg
  have H1 := Lib.hid e1
  have H2 := Lib.hid e2
  have i1 := fun W hW => itoa_c n' (by omega) (by omega) W hW
  have i2 := fun W hW => itoa_c (d' : Int) (by omega) (by omega) W hW
  rw [I_nat] at i2
  obtain ⟨na, hna⟩ : ∃ na : Nat, na = n.natAbs := ⟨_, rfl⟩
  have hna2 : na ≤ 9000000000000000000 := by omega
  have HNA := Lib.hid hna
  clear hR hg e1 e2 hna
  by_cases hneg : n < 0
  case' pos =>
    have hneq : -n = (na : Int) := by have := HNA.out; omega
    go_enter Tryz.func132, Tryz.ntmps132
    go_wp2_with fail
    ((with_reducible refine (at1 _).mono ?_); rintro e w1 ⟨rfl, hx⟩)
    go_wp2_with fail
    ((with_reducible refine (at2 _).mono ?_); rintro e w2 ⟨rfl, hx2⟩)
    have hE := hx.trans hx2
    go_wp2
    clear hneq
  case' neg =>
    obtain ⟨m, hm⟩ := Int.eq_ofNat_of_zero_le (show 0 ≤ n by omega)
    obtain rfl : m = na := by have := HNA.out; omega
    subst hm
    go_enter Tryz.func132, Tryz.ntmps132
    go_wp2_with fail
    ((with_reducible refine (at1 _).mono ?_); rintro e w1 ⟨rfl, hx⟩)
    go_wp2_with fail
    ((with_reducible refine (at2 _).mono ?_); rintro e w2 ⟨rfl, hx2⟩)
    have hE := hx.trans hx2
    go_wp2
  all_goals
    clear at1 at2 hx hx2
    go_loopw [9, 10] (fun x y wr => ∃ a b : Nat, x = .int .i64 (a : Nat) ∧ y = .int .i64 (b : Nat) ∧ Nat.gcd a b = g ∧ a ≤ 9000000000000000000 ∧ b ≤ 9000000000000000000 ∧ Ext w wr) (fun _ y _ => (intOf y).natAbs)
    case atStart => exact ⟨_, d, rfl, rfl, by rw [HG.out, ← HNA.out], hna2, hd2, hE⟩
    case round =>
      obtain ⟨a, b, rfl, rfl, hgab, ha, hb, hext⟩ := hrel
      by_cases hb0 : b = 0
      · subst hb0
        obtain rfl : a = g := by rw [← hgab]; simp
        clear hgab
        have e1 := H1.out
        have e2 := H2.out
        have hgp : (0 : Int) < (a : Int) := by omega
        have hgz : ((a : Int) == 0) = false := by rw [beq_eq_false_iff_ne]; omega
        by_cases hl1 : d' = 1
        · subst hl1
          have HF : Hid (R (mkRat _ d) = I n') := Lib.hid (by rw [HR.out]; rfl)
          go_wp2_with fail
          go_quiet (fail)
          go_wp2_with fail
          ((with_reducible refine (i1 _ (hw.ext (hext.drewN _))).mono ?_); rintro e w3 ⟨rfl, hx3⟩)
          go_wp2
          go_ret
          exact ⟨ret_s (by rw [HF.out]), (hext.drewN _).trans hx3⟩
        · have HF : Hid (R (mkRat _ d) = I n' ++ 47 :: D d') := Lib.hid (by rw [HR.out]; exact if_neg hl1)
          have hdb : ((d' : Int) == 1) = false := by rw [beq_eq_false_iff_ne]; omega
          clear hl1
          go_wp2_with fail
          go_quiet (fail)
          go_wp2_with fail
          ((with_reducible refine (i1 _ (hw.ext (hext.drewN _))).mono ?_); rintro e w3 ⟨rfl, hx3⟩)
          have hx3 := (hext.drewN _).trans hx3
          go_wp2_with fail
          ((with_reducible refine (i2 _ (hw.ext hx3)).mono ?_); rintro e w4 ⟨rfl, hx4⟩)
          go_wp2
          go_ret
          exact ⟨ret_s (by rw [HF.out]; apply ByteArray.ext; simp), hx3.trans hx4⟩
      · have hlt : a % b < b := Nat.mod_lt _ (by omega)
        have hbne : ((b : Int) != 0) = true := by rw [bne_iff_ne]; omega
        have hbe : ((b : Int) == 0) = false := by rw [beq_eq_false_iff_ne]; omega
        have hbp : (0 : Int) < (b : Int) := by omega
        have HGT : Hid (Nat.gcd b (a % b) = g) := Lib.hid (by rw [← hgab, Nat.gcd_comm b, ← Nat.gcd_rec, Nat.gcd_comm])
        clear hgab
        go_wp2_with fail
        go_quiet (fail)
        go_wp2
        go_roundw
        case rel => exact ⟨b, a % b, rfl, by go_num, HGT.out, hb, by omega, hext.drewN _⟩
        case measure => simp [intOf]; omega
end Go.Proofs.YtblijhokcjpeeaaGreatDoor
/- The reference of layer 2, at short numbers: lowest, Of. -/
namespace Go.Proofs.YtblijhokcjpeeaaGreatDoor
open Go.RowKit Kl

set_option maxRecDepth 100000 in
set_option maxHeartbeats 2000000 in
theorem refLowest_c (n : Int) (d : Nat) (hd : 0 < d) (hn1 : -9000000000000000000 ≤ n) (hn2 : n ≤ 9000000000000000000) (hd2 : d ≤ 9000000000000000000) (w : World) (hw : Okw w) :
    Calls Tryz.prog 75 #[.int .i64 n, .int .i64 (d : Nat)] w (RetS (R (mkRat n d)) w) := by
  obtain ⟨n', d', hlow⟩ := low_of n hd
  obtain ⟨g, hg⟩ : ∃ g, g = Nat.gcd n.natAbs d := ⟨_, rfl⟩
  rw [← hg] at hlow
  obtain ⟨hR, e1, e2, hg0, hgd, b1, b2⟩ := hlow
  have ln : (I n').length ≤ 20 := I_length_le (z := n') (k := 19) (by omega) (by omega)
  have ld : (D d').length ≤ 19 := D_length_le (by omega) (by omega)
  have HR := Lib.hid hR
  have HG := Lib.hid hg
  have H1 := Lib.hid e1
  have H2 := Lib.hid e2
  have i1 := fun W hW => itoa_c n' (by omega) (by omega) W hW
  have i2 := fun W hW => itoa_c (d' : Int) (by omega) (by omega) W hW
  rw [I_nat] at i2
  obtain ⟨na, hna⟩ : ∃ na : Nat, na = n.natAbs := ⟨_, rfl⟩
  have hna2 : na ≤ 9000000000000000000 := by omega
  have hneg : IntKind.i64.wrap (-n) = -n := IntWalk.i64_in _ (by omega)
  have HNA := Lib.hid hna
  clear hR hg e1 e2 hna
  by_cases hd1 : d = 1
  · subst hd1
    have hn' : n' = n := by
      have h1 := HG.out
      rw [Nat.gcd_one_right] at h1
      rw [← H1.out, h1]; simp
    have hd' : d' = 1 := by
      have h1 := HG.out
      rw [Nat.gcd_one_right] at h1
      have := H2.out
      rw [h1] at this
      simp at this
      omega
    have HF : Hid (R (mkRat n 1) = I n) := Lib.hid (by rw [HR.out, hd', hn']; rfl)
    subst hn'
    clear hd'
    go_enter Tryz.func75, Tryz.ntmps75
    go_wp2_with fail
    ((with_reducible refine (i1 _ hw).mono ?_); rintro e w3 ⟨rfl, hx3⟩)
    go_wp2
    go_ret
    exact ⟨ret_s (by rw [HF.out]), hx3⟩
  · have hdne : ((d : Int) != 1) = true := by rw [bne_iff_ne]; omega
    have hmx : max n (-n) = (na : Int) := by have := HNA.out; omega
    clear hd1
    go_enter Tryz.func75, Tryz.ntmps75
    go_wp2
    clear hmx hdne
    go_loopw [5, 6] (fun x y wr => ∃ a b : Nat, x = .int .i64 (a : Nat) ∧ y = .int .i64 (b : Nat) ∧ Nat.gcd a b = g ∧ a ≤ 9000000000000000000 ∧ b ≤ 9000000000000000000 ∧ Ext w wr) (fun _ y _ => (intOf y).natAbs)
    case atStart => exact ⟨na, d, by first | rfl | (have := HNA.out; congr 1; split <;> omega), rfl, by rw [HG.out, ← HNA.out], hna2, hd2, Ext.refl _⟩
    case round =>
      obtain ⟨a, b, rfl, rfl, hgab, ha, hb, hext⟩ := hrel
      by_cases hb0 : b = 0
      · subst hb0
        obtain rfl : a = g := by rw [← hgab]; simp
        clear hgab
        have e1 := H1.out
        have e2 := H2.out
        have hgp : (0 : Int) < (a : Int) := by omega
        have hgz : ((a : Int) == 0) = false := by rw [beq_eq_false_iff_ne]; omega
        by_cases hl1 : d' = 1
        · subst hl1
          have HF : Hid (R (mkRat n d) = I n') := Lib.hid (by rw [HR.out]; rfl)
          go_wp2_with fail
          go_quiet (fail)
          go_wp2_with fail
          ((with_reducible refine (i1 _ (hw.ext (hext.drewN _))).mono ?_); rintro e w3 ⟨rfl, hx3⟩)
          go_wp2
          go_ret
          exact ⟨ret_s (by rw [HF.out]), (hext.drewN _).trans hx3⟩
        · have HF : Hid (R (mkRat n d) = I n' ++ 47 :: D d') := Lib.hid (by rw [HR.out]; exact if_neg hl1)
          have hdb : ((d' : Int) == 1) = false := by rw [beq_eq_false_iff_ne]; omega
          clear hl1
          go_wp2_with fail
          go_quiet (fail)
          go_wp2_with fail
          ((with_reducible refine (i1 _ (hw.ext (hext.drewN _))).mono ?_); rintro e w3 ⟨rfl, hx3⟩)
          have hx3 := (hext.drewN _).trans hx3
          go_wp2_with fail
          ((with_reducible refine (i2 _ (hw.ext hx3)).mono ?_); rintro e w4 ⟨rfl, hx4⟩)
          go_wp2
          go_ret
          exact ⟨ret_s (by rw [HF.out]; apply ByteArray.ext; simp), hx3.trans hx4⟩
      · have hlt : a % b < b := Nat.mod_lt _ (by omega)
        have hbne : ((b : Int) != 0) = true := by rw [bne_iff_ne]; omega
        have hbe : ((b : Int) == 0) = false := by rw [beq_eq_false_iff_ne]; omega
        have hbp : (0 : Int) < (b : Int) := by omega
        have HGT : Hid (Nat.gcd b (a % b) = g) := Lib.hid (by rw [← hgab, Nat.gcd_comm b, ← Nat.gcd_rec, Nat.gcd_comm])
        clear hgab
        go_wp2_with fail
        go_quiet (fail)
        go_wp2
        go_roundw
        case rel => exact ⟨b, a % b, rfl, by go_num, HGT.out, hb, by omega, hext.drewN _⟩
        case measure => simp [intOf]; omega
/-- Fraction at short texts. -/
theorem refFraction_short (n : Int) (d : Nat) (hd : 0 < d) (l1 : (I n).length ≤ 9) (l2 : (I (d : Int)).length ≤ 9) (w : World) (hw : Okw w) :
    Calls Tryz.prog 77 #[S (I n), S (I (d : Int))] w (RetS (R (mkRat n d)) w) := by
  have b1 := short_lt l1
  have b2 := short_lt l2
  have e9 : (10 : Nat) ^ 9 = 1000000000 := by decide
  rw [e9] at b1 b2
  have sm := refSmall_c n d hd (by omega) (by omega) (by omega)
  have i1 : decide (((I n).length : Int) ≤ 9) = true := by rw [decide_eq_true_eq]; omega
  have i2 : decide (((I (d : Int)).length : Int) ≤ 9) = true := by rw [decide_eq_true_eq]; omega
  have l1' : ((I n).length : Int) ≤ 9 := by omega
  have l2' : ((I (d : Int)).length : Int) ≤ 9 := by omega
  clear b1 b2 e9 hd l1 l2
  go_enter Tryz.func77, Tryz.ntmps77
  go_wp2_with fail
  ((with_reducible refine (sm _ hw).mono ?_); rintro e w3 ⟨rfl, hx3⟩)
  go_wp2
  go_ret
  exact ⟨rfl, hx3⟩
/-- Of at short ints. -/
theorem refOf_c (n : Int) (d : Nat) (hd : 0 < d) (h1 : n.natAbs < 10000000) (h2 : d < 10000000) (w : World) (hw : Okw w) :
    Calls Tryz.prog 28 #[.int .i64 n, .int .i64 (d : Nat)] w (RetS (R (mkRat n d)) w) := by
  have e7 : (10 : Nat) ^ 7 = 10000000 := by decide
  have l1 : (I n).length ≤ 9 := Nat.le_trans (I_length_le (k := 7) (by omega) (by omega)) (by omega)
  have l2 : (I (d : Int)).length ≤ 9 := Nat.le_trans (I_length_le (z := (d : Int)) (k := 7) (by omega) (by rw [Int.natAbs_natCast]; omega)) (by omega)
  have o1 := refOfI_c n (by omega) (by omega)
  have o2 := refOfI_c (d : Int) (by omega) (by omega)
  have fr := refFraction_short n d hd l1 l2
  clear e7 l1 l2 hd h1 h2
  go_enter Tryz.func28, Tryz.ntmps28
  go_wp2_with fail
  ((with_reducible refine (o1 _ hw).mono ?_); rintro e w1 ⟨rfl, hx⟩)
  go_wp2_with fail
  ((with_reducible refine (o2 _ (hw.ext hx)).mono ?_); rintro e w2 ⟨rfl, hx2⟩)
  replace hx := hx.trans hx2
  go_wp2_with fail
  ((with_reducible refine (fr _ (hw.ext hx)).mono ?_); rintro e w3 ⟨rfl, hx3⟩)
  go_wp2
  go_ret
  exact ⟨rfl, hx.trans hx3⟩
end Go.Proofs.YtblijhokcjpeeaaGreatDoor
/- klipperef02.brief; Add at short numbers. -/
namespace Go.Proofs.YtblijhokcjpeeaaGreatDoor
open Go.RowKit Kl

theorem Seg.digitB {s : ByteArray} {b : Nat} {m : Bs} (h : Seg s b m) (hs : s.size ≤ 9) {j : Nat} (h1 : b ≤ j) (h2 : j < b + m.length) :
    ∃ (c : UInt8) (v : Nat) (hj : j < s.size), s[j] = c ∧ (48 : Int) ≤ (c.toNat : Int) ∧ (c.toNat : Int) ≤ 57 ∧ ((c.toNat : Int) != 47) = true ∧ v = val (m.take (j - b)) ∧ (v : Int) ≤ 999999999 ∧
      ((val (m.take (j + 1 - b)) : Nat) : Int) = 10 * (v : Int) + ((c.toNat : Int) - 48) := by
  have hj : j < s.size := by have := h.le; omega
  obtain ⟨c, e1, d, e2⟩ := h.digit hj h1 h2
  have hv := val_take_lt h.all (k := j - b)
  have h8 : 10 ^ (j - b) ≤ 10 ^ 9 := Nat.pow_le_pow_right (by omega) (by omega)
  have h10 : (10 : Nat) ^ 9 = 1000000000 := by decide
  have := d.1; have := d.2
  refine ⟨c, _, hj, e1, by omega, by omega, ?_, rfl, by omega, by rw [e2]; omega⟩
  rw [bne_iff_ne]; omega

set_option maxRecDepth 100000 in
set_option maxHeartbeats 4000000 in
theorem rbrief_whole0 (s : ByteArray) (m : Bs) (hm : Seg s 0 m) (hs : s.size = 0 + m.length) (hmax : s.size ≤ 9) (h0 : 0 < m.length) (w : World) :
    Calls Tryz.prog 74 #[.string s] w (fun e w' => e = .returned (.tuple #[.int .i64 ((val m : Int)), .int .i64 1, .bool true]) ∧ w = w') := by
  have hp : (0 : Int) < (s.size : Int) := by omega
  have hm9 : (s.size : Int) ≤ 9 := by omega
  obtain ⟨c0, -, hs0, e0, d0, d1, -⟩ := hm.digitB hmax (j := 0) (by omega) (by omega)
  have hc : ((c0.toNat : Int) == 45) = false := (by rw [beq_eq_false_iff_ne]; omega)
  clear d0 d1
  have HS := Lib.hid hs
  clear hs
  go_enter Tryz.func74, Tryz.ntmps74
  go_wp2
  clear hc e0 hp
  go_loop [2, 5] (fun n i => ∃ j : Nat, 0 ≤ j ∧ j ≤ 0 + m.length ∧ i = .int .i64 (j : Nat) ∧ n = .int .i64 (val (m.take (j - 0)) : Nat)) (fun _ i => s.size - (intOf i).toNat)
  case atStart => exact ⟨0, by omega, by omega, rfl, by simp [val_nil]⟩
  case round =>
    obtain ⟨j, hj0, hj1, rfl, rfl⟩ := hrel
    have hjs' : j ≤ s.size := by have := HS.out; omega
    by_cases hlt : j < 0 + m.length
    · obtain ⟨c, v, hjs, e, d1, d2, hc47, hv, hv9, hn⟩ := hm.digitB hmax hj0 hlt
      have hlti : (j : Int) < (s.size : Int) := by omega
      have hj0i : (0 : Int) ≤ (j : Int) := by omega
      rw [← hv]
      have HN := Lib.hid hn
      clear hv hn
      go_wp2
      go_round
      case rel => exact ⟨j + 1, by omega, by omega, by go_num, by rw [HN.out]⟩
      case measure => simp [intOf]; omega
    · have hje : j = 0 + m.length := by omega
      have ht : m.take (j - 0) = m := by rw [hje]; simp
      have hv9 : ((val m : Nat) : Int) ≤ 999999999 := by
        have h1 := val_lt hm.all
        have h2 : 10 ^ m.length ≤ 10 ^ 9 := Nat.pow_le_pow_right (by omega) (by have := HS.out; omega)
        have h3 : (10 : Nat) ^ 9 = 1000000000 := by decide
        omega
      rw [ht]
      have hj0i : (0 : Int) ≤ (j : Int) := by omega
      have hle : (s.size : Int) ≤ (j : Int) := by have := HS.out; omega
      clear ht hje hlt
      go_wp2
      go_ret3
      exact ⟨by first | rfl | simp, rfl⟩

set_option maxRecDepth 100000 in
set_option maxHeartbeats 4000000 in
theorem rbrief_slash0 (s : ByteArray) (m m2 : Bs) (hm : Seg s 0 m) (hm2 : Seg s (0 + m.length + 1) m2) (hs : s.size = 0 + m.length + 1 + m2.length) (h2 : 0 < m2.length) (hq : ∃ h : 0 + m.length < s.size, s[0 + m.length] = 47) (hmax : s.size ≤ 9) (h0 : 0 < m.length) (w : World) :
    Calls Tryz.prog 74 #[.string s] w (fun e w' => e = .returned (.tuple #[.int .i64 ((val m : Int)), .int .i64 (val m2 : Nat), .bool true]) ∧ w = w') := by
  have hp : (0 : Int) < (s.size : Int) := by omega
  have hm9 : (s.size : Int) ≤ 9 := by omega
  obtain ⟨c0, -, hs0, e0, d0, d1, -⟩ := hm.digitB hmax (j := 0) (by omega) (by omega)
  have hc : ((c0.toNat : Int) == 45) = false := (by rw [beq_eq_false_iff_ne]; omega)
  clear d0 d1
  have HS := Lib.hid hs
  clear hs
  go_enter Tryz.func74, Tryz.ntmps74
  go_wp2
  clear hc e0 hp
  go_loop [2, 5] (fun n i => ∃ j : Nat, 0 ≤ j ∧ j ≤ 0 + m.length ∧ i = .int .i64 (j : Nat) ∧ n = .int .i64 (val (m.take (j - 0)) : Nat)) (fun _ i => s.size - (intOf i).toNat)
  case atStart => exact ⟨0, by omega, by omega, rfl, by simp [val_nil]⟩
  case round =>
    obtain ⟨j, hj0, hj1, rfl, rfl⟩ := hrel
    have hjs' : j ≤ s.size := by have := HS.out; omega
    by_cases hlt : j < 0 + m.length
    · obtain ⟨c, v, hjs, e, d1, d2, hc47, hv, hv9, hn⟩ := hm.digitB hmax hj0 hlt
      have hlti : (j : Int) < (s.size : Int) := by omega
      have hj0i : (0 : Int) ≤ (j : Int) := by omega
      rw [← hv]
      have HN := Lib.hid hn
      clear hv hn
      go_wp2
      go_round
      case rel => exact ⟨j + 1, by omega, by omega, by go_num, by rw [HN.out]⟩
      case measure => simp [intOf]; omega
    · have hje : j = 0 + m.length := by omega
      have ht : m.take (j - 0) = m := by rw [hje]; simp
      have hv9 : ((val m : Nat) : Int) ≤ 999999999 := by
        have h1 := val_lt hm.all
        have h2 : 10 ^ m.length ≤ 10 ^ 9 := Nat.pow_le_pow_right (by omega) (by have := HS.out; omega)
        have h3 : (10 : Nat) ^ 9 = 1000000000 := by decide
        omega
      rw [ht]
      have hj0i : (0 : Int) ≤ (j : Int) := by omega
      have hjs : j < s.size := by have := HS.out; omega
      have hlti : (j : Int) < (s.size : Int) := by omega
      obtain ⟨c, hc⟩ : ∃ c : UInt8, c = 47 := ⟨_, rfl⟩
      have e : s[j] = c := by rw [hc]; obtain ⟨_, e⟩ := hq; simp only [hje]; exact e
      have hc47 : ((c.toNat : Int) != 47) = false := by rw [hc]; rfl
      have hsz : s.size = j + 1 + m2.length := by have := HS.out; omega
      have HS2 := Lib.hid hsz
      rw [← hje] at hm2
      clear ht hje hlt hc hsz
      go_wp2
      clear hc47 e
      go_loop [3, 5] (fun n i => ∃ k : Nat, j + 1 ≤ k ∧ k ≤ j + 1 + m2.length ∧ i = .int .i64 (k : Nat) ∧ n = .int .i64 (val (m2.take (k - (j + 1))) : Nat)) (fun _ i => s.size - (intOf i).toNat)
      case atStart => exact ⟨j + 1, by omega, by omega, by go_num, by simp [val_nil]⟩
      case round =>
        obtain ⟨k, hk0, hk1, rfl, rfl⟩ := hrel
        have hks' : k ≤ s.size := by have := HS2.out; omega
        by_cases hlt2 : k < j + 1 + m2.length
        · obtain ⟨c, v, hks, e, d1, d2, hc47, hv, hv9', hn⟩ := hm2.digitB hmax hk0 hlt2
          have hlti2 : (k : Int) < (s.size : Int) := by omega
          have hk0i : (0 : Int) ≤ (k : Int) := by omega
          rw [← hv]
          have HN := Lib.hid hn
          clear hv hn hc47
          go_wp2
          go_round
          case rel => exact ⟨k + 1, by omega, by omega, by go_num, by rw [HN.out]⟩
          case measure => simp [intOf]; omega
        · have hke : k = j + 1 + m2.length := by omega
          have ht2 : m2.take (k - (j + 1)) = m2 := by rw [hke]; simp
          have hle : (s.size : Int) ≤ (k : Int) := by have := HS2.out; omega
          rw [ht2]
          clear ht2 hke hlt2
          go_wp2
          go_ret3
          exact ⟨by first | rfl | simp, rfl⟩

set_option maxRecDepth 100000 in
set_option maxHeartbeats 4000000 in
theorem rbrief_whole1 (s : ByteArray) (m : Bs) (hm : Seg s 1 m) (hs : s.size = 1 + m.length) (hmax : s.size ≤ 9) (h0 : 0 < m.length) (hc : ∃ (h : 0 < s.size), s[0] = 45) (w : World) :
    Calls Tryz.prog 74 #[.string s] w (fun e w' => e = .returned (.tuple #[.int .i64 (-(val m : Int)), .int .i64 1, .bool true]) ∧ w = w') := by
  have hp : (0 : Int) < (s.size : Int) := by omega
  have hm9 : (s.size : Int) ≤ 9 := by omega
  obtain ⟨hs0, e0⟩ := hc
  obtain ⟨c0, hc0⟩ : ∃ c0 : UInt8, c0 = 45 := ⟨_, rfl⟩
  rw [← hc0] at e0
  have hc : ((c0.toNat : Int) == 45) = true := (by rw [hc0]; rfl)
  clear hc0
  have HS := Lib.hid hs
  clear hs
  go_enter Tryz.func74, Tryz.ntmps74
  go_wp2
  clear hc e0 hp
  go_loop [2, 5] (fun n i => ∃ j : Nat, 1 ≤ j ∧ j ≤ 1 + m.length ∧ i = .int .i64 (j : Nat) ∧ n = .int .i64 (val (m.take (j - 1)) : Nat)) (fun _ i => s.size - (intOf i).toNat)
  case atStart => exact ⟨1, by omega, by omega, rfl, by simp [val_nil]⟩
  case round =>
    obtain ⟨j, hj0, hj1, rfl, rfl⟩ := hrel
    have hjs' : j ≤ s.size := by have := HS.out; omega
    by_cases hlt : j < 1 + m.length
    · obtain ⟨c, v, hjs, e, d1, d2, hc47, hv, hv9, hn⟩ := hm.digitB hmax hj0 hlt
      have hlti : (j : Int) < (s.size : Int) := by omega
      have hj0i : (0 : Int) ≤ (j : Int) := by omega
      rw [← hv]
      have HN := Lib.hid hn
      clear hv hn
      go_wp2
      go_round
      case rel => exact ⟨j + 1, by omega, by omega, by go_num, by rw [HN.out]⟩
      case measure => simp [intOf]; omega
    · have hje : j = 1 + m.length := by omega
      have ht : m.take (j - 1) = m := by rw [hje]; simp
      have hv9 : ((val m : Nat) : Int) ≤ 999999999 := by
        have h1 := val_lt hm.all
        have h2 : 10 ^ m.length ≤ 10 ^ 9 := Nat.pow_le_pow_right (by omega) (by have := HS.out; omega)
        have h3 : (10 : Nat) ^ 9 = 1000000000 := by decide
        omega
      rw [ht]
      have hj0i : (0 : Int) ≤ (j : Int) := by omega
      have hle : (s.size : Int) ≤ (j : Int) := by have := HS.out; omega
      clear ht hje hlt
      go_wp2
      go_ret3
      exact ⟨by first | rfl | simp, rfl⟩

set_option maxRecDepth 100000 in
set_option maxHeartbeats 4000000 in
theorem rbrief_slash1 (s : ByteArray) (m m2 : Bs) (hm : Seg s 1 m) (hm2 : Seg s (1 + m.length + 1) m2) (hs : s.size = 1 + m.length + 1 + m2.length) (h2 : 0 < m2.length) (hq : ∃ h : 1 + m.length < s.size, s[1 + m.length] = 47) (hmax : s.size ≤ 9) (h0 : 0 < m.length) (hc : ∃ (h : 0 < s.size), s[0] = 45) (w : World) :
    Calls Tryz.prog 74 #[.string s] w (fun e w' => e = .returned (.tuple #[.int .i64 (-(val m : Int)), .int .i64 (val m2 : Nat), .bool true]) ∧ w = w') := by
  have hp : (0 : Int) < (s.size : Int) := by omega
  have hm9 : (s.size : Int) ≤ 9 := by omega
  obtain ⟨hs0, e0⟩ := hc
  obtain ⟨c0, hc0⟩ : ∃ c0 : UInt8, c0 = 45 := ⟨_, rfl⟩
  rw [← hc0] at e0
  have hc : ((c0.toNat : Int) == 45) = true := (by rw [hc0]; rfl)
  clear hc0
  have HS := Lib.hid hs
  clear hs
  go_enter Tryz.func74, Tryz.ntmps74
  go_wp2
  clear hc e0 hp
  go_loop [2, 5] (fun n i => ∃ j : Nat, 1 ≤ j ∧ j ≤ 1 + m.length ∧ i = .int .i64 (j : Nat) ∧ n = .int .i64 (val (m.take (j - 1)) : Nat)) (fun _ i => s.size - (intOf i).toNat)
  case atStart => exact ⟨1, by omega, by omega, rfl, by simp [val_nil]⟩
  case round =>
    obtain ⟨j, hj0, hj1, rfl, rfl⟩ := hrel
    have hjs' : j ≤ s.size := by have := HS.out; omega
    by_cases hlt : j < 1 + m.length
    · obtain ⟨c, v, hjs, e, d1, d2, hc47, hv, hv9, hn⟩ := hm.digitB hmax hj0 hlt
      have hlti : (j : Int) < (s.size : Int) := by omega
      have hj0i : (0 : Int) ≤ (j : Int) := by omega
      rw [← hv]
      have HN := Lib.hid hn
      clear hv hn
      go_wp2
      go_round
      case rel => exact ⟨j + 1, by omega, by omega, by go_num, by rw [HN.out]⟩
      case measure => simp [intOf]; omega
    · have hje : j = 1 + m.length := by omega
      have ht : m.take (j - 1) = m := by rw [hje]; simp
      have hv9 : ((val m : Nat) : Int) ≤ 999999999 := by
        have h1 := val_lt hm.all
        have h2 : 10 ^ m.length ≤ 10 ^ 9 := Nat.pow_le_pow_right (by omega) (by have := HS.out; omega)
        have h3 : (10 : Nat) ^ 9 = 1000000000 := by decide
        omega
      rw [ht]
      have hj0i : (0 : Int) ≤ (j : Int) := by omega
      have hjs : j < s.size := by have := HS.out; omega
      have hlti : (j : Int) < (s.size : Int) := by omega
      obtain ⟨c, hc⟩ : ∃ c : UInt8, c = 47 := ⟨_, rfl⟩
      have e : s[j] = c := by rw [hc]; obtain ⟨_, e⟩ := hq; simp only [hje]; exact e
      have hc47 : ((c.toNat : Int) != 47) = false := by rw [hc]; rfl
      have hsz : s.size = j + 1 + m2.length := by have := HS.out; omega
      have HS2 := Lib.hid hsz
      rw [← hje] at hm2
      clear ht hje hlt hc hsz
      go_wp2
      clear hc47 e
      go_loop [3, 5] (fun n i => ∃ k : Nat, j + 1 ≤ k ∧ k ≤ j + 1 + m2.length ∧ i = .int .i64 (k : Nat) ∧ n = .int .i64 (val (m2.take (k - (j + 1))) : Nat)) (fun _ i => s.size - (intOf i).toNat)
      case atStart => exact ⟨j + 1, by omega, by omega, by go_num, by simp [val_nil]⟩
      case round =>
        obtain ⟨k, hk0, hk1, rfl, rfl⟩ := hrel
        have hks' : k ≤ s.size := by have := HS2.out; omega
        by_cases hlt2 : k < j + 1 + m2.length
        · obtain ⟨c, v, hks, e, d1, d2, hc47, hv, hv9', hn⟩ := hm2.digitB hmax hk0 hlt2
          have hlti2 : (k : Int) < (s.size : Int) := by omega
          have hk0i : (0 : Int) ≤ (k : Int) := by omega
          rw [← hv]
          have HN := Lib.hid hn
          clear hv hn hc47
          go_wp2
          go_round
          case rel => exact ⟨k + 1, by omega, by omega, by go_num, by rw [HN.out]⟩
          case measure => simp [intOf]; omega
        · have hke : k = j + 1 + m2.length := by omega
          have ht2 : m2.take (k - (j + 1)) = m2 := by rw [hke]; simp
          have hle : (s.size : Int) ≤ (k : Int) := by have := HS2.out; omega
          rw [ht2]
          clear ht2 hke hlt2
          go_wp2
          go_ret3
          exact ⟨by first | rfl | simp, rfl⟩
/-- brief at a short number. -/
theorem rbrief_yes (q : Rat) (hl : (R q).length ≤ 9) (w : World) : Calls Tryz.prog 74 #[S (R q)] w (fun e w' => e = .returned (.tuple #[.int .i64 q.num, .int .i64 q.den, .bool true]) ∧ w = w') := by
  have hp := D_length_pos q.num.natAbs
  have hp2 := D_length_pos q.den
  have e1 : ((val (D q.num.natAbs) : Nat) : Int) = q.num.natAbs := by rw [val_D]
  by_cases hd : q.den = 1
  · rw [R_whole hd] at hl ⊢
    by_cases hn : q.num < 0
    · rw [I_abs.1 hn] at hl ⊢
      have h := seg_mk [45] (D q.num.natAbs) [] (allD_D _)
      simp only [List.append_nil, List.singleton_append, List.length_singleton] at h
      have r := rbrief_whole1 _ _ h (by rw [bs_size]; simp; omega) (by rw [bs_size]; exact hl) hp ⟨by rw [bs_size]; simp, rfl⟩ w
      rw [e1, show -(q.num.natAbs : Int) = q.num by omega] at r
      rw [hd]; exact r
    · rw [I_abs.2 hn] at hl ⊢
      have h := seg_mk [] (D q.num.natAbs) [] (allD_D _)
      simp only [List.append_nil, List.nil_append, List.length_nil] at h
      have r := rbrief_whole0 _ _ h (by rw [bs_size]; simp) (by rw [bs_size]; exact hl) hp w
      rw [e1, show (q.num.natAbs : Int) = q.num by omega] at r
      rw [hd]; exact r
  · rw [R_frac hd] at hl ⊢
    have e2 : ((val (D q.den) : Nat) : Int) = q.den := by rw [val_D]
    by_cases hn : q.num < 0
    · rw [I_abs.1 hn] at hl ⊢
      have h := seg_mk [45] (D q.num.natAbs) (47 :: D q.den) (allD_D _)
      have h2 := seg_mk (45 :: D q.num.natAbs ++ [47]) (D q.den) [] (allD_D _)
      simp only [List.append_nil, List.length_singleton, List.append_assoc, List.cons_append, List.nil_append] at h h2
      rw [show (45 :: (D q.num.natAbs ++ [47])).length = 1 + (D q.num.natAbs).length + 1 by simp; omega] at h2
      have r := rbrief_slash1 _ _ _ h h2 (by rw [bs_size]; simp; omega) hp2 ⟨by rw [bs_size]; simp; omega, by rw [bs_get]; simp [List.getD, Nat.add_comm 1]⟩ (by rw [bs_size]; exact hl) hp ⟨by rw [bs_size]; simp, rfl⟩ w
      rw [e1, e2, show -(q.num.natAbs : Int) = q.num by omega] at r
      exact r
    · rw [I_abs.2 hn] at hl ⊢
      have h := seg_mk [] (D q.num.natAbs) (47 :: D q.den) (allD_D _)
      have h2 := seg_mk (D q.num.natAbs ++ [47]) (D q.den) [] (allD_D _)
      simp only [List.append_nil, List.nil_append, List.length_nil, List.append_assoc, List.cons_append] at h h2
      rw [show List.length (D q.num.natAbs ++ [(47 : UInt8)]) = 0 + (D q.num.natAbs).length + 1 by simp] at h2
      have r := rbrief_slash0 _ _ _ h h2 (by rw [bs_size]; simp; omega) hp2 ⟨by rw [bs_size]; simp, by rw [bs_get]; simp [List.getD]⟩ (by rw [bs_size]; exact hl) hp w
      rw [e1, e2, show (q.num.natAbs : Int) = q.num by omega] at r
      exact r
theorem R_parts_short {q : Rat} {k : Nat} (h : (R q).length ≤ k) : q.num.natAbs < 10 ^ k ∧ q.den < 10 ^ k ∨ k = 0 := by
  by_cases hk : k = 0
  · exact .inr hk
  · left
    by_cases hd : q.den = 1
    · rw [R_whole hd] at h
      exact ⟨short_lt h, by rw [hd]; exact Nat.one_lt_pow hk (by omega)⟩
    · rw [R_frac hd, List.length_append, List.length_cons] at h
      exact ⟨short_lt (by omega), lt_pow_of_len (by omega)⟩
set_option maxRecDepth 100000 in
set_option maxHeartbeats 1000000 in
theorem refAdd_short (p q : Rat) (h1 : (R p).length ≤ 9) (h2 : (R q).length ≤ 9) (w : World) (hw : Okw w) : Calls Tryz.prog 27 #[S (R p), S (R q)] w (RetS (R (p + q)) w) := by
  have q1 := rbrief_yes p h1
  have q2 := rbrief_yes q h2
  have e9 : (10 : Nat) ^ 9 = 1000000000 := by decide
  obtain ⟨s1, s2⟩ := (R_parts_short h1).resolve_right (by omega)
  obtain ⟨s3, s4⟩ := (R_parts_short h2).resolve_right (by omega)
  rw [e9] at s1 s2 s3 s4
  have w1 := wrap64_mul (x := p.num) (y := (q.den : Int)) s1 (by rw [Int.natAbs_natCast]; exact s4)
  have w2 := wrap64_mul (x := q.num) (y := (p.den : Int)) s3 (by rw [Int.natAbs_natCast]; exact s2)
  have w3 := wrap64_mul (x := (p.den : Int)) (y := (q.den : Int)) (by rw [Int.natAbs_natCast]; exact s2) (by rw [Int.natAbs_natCast]; exact s4)
  have b1 := abs_mul_le (x := p.num) (y := (q.den : Int)) s1 (by rw [Int.natAbs_natCast]; exact s4)
  have b2 := abs_mul_le (x := q.num) (y := (p.den : Int)) s3 (by rw [Int.natAbs_natCast]; exact s2)
  have b3 := abs_mul_le (x := (p.den : Int)) (y := (q.den : Int)) (by rw [Int.natAbs_natCast]; exact s2) (by rw [Int.natAbs_natCast]; exact s4)
  have w4 : IntKind.i64.wrap (p.num * (q.den : Int) + q.num * (p.den : Int)) = p.num * (q.den : Int) + q.num * (p.den : Int) := IntWalk.i64_in _ (by omega)
  have sm := refLowest_c (p.num * (q.den : Int) + q.num * (p.den : Int)) (p.den * q.den) (Nat.mul_pos p.den_pos q.den_pos) (by omega) (by omega) (by rw [← Int.natCast_mul, Int.natAbs_natCast] at b3; omega)
  rw [Int.natCast_mul, ← Rat.add_def'] at sm
  clear b1 b2 b3 h1 h2 e9 s1 s2 s3 s4
  go_enter Tryz.func27, Tryz.ntmps27
  go_wp2_with fail
  ((with_reducible refine (q1 _).mono ?_); rintro e w1 ⟨rfl, rfl⟩)
  go_wp2_with fail
  ((with_reducible refine (q2 _).mono ?_); rintro e w2 ⟨rfl, rfl⟩)
  go_wp2_with fail
  ((with_reducible refine (sm _ hw).mono ?_); rintro e w3 ⟨rfl, hx3⟩)
  go_wp2
  go_ret
  exact ⟨rfl, hx3⟩
end Go.Proofs.YtblijhokcjpeeaaGreatDoor
namespace Go.Proofs.YtblijhokcjpeeaaGreatDoor
open Go.RowKit Kl

theorem mkRat_one' (x : Int) : mkRat x 1 = (x : Rat) := by
  apply Rat.ext
  · rw [Rat.num_mkRat]; simp
  · rw [Rat.den_mkRat]; simp
theorem refOf1_c (n : Int) (h1 : n.natAbs < 10000000) (w : World) (hw : Okw w) : Calls Tryz.prog 28 #[.int .i64 n, .int .i64 1] w (RetS (R (n : Rat)) w) := by
  rw [← mkRat_one']; exact refOf_c n 1 (by omega) h1 (by omega) w hw
theorem refOf2_c (n : Int) (h1 : n.natAbs < 10000000) (w : World) (hw : Okw w) : Calls Tryz.prog 28 #[.int .i64 n, .int .i64 2] w (RetS (R (mkRat n 2)) w) :=
  refOf_c n 2 (by omega) h1 (by omega) w hw
set_option maxHeartbeats 1000000 in
theorem lawAt_c (x y : Int) (hx : x.natAbs < 10000000) (hy : y.natAbs < 10000000) (w : World) (hw : Okw w) : Calls Tryz.prog 21 #[.int .i64 x, .int .i64 y] w (RetV (ptV ⟨x, y⟩) w) := by
  have o1 := refOf1_c x hx
  have o2 := refOf1_c y hy
  have hb := heap_alloc_new w (.cells #[S [], S []] 29)
  have hE := (Ext.refl w).alloc (.cells #[S [], S []] 29)
  unfold ptV
  clear hx hy
  go_enter Tryz.func21, Tryz.ntmps21
  go_wp2_with fail
  rw [show (⟨#[]⟩ : ByteArray) = ⟨([] : Bs).toArray⟩ from rfl]
  ((with_reducible refine (o1 _ (hw.ext hE)).mono ?_); rintro e w1 ⟨rfl, hx⟩)
  replace hb := (hx.block _ (lt_of_block hb)).trans hb
  replace hE := hE.trans hx
  go_wp2_with fail
  ((with_reducible refine (o2 _ (hw.ext hE)).mono ?_); rintro e w2 ⟨rfl, hx2⟩)
  replace hb := (hx2.block _ (lt_of_block hb)).trans hb
  replace hE := hE.trans hx2
  have g1 := cell_of_blk (o := 0) hb rfl
  have g2 := cell_of_blk (o := 1) hb rfl
  have g3 := free_of_blk (o := 0) hb
  have g4 := free_of_blk (o := 1) hb
  obtain ⟨e1, e2⟩ := set2 (S (R (x : Rat))) (S (R (y : Rat))) g1 g2
  go_wp2
  refine bodyPost_ret (v := .agg #[S (R (x : Rat)), S (R (y : Rat))]) (by simp [results, Tryz.results21, go_sem, e1, e2]) rfl ?_
  exact ⟨rfl, (hE.setCell (Nat.le_refl _) _).setCell (Nat.le_refl _) _⟩

/-- A frame: six numbers. -/
structure Fr where
  a : Int
  b : Int
  s : Int
  t : Int
  u : Int
  v : Int
structure Fr.Ok (f : Fr) : Prop where
  a1 : -128 ≤ f.a
  a2 : f.a ≤ 127
  b1 : -128 ≤ f.b
  b2 : f.b ≤ 127
  s1 : 0 ≤ f.s
  s2 : f.s ≤ 255
  t1 : 0 ≤ f.t
  t2 : f.t ≤ 255
  u1 : 0 ≤ f.u
  u2 : f.u ≤ 255
  v1 : 0 ≤ f.v
  v2 : f.v ≤ 255
def frV (f : Fr) : Value := .agg #[.int .i8 f.a, .int .i8 f.b, .int .u8 f.s, .int .u8 f.t, .int .u8 f.u, .int .u8 f.v]
def frLow (f : Fr) : Pt := ⟨((f.a.tmod 8 : Int) : Rat), ((f.b.tmod 8 : Int) : Rat)⟩
def frCv (f : Fr) : Cv := ⟨frLow f, ⟨(frLow f).x + mkRat (1 + f.s % 12) 2, (frLow f).y + mkRat (1 + f.t % 12) 2⟩, (1 + f.u % 30).toNat, (1 + f.v % 30).toNat⟩
theorem tmod8 (a : Int) : -7 ≤ a.tmod 8 ∧ a.tmod 8 ≤ 7 := by
  have h := Int.natAbs_tmod a 8
  have h2 := Nat.mod_lt a.natAbs (show 0 < (8 : Int).natAbs by decide)
  have : (8 : Int).natAbs = 8 := rfl
  omega
theorem sz_low (a : Int) : Sz 1 ((a.tmod 8 : Int) : Rat) := Sz.int (by omega) (by have := tmod8 a; omega)
theorem ten2 : (10 : Nat) ^ 2 = 100 := by decide
theorem sz_half' (s : Int) : Sz 2 (mkRat (1 + s % 12) 2) := Sz.mkRat (by omega) (by rw [ten2]; omega) (by decide)
theorem half_pos (s : Int) : 0 < mkRat (1 + s % 12) 2 := by
  rw [Rat.mkRat_eq_div]
  have h1 : (0 : Rat) < ((1 + s % 12 : Int) : Rat) := Rat.intCast_pos.2 (by omega)
  have h2 : (0 : Rat) < ((2 : Nat) : Rat) := Rat.natCast_pos.2 (by omega)
  rw [Rat.div_def]
  exact Rat.mul_pos h1 (Rat.inv_pos.2 h2)
theorem sz_high (a s : Int) : Sz 3 (((a.tmod 8 : Int) : Rat) + mkRat (1 + s % 12) 2) := by
  have hp := half_pos s
  have ht := tmod8 a
  rw [Rat.add_def']
  have hd : ((a.tmod 8 : Int) : Rat).den = 1 := rfl
  have hn : ((a.tmod 8 : Int) : Rat).num = a.tmod 8 := rfl
  have hz := sz_half' s
  have e2 : (10 : Nat) ^ 2 = 100 := by decide
  have e3 : (10 : Nat) ^ 3 = 1000 := by decide
  have hden : (mkRat (1 + s % 12) 2).den ≤ 2 := by
    rw [Rat.den_mkRat, if_neg (by omega)]; exact Nat.div_le_self _ _
  have hden0 := (mkRat (1 + s % 12) 2).den_pos
  have hnum := hz.num
  rw [hd, hn]
  refine Sz.mkRat (by omega) ?_ (by omega)
  have h1 : (a.tmod 8 * ((mkRat (1 + s % 12) 2).den : Int)).natAbs ≤ 7 * 2 := by
    rw [Int.natAbs_mul, Int.natAbs_natCast]; exact Nat.mul_le_mul (by omega) hden
  have h2 := Int.natAbs_add_le (a.tmod 8 * ((mkRat (1 + s % 12) 2).den : Int)) ((mkRat (1 + s % 12) 2).num * ((1 : Nat) : Int))
  rw [show ((1 : Nat) : Int) = 1 from rfl, Int.mul_one] at h2 ⊢
  omega
theorem frCv_ok (f : Fr) : CvS (frCv f) := by
  refine ⟨⟨?_, ?_, ?_, ?_, ?_, ?_⟩, ⟨(sz_low _).mono (by omega), (sz_low _).mono (by omega)⟩, ⟨sz_high _ _, sz_high _ _⟩⟩
  · have := half_pos f.s; show (frLow f).x < (frLow f).x + mkRat (1 + f.s % 12) 2; grind
  · have := half_pos f.t; show (frLow f).y < (frLow f).y + mkRat (1 + f.t % 12) 2; grind
  · show 1 ≤ (1 + f.u % 30).toNat; omega
  · show (1 + f.u % 30).toNat ≤ 2000; omega
  · show 1 ≤ (1 + f.v % 30).toNat; omega
  · show (1 + f.v % 30).toNat ≤ 2000; omega
theorem blk6_set {w : World} {b : Nat} {a0 a1 a2 a3 a4 a5 : Value} {t : TypeId} (v0 v1 v2 v3 v4 v5 : Value) (h : w.heap[b]? = some (.cells #[a0, a1, a2, a3, a4, a5] t)) :
    ((((((w.setCell ⟨b, 0, none⟩ v0).setCell ⟨b, 1, none⟩ v1).setCell ⟨b, 2, none⟩ v2).setCell ⟨b, 3, none⟩ v3).setCell ⟨b, 4, none⟩ v4).setCell ⟨b, 5, none⟩ v5).heap[b]? = some (.cells #[v0, v1, v2, v3, v4, v5] t) := by
  simp only [World.setCell, Array.getElem?_modify, h]
  simp
set_option maxRecDepth 100000 in
set_option maxHeartbeats 4000000 in
theorem make_c (f : Fr) (hf : f.Ok) (w : World) (hw : Okw w) : Calls Tryz.prog 9 #[frV f] w (RetV (cvV (frCv f)) w) := by
  obtain ⟨a, b, s, t, u, v⟩ := f
  obtain ⟨a1, a2, b1, b2, s1, s2, t1, t2, u1, u2, v1, v2⟩ := hf
  simp only at a1 a2 b1 b2 s1 s2 t1 t2 u1 u2 v1 v2
  have hta := tmod8 a
  have htb := tmod8 b
  have la := lawAt_c (a.tmod 8) (b.tmod 8) (by omega) (by omega)
  have o1 := refOf2_c (1 + s % 12) (by omega)
  have o2 := refOf2_c (1 + t % 12) (by omega)
  have ad1 := refAdd_short ((a.tmod 8 : Int) : Rat) (mkRat (1 + s % 12) 2) (Nat.le_trans (R_length (by omega) (sz_low a)) (by omega)) (Nat.le_trans (R_length (by omega) (sz_half' s)) (by omega))
  have ad2 := refAdd_short ((b.tmod 8 : Int) : Rat) (mkRat (1 + t % 12) 2) (Nat.le_trans (R_length (by omega) (sz_low b)) (by omega)) (Nat.le_trans (R_length (by omega) (sz_half' t)) (by omega))
  obtain ⟨lx, hlx⟩ : ∃ q : Rat, q = ((a.tmod 8 : Int) : Rat) := ⟨_, rfl⟩
  obtain ⟨ly, hly⟩ : ∃ q : Rat, q = ((b.tmod 8 : Int) : Rat) := ⟨_, rfl⟩
  obtain ⟨px, hpx⟩ : ∃ q : Rat, q = mkRat (1 + s % 12) 2 := ⟨_, rfl⟩
  obtain ⟨py, hpy⟩ : ∃ q : Rat, q = mkRat (1 + t % 12) 2 := ⟨_, rfl⟩
  have HV : Hid (cvV (frCv ⟨a, b, s, t, u, v⟩) = .agg #[S (R lx), S (R ly), S (R (lx + px)), S (R (ly + py)), .int .i64 (1 + u % 30), .int .i64 (1 + v % 30)]) := Lib.hid (by
    rw [hlx, hly, hpx, hpy]
    have e1 : ((1 + u % 30).toNat : Int) = 1 + u % 30 := by omega
    have e2 : ((1 + v % 30).toNat : Int) = 1 + v % 30 := by omega
    show Value.agg #[_, _, _, _, .int .i64 ((1 + u % 30).toNat : Int), .int .i64 ((1 + v % 30).toNat : Int)] = _
    rw [e1, e2]; rfl)
  unfold ptV at la
  rw [← hlx, ← hly] at la
  rw [← hpx] at o1
  rw [← hpy] at o2
  rw [← hlx, ← hpx] at ad1
  rw [← hly, ← hpy] at ad2
  rw [HV.out]
  unfold frV
  have hb1 := heap_alloc_new w (.cells #[.int .i8 a, .int .i8 b, .int .u8 s, .int .u8 t, .int .u8 u, .int .u8 v] 26)
  clear hlx hly hpx hpy
  go_enter Tryz.func9, Tryz.ntmps9
  go_wp2_with fail
  obtain ⟨W, hW, hE, hb1, hb2⟩ : ∃ W, W = (w.alloc (.cells #[.int .i8 a, .int .i8 b, .int .u8 s, .int .u8 t, .int .u8 u, .int .u8 v] 26)).alloc (.cells #[S [], S [], S [], S [], .int .i64 0, .int .i64 0] 35) ∧ Ext w W ∧ W.heap[w.heap.size]? = some (.cells #[.int .i8 a, .int .i8 b, .int .u8 s, .int .u8 t, .int .u8 u, .int .u8 v] 26) ∧ W.heap[w.heap.size + 1]? = some (.cells #[S [], S [], S [], S [], .int .i64 0, .int .i64 0] 35) := by
    refine ⟨_, rfl, ((Ext.refl _).alloc _).alloc _, (Below.heap_alloc _ _ _ (by simp)).trans hb1, ?_⟩
    have h := heap_alloc_new (w.alloc (.cells #[.int .i8 a, .int .i8 b, .int .u8 s, .int .u8 t, .int .u8 u, .int .u8 v] 26)) (.cells #[S [], S [], S [], S [], .int .i64 0, .int .i64 0] 35)
    rwa [World.size_alloc] at h
  rw [show (⟨#[]⟩ : ByteArray) = ⟨([] : Bs).toArray⟩ from rfl, ← hW]
  clear hW
  ((with_reducible refine (la _ (hw.ext hE)).mono ?_); rintro e w1 ⟨rfl, hx⟩)
  have hx := hx.alloc (.cells #[S (R lx), S (R ly)] 29)
  replace hb1 := (hx.block _ (lt_of_block hb1)).trans hb1
  replace hb2 := (hx.block _ (lt_of_block hb2)).trans hb2
  replace hE := hE.trans hx
  have hb3 := heap_alloc_new w1 (.cells #[S (R lx), S (R ly)] 29)
  go_upto_region 2 with fail
  generalize w1.alloc (.cells #[S (R lx), S (R ly)] 29) = V at *
  obtain ⟨bp, hbpe⟩ : ∃ bp, bp = w1.heap.size := ⟨_, rfl⟩
  rw [← hbpe] at hb3 ⊢
  clear hbpe hx la
  have k1 := cell_of_blk (o := 0) hb3 rfl
  have k2 := cell_of_blk (o := 1) hb3 rfl
  have k3 := cell_of_blk (o := 2) hb1 rfl
  have k4 := cell_of_blk (o := 3) hb1 rfl
  have hwV := hw.ext hE
  go_cut [4] (fun v4 wx => ∃ b, v4 = .pointer (some ⟨b, 0, none⟩) ∧ wx.heap[b]? = some (.cells #[S (R (lx + px)), S (R (ly + py))] 29) ∧ Ext V wx)
  case first =>
    have hs1 : w.heap.size < V.heap.size := lt_of_block hb1
    have ea : s.tmod 12 = s % 12 := Int.tmod_eq_emod_of_nonneg s1
    have eb : IntKind.i64.wrap (s % 12) = s % 12 := IntWalk.i64_in _ (by omega)
    have ec : IntKind.i64.wrap (1 + s % 12) = 1 + s % 12 := IntWalk.i64_in _ (by omega)
    have ed : t.tmod 12 = t % 12 := Int.tmod_eq_emod_of_nonneg t1
    have ee : IntKind.i64.wrap (t % 12) = t % 12 := IntWalk.i64_in _ (by omega)
    have ef : IntKind.i64.wrap (1 + t % 12) = 1 + t % 12 := IntWalk.i64_in _ (by omega)
    have hs2 : bp < V.heap.size := lt_of_block hb3
    go_region_held3 (fun w' => w'.cell? ⟨bp, 0, none⟩ = some (S (R lx)) ∧ w'.cell? ⟨bp, 1, none⟩ = some (S (R ly)) ∧ w'.cell? ⟨w.heap.size, 2, none⟩ = some (.int .u8 s) ∧ w'.cell? ⟨w.heap.size, 3, none⟩ = some (.int .u8 t))
      (first | go_keep | (refine ⟨?_, ?_, ?_, ?_⟩ <;> (rw [World.cell?_setCell_far _ _ _ _ (by simp only [ne_eq]; omega), World.cell?_setCell_far _ _ _ _ (by simp only [ne_eq]; omega)]; assumption)))
      (first
        | ((with_reducible refine (o1 _ ?_).mono ?_); (exact hwV.ext (by first | exact (Ext.refl _).drew | exact ((Ext.refl _).alloc _).drew)); rintro e w6 ⟨rfl, hx6⟩; have X6 : Ext V w6 := (by first | exact (Ext.refl _).drew.trans hx6 | exact ((Ext.refl _).alloc _).drew.trans hx6); have g1 := X6.cellS k1; have g2 := X6.cellS k2; have g3 := X6.cellS k3; have g4 := X6.cellS k4; have s6 := X6.size; (first | (have Z6 : w6.heap[V.heap.size]? = some (.cells #[S [], S []] 29) := (hx6.block _ (by simp)).trans (heap_alloc_new V _)) | skip))
        | ((with_reducible refine (ad1 _ ?_).mono ?_); (exact hwV.ext (by first | exact X6 | exact X6.alloc _)); rintro e w7 ⟨rfl, hx7⟩; have X7 : Ext V w7 := (by first | exact X6.trans hx7 | exact (X6.alloc _).trans hx7); have h1 := X7.cellS k1; have h2 := X7.cellS k2; have h3 := X7.cellS k3; have h4 := X7.cellS k4; have s7 := X7.size; (first | (have Z7 : w7.heap[V.heap.size]? = some (.cells #[S [], S []] 29) := (hx7.block _ (lt_of_block Z6)).trans Z6) | (have Z7 : w7.heap[w6.heap.size]? = some (.cells #[S [], S []] 29) := (hx7.block _ (by simp)).trans (heap_alloc_new w6 _)) | skip))
        | ((with_reducible refine (o2 _ ?_).mono ?_); (exact hwV.ext (by first | exact X7 | exact X7.alloc _)); rintro e w8 ⟨rfl, hx8⟩; have X8 : Ext V w8 := (by first | exact X7.trans hx8 | exact (X7.alloc _).trans hx8); have i1 := X8.cellS k1; have i2 := X8.cellS k2; have i3 := X8.cellS k3; have i4 := X8.cellS k4; have s8 := X8.size; (first | (have Z8 := (hx8.block _ (lt_of_block Z7)).trans Z7) | (have Z8 : w8.heap[w7.heap.size]? = some (.cells #[S [], S []] 29) := (hx8.block _ (by simp)).trans (heap_alloc_new w7 _)) | skip))
        | ((with_reducible refine (ad2 _ ?_).mono ?_); (exact hwV.ext (by first | exact X8 | exact X8.alloc _)); rintro e w9 ⟨rfl, hx9⟩; have X9 : Ext V w9 := (by first | exact X8.trans hx9 | exact (X8.alloc _).trans hx9); have j1 := X9.cellS k1; have j2 := X9.cellS k2; have j3 := X9.cellS k3; have j4 := X9.cellS k4; have s9 := X9.size; (first | (have Z9 := (hx9.block _ (lt_of_block Z8)).trans Z8; have y1 := cell_of_blk (o := 0) Z9 rfl; have y2 := cell_of_blk (o := 1) Z9 rfl; have y3 := free_of_blk (o := 0) Z9; have y4 := free_of_blk (o := 1) Z9) | (have Z9 : w9.heap[w8.heap.size]? = some (.cells #[S [], S []] 29) := (hx9.block _ (by simp)).trans (heap_alloc_new w8 _); have y1 := cell_of_blk (o := 0) Z9 rfl; have y2 := cell_of_blk (o := 1) Z9 rfl; have y3 := free_of_blk (o := 0) Z9; have y4 := free_of_blk (o := 1) Z9) | skip)))
    all_goals go_wp2
    all_goals go_meet
    all_goals first
      | exact ⟨_, rfl, heap_alloc_new w9 _, X9.alloc _⟩
      | exact ⟨_, rfl, blk2_set _ _ Z9, (X9.setCell (by simp only []; omega) _).setCell (by simp only []; omega) _⟩
      | exact ⟨_, rfl, blk2_set _ _ Z9, (X9.setCell (Nat.le_refl _) _).setCell (Nat.le_refl _) _⟩
  case rest =>
    obtain ⟨bh, rfl, hb4, hxc⟩ := hcut
    replace hb1 := (hxc.block _ (lt_of_block hb1)).trans hb1
    replace hb2 := (hxc.block _ (lt_of_block hb2)).trans hb2
    replace hb3 := (hxc.block _ (lt_of_block hb3)).trans hb3
    replace hE := hE.trans hxc
    have p1 := cell_of_blk (o := 0) hb3 rfl
    have p2 := cell_of_blk (o := 1) hb3 rfl
    have p3 := cell_of_blk (o := 0) hb4 rfl
    have p4 := cell_of_blk (o := 1) hb4 rfl
    have p5 := cell_of_blk (o := 4) hb1 rfl
    have p6 := cell_of_blk (o := 5) hb1 rfl
    have c0 := cell_of_blk (o := 0) hb2 rfl
    have c1 := cell_of_blk (o := 1) hb2 rfl
    have c2 := cell_of_blk (o := 2) hb2 rfl
    have c3 := cell_of_blk (o := 3) hb2 rfl
    have c4 := cell_of_blk (o := 4) hb2 rfl
    have c5 := cell_of_blk (o := 5) hb2 rfl
    have f0 := free_of_blk (o := 0) hb2
    have f1 := free_of_blk (o := 1) hb2
    have f2 := free_of_blk (o := 2) hb2
    have f3 := free_of_blk (o := 3) hb2
    have f4 := free_of_blk (o := 4) hb2
    have f5 := free_of_blk (o := 5) hb2
    have hZ := blk6_set (S (R lx)) (S (R ly)) (S (R (lx + px))) (S (R (ly + py))) (.int .i64 (1 + u % 30)) (.int .i64 (1 + v % 30)) hb2
    have hle : w.heap.size ≤ w.heap.size + 1 := by omega
    have hEE := (((((hE.setCell (p := ⟨w.heap.size + 1, 0, none⟩) hle (S (R lx))).setCell (p := ⟨w.heap.size + 1, 1, none⟩) hle (S (R ly))).setCell (p := ⟨w.heap.size + 1, 2, none⟩) hle (S (R (lx + px)))).setCell (p := ⟨w.heap.size + 1, 3, none⟩) hle (S (R (ly + py)))).setCell (p := ⟨w.heap.size + 1, 4, none⟩) hle (.int .i64 (1 + u % 30))).setCell (p := ⟨w.heap.size + 1, 5, none⟩) hle (.int .i64 (1 + v % 30))
    obtain ⟨X, hX⟩ : ∃ X, X = ((((((wc.setCell ⟨w.heap.size + 1, 0, none⟩ (S (R lx))).setCell ⟨w.heap.size + 1, 1, none⟩ (S (R ly))).setCell ⟨w.heap.size + 1, 2, none⟩ (S (R (lx + px)))).setCell ⟨w.heap.size + 1, 3, none⟩ (S (R (ly + py)))).setCell ⟨w.heap.size + 1, 4, none⟩ (.int .i64 (1 + u % 30))).setCell ⟨w.heap.size + 1, 5, none⟩ (.int .i64 (1 + v % 30))) := ⟨_, rfl⟩
    rw [← hX] at hZ hEE
    have x0 := cell_of_blk (o := 0) hZ rfl
    have x1 := cell_of_blk (o := 1) hZ rfl
    have x2 := cell_of_blk (o := 2) hZ rfl
    have x3 := cell_of_blk (o := 3) hZ rfl
    have x4 := cell_of_blk (o := 4) hZ rfl
    have x5 := cell_of_blk (o := 5) hZ rfl
    have HX := Lib.hid hX
    clear hX
    go_wp2
    rw [← HX.out]
    refine bodyPost_ret (v := .agg #[S (R lx), S (R ly), S (R (lx + px)), S (R (ly + py)), .int .i64 (1 + u % 30), .int .i64 (1 + v % 30)]) (by simp [results, Tryz.results9, go_sem, x0, x1, x2, x3, x4, x5]) rfl ?_
    exact ⟨rfl, hEE⟩
end Go.Proofs.YtblijhokcjpeeaaGreatDoor
