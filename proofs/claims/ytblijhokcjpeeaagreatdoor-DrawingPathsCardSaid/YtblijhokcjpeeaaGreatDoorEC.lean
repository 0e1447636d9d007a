/- The reference of layer 1: Add, Sub, Compare, Mul. -/
import Derived.Test.YtblijhokcjpeeaaGreatDoorEB
import Derived.Test.YtblijhokcjpeeaaGreatDoorMJ
import Derived.Test.YtblijhokcjpeeaaGreatDoorMQ
/- The reference of layer 1: Split, Small, brief, give, made, Sign, Neg, Abs. -/
namespace Go.Proofs.YtblijhokcjpeeaaGreatDoor
open Go.RowKit Kl
attribute [local go_sem] bs_idx

theorem D_head' (n : Nat) : ∃ (c : UInt8) (l : Bs), D n = c :: l ∧ ((c.toNat : Int) == 45) = false := by
  match hd : D n, D_ne_nil n with
  | c :: r, _ =>
    have := allD_D n c (by rw [hd]; simp)
    refine ⟨c, r, rfl, ?_⟩
    rw [beq_eq_false_iff_ne]
    have := this.1; omega
set_option maxRecDepth 100000 in
set_option maxHeartbeats 1000000 in
theorem refSplit_c (z : Int) (m : Bool) (n : Nat) (hm : m = decide (z < 0)) (hn : n = z.natAbs) (hl : (D n).length ≤ 100000) (w : World) : Calls Tryz.prog 138 #[S (I z)] w (RetV (.tuple #[.bool m, S (D n)]) w) := by
  rcases I_cases z with ⟨k, rfl, e⟩ | ⟨k, hk, rfl, e⟩
  · obtain rfl : n = k := by omega
    have hm2 : m = false := by rw [hm]; exact decide_eq_false (by omega)
    subst hm2
    obtain ⟨c, r, e1, hc⟩ := D_head' n
    rw [e]
    have h0 : 0 < (D n).length := by rw [e1]; simp
    have hg : (D n)[0]'h0 = c := by rw [List.getElem_of_eq e1 h0]; rfl
    have hl1 : (0 : Int) < ((D n).length : Int) := by omega
    clear e1 e hm hn
    go_enter Tryz.func138, Tryz.ntmps138
    go_wp2
    go_ret2
    exact ⟨rfl, Ext.refl _⟩
  · obtain rfl : n = k := by omega
    have hm2 : m = true := by rw [hm]; exact decide_eq_true (by omega)
    subst hm2
    rw [e]
    obtain ⟨t, ht⟩ : ∃ t, 45 :: D n = t := ⟨_, rfl⟩
    have HD : Hid (t.drop 1 = D n) := Lib.hid (by rw [← ht]; rfl)
    obtain ⟨c, hc⟩ : ∃ c : UInt8, c = 45 := ⟨_, rfl⟩
    have h0 : 0 < t.length := by rw [← ht]; simp
    have hg : t[0]'h0 = c := by subst ht; rw [hc]; rfl
    have hcb : ((c.toNat : Int) == 45) = true := by rw [hc]; rfl
    have hl1 : (1 : Int) ≤ (t.length : Int) := by omega
    have hl2 : (0 : Int) < (t.length : Int) := by omega
    have hl3 : t.length ≤ 100001 := by rw [← ht]; simp; omega
    rw [ht]
    clear ht hc hm hn e
    go_enter Tryz.func138, Tryz.ntmps138
    go_wp2_with fail
    go_quiet (fail)
    go_wp2
    go_ret2
    refine ⟨?_, (Ext.refl _).drewN _⟩
    rw [← HD.out]
    first | rfl | (rw [ext_hi]; rfl) | (rw [ext_bs]; simp)

theorem ret_iv {a b : Int} {v : Value} (h : a = b) : Ending.returned (.tuple #[.int .i64 a, v]) = .returned (.tuple #[.int .i64 b, v]) := by rw [h]
/-! ### Small, brief -/
theorem tdiv_low (d : Nat) (h : d < 10) : (-9223372036854775808 + (d : Int)).tdiv 10 < -900000000000000000 ∧ -1000000000000000000 < (-9223372036854775808 + (d : Int)).tdiv 10 := by
  have e : (-9223372036854775808 + (d : Int)) = -((9223372036854775808 - d : Nat) : Int) := by omega
  rw [e, Int.neg_tdiv, Int.tdiv_eq_ediv_of_nonneg (by omega)]
  omega
theorem val_take_snoc (l : Bs) (i : Nat) (h : i < l.length) : val (l.take (i + 1)) = val (l.take i) * 10 + dv (l[i]) := by
  rw [List.take_succ_eq_append_getElem h, val_snoc]
set_option maxRecDepth 100000 in
set_option maxHeartbeats 2000000 in
theorem refSmall1_c (z : Int) (hl : (D z.natAbs).length ≤ 17) (w : World) : Calls Tryz.prog 143 #[S (I z)] w (RetV (.tuple #[.int .i64 z, .bool true]) w) := by
  obtain ⟨n, hn⟩ : ∃ n, n = z.natAbs := ⟨_, rfl⟩
  rw [← hn] at hl
  obtain ⟨m, hm⟩ : ∃ m, m = decide (z < 0) := ⟨_, rfl⟩
  have sp := refSplit_c z m n hm hn (by omega)
  have ha := allD_D n
  have hv := val_D n
  obtain ⟨l, hll⟩ : ∃ l, l = D n := ⟨_, rfl⟩
  rw [← hll] at sp ha hv hl
  have HA := Lib.hid ha
  have HV := Lib.hid hv
  have HM := Lib.hid hm
  have HN := Lib.hid hn
  have hl19 : (l.length : Int) ≤ 19 := by omega
  clear ha hv hm hn hll
  go_enter Tryz.func143, Tryz.ntmps143
  go_wp2_with fail
  ((with_reducible refine (sp _).mono ?_); rintro e w1 ⟨rfl, hx1⟩)
  clear sp
  go_wp2
  go_loop [6, 7] (fun a i => ∃ j : Nat, j ≤ l.length ∧ i = .int .i64 (j : Nat) ∧ a = .int .i64 (-((val (l.take j) : Nat) : Int))) (fun _ i => l.length - (intOf i).toNat)
  case atStart => exact ⟨0, by omega, rfl, rfl⟩
  case round =>
    obtain ⟨j, hj, rfl, rfl⟩ := hrel
    have hvl := val_lt (allD_take HA.out j)
    have hp17 : 10 ^ (l.take j).length ≤ 10 ^ 17 := Nat.pow_le_pow_right (by omega) (by rw [List.length_take]; omega)
    have e17 : (10 : Nat) ^ 17 = 100000000000000000 := by decide
    have hv17 : val (l.take j) < 100000000000000000 := by omega
    clear hvl hp17 e17
    by_cases hlt : j < l.length
    · have hsn := val_take_snoc l j hlt
      have hid := HA.out l[j] (List.getElem_mem hlt)
      obtain ⟨c, hc⟩ : ∃ c, l[j] = c := ⟨_, rfl⟩
      rw [hc] at hsn hid
      have d1 := hid.1
      have d2 := hid.2
      obtain ⟨d, hd⟩ : ∃ d, d = dv c := ⟨_, rfl⟩
      rw [← hd] at hsn
      have hcd : (c.toNat : Int) - 48 = (d : Int) := by unfold dv at hd; omega
      have hd9 : d < 10 := by unfold dv at hd; omega
      have htd := tdiv_low d hd9
      obtain ⟨t, ht⟩ : ∃ t, (-9223372036854775808 + (d : Int)).tdiv 10 = t := ⟨_, rfl⟩
      rw [ht] at htd
      obtain ⟨htd, htd2⟩ := htd
      obtain ⟨v, hvv⟩ : ∃ v, v = val (l.take j) := ⟨_, rfl⟩
      rw [← hvv] at hsn hv17 ⊢
      have HSN := Lib.hid hsn
      have hjl : (j : Int) < (l.length : Int) := by omega
      have hnl : ¬ (-(v : Int)) < t := by omega
      have hnl2 : decide ((-(v : Int)) < t) = false := decide_eq_false hnl
      clear hid hd hvv hsn
      go_wp2
      go_round
      case rel => exact ⟨j + 1, by omega, by go_num, by rw [HSN.out]; congr 1 <;> omega⟩
      case measure => simp [intOf]; omega
    · obtain rfl : j = l.length := by omega
      rw [List.take_length, HV.out] at hv17 ⊢
      have hnz : ((-(n : Int)) == -9223372036854775808) = false := by rw [beq_eq_false_iff_ne]; omega
      by_cases hz : z < 0
      · have e1 := HM.out
        rw [decide_eq_true hz] at e1
        subst e1
        have HZ : Hid (-(n : Int) = z) := Lib.hid (by have := HN.out; omega)
        go_wp2
        go_ret2
        exact ⟨ret_iv HZ.out, hx1⟩
      · have e1 := HM.out
        rw [decide_eq_false hz] at e1
        subst e1
        have HZ : Hid ((n : Int) = z) := Lib.hid (by have := HN.out; omega)
        go_wp2
        go_ret2
        exact ⟨ret_iv HZ.out, hx1⟩
theorem refBrief_yes (z : Int) (hl : (D z.natAbs).length ≤ 17) (w : World) : Calls Tryz.prog 137 #[S (I z)] w (RetV (.tuple #[.int .i64 z, .bool true]) w) := by
  have sp := refSplit_c z (decide (z < 0)) z.natAbs rfl rfl (by omega)
  have sm := refSmall1_c z hl
  have hl2 : ((D z.natAbs).length : Int) ≤ 17 := by omega
  generalize decide (z < 0) = m at *
  generalize D z.natAbs = t at *
  clear hl
  go_enter Tryz.func137, Tryz.ntmps137
  go_wp2_with fail
  ((with_reducible refine (sp _).mono ?_); rintro e w1 ⟨rfl, hx1⟩)
  go_wp2_with fail
  ((with_reducible refine (sm _).mono ?_); rintro e w2 ⟨rfl, hx2⟩)
  go_wp2
  go_ret2
  exact ⟨rfl, hx1.trans hx2⟩
theorem refBrief_no (z : Int) (hl : 17 < (D z.natAbs).length) (hl2 : (D z.natAbs).length ≤ 100000) (w : World) : Calls Tryz.prog 137 #[S (I z)] w (RetV (.tuple #[.int .i64 0, .bool false]) w) := by
  have sp := refSplit_c z (decide (z < 0)) z.natAbs rfl rfl hl2
  have hl2 : (17 : Int) < ((D z.natAbs).length : Int) := by omega
  generalize decide (z < 0) = m at *
  generalize D z.natAbs = t at *
  clear hl
  go_enter Tryz.func137, Tryz.ntmps137
  go_wp2_with fail
  ((with_reducible refine (sp _).mono ?_); rintro e w1 ⟨rfl, hx1⟩)
  go_wp2
  go_ret2
  exact ⟨rfl, hx1⟩
end Go.Proofs.YtblijhokcjpeeaaGreatDoor
/- The reference of layer 1: give, made, Sign, Neg, Abs. -/
namespace Go.Proofs.YtblijhokcjpeeaaGreatDoor
open Go.RowKit Kl
attribute [local go_sem] bs_idx

theorem D_mono {m n : Nat} (h : m ≤ n) : (D m).length ≤ (D n).length := D_length_le (D_length_pos n) (Nat.lt_of_le_of_lt h (lt_pow_D n))
/-- A piece with its leading zeros. -/
theorem D_1pad (p : Nat) (hp : p < 10000) : D (10000 + p) = 49 :: pad 4 p := by
  have h := D_pad (k := 4) (h := 1) (x := p) (by omega) (by omega) (by omega)
  rw [show 1 * 10 ^ 4 + p = 10000 + p by omega, D_small (show 1 < 10 by omega)] at h
  exact h
theorem D_next (n i p : Nat) (hp : p = n / 10000 ^ i % 10000) (h : 0 < n / 10000 ^ (i + 1)) : D (n / 10000 ^ i) = D (n / 10000 ^ (i + 1)) ++ pad 4 p := by
  have h1 := div_step n i
  rw [← hp] at h1
  have h2 := D_pad (k := 4) (h := n / 10000 ^ (i + 1)) (x := p) (by omega) h (by rw [hp]; omega)
  rw [← h2]
  congr 1
  omega
theorem div_pos_of {n i L : Nat} (hL : 10000 ^ (L - 1) ≤ n) (h : i ≤ L - 1) : 0 < n / 10000 ^ i :=
  Nat.div_pos (Nat.le_trans (Nat.pow_le_pow_right (by omega) h) hL) (Nat.pow_pos (by omega))
set_option maxRecDepth 100000 in
set_option maxHeartbeats 2000000 in
theorem refGive_c (n : Nat) (hl : (D n).length ≤ 20000) (v : Value) (w : World) (hw : Okw w) (hv : RZ w v (zn (pc 10000 n))) : Calls Tryz.prog 196 #[v] w (RetS (D n) w) := by
  obtain ⟨A, c, rfl, hr⟩ := hv
  have hcap := hr.cap
  have hmax := hr.max
  have hlen := hr.len
  have hdig := pc_at 10000 (by omega)
  have hlt := lt_pow_pc (b := 10000) (by omega) n
  have hl9 := pc_lt (b := 10000) (by omega) n
  rw [zn_length] at hcap hlen ⊢
  by_cases hn : n = 0
  · subst hn
    rw [pc_zero, D_small (by omega)]
    go_enter Tryz.func196, Tryz.ntmps196
    go_wp2
    go_ret
    exact ⟨rfl, Ext.refl _⟩
  · have hne : pc 10000 n ≠ [] := fun e => hn ((pc_eq_nil (by omega)).1 e)
    have hpw := pow_le_of_trim (b := 10000) (trim_pc (by omega) n) hne
    rw [ofL_pc (by omega)] at hpw
    have hL0 : 0 < (pc 10000 n).length := List.length_pos_iff.2 hne
    obtain ⟨L, hL⟩ : ∃ L, (pc 10000 n).length = L := ⟨_, rfl⟩
    have HDIG : Hid (∀ i, i < L → at0 (pc 10000 n) i = n / 10000 ^ i % 10000) := Lib.hid (fun i hi => hdig i n (by omega))
    have htop : n / 10000 ^ (L - 1) % 10000 = n / 10000 ^ (L - 1) := by
      refine Nat.mod_eq_of_lt ?_
      rw [Nat.div_lt_iff_lt_mul (Nat.pow_pos (by omega)), ← Nat.pow_succ']
      rw [hL] at hlt
      rwa [show (L - 1).succ = L by omega]
    obtain ⟨b, o, rfl, hc⟩ := hr.ad (by rw [zn_length]; omega)
    have hgt := hc (L - 1) (by rw [zn_length]; omega)
    rw [az_zn, HDIG.out (L - 1) (by omega), htop] at hgt
    have hq9 : n / 10000 ^ (L - 1) < 10000 := by rw [← htop]; exact Nat.mod_lt _ (by omega)
    have HC := Lib.hid hc
    have HL := Lib.hid hL
    rw [hL] at hcap hlen hpw hL0 ⊢
    have HPW := Lib.hid hpw
    obtain ⟨q, hq⟩ : ∃ q, q = n / 10000 ^ (L - 1) := ⟨_, rfl⟩
    rw [← hq] at hgt hq9
    have it := fun W hW => itoa_c (q : Int) (by omega) (by omega) W hW
    rw [I_nat] at it
    have HQ := Lib.hid hq
    have HL9 := Lib.hid hl9
    have hL1 : (1 : Int) ≤ (L : Int) := by omega
    clear hdig hlt hl9 hne hpw htop hc hL hq hn
    go_enter Tryz.func196, Tryz.ntmps196
    go_wp2_with fail
    ((with_reducible refine (it _ hw).mono ?_); rintro e w1 ⟨rfl, hx1⟩)
    clear it hgt
    go_wp2
    go_loopw [3, 4] (fun t i wr => ∃ z : Int, -1 ≤ z ∧ z ≤ (L : Int) - 2 ∧ i = .int .i64 z ∧ t = S (D (n / 10000 ^ (z + 1).toNat)) ∧ Ext w wr) (fun _ i _ => (intOf i + 1).toNat)
    case atStart => exact ⟨(L : Int) - 2, by omega, by omega, rfl, by rw [HQ.out, show ((L : Int) - 2 + 1).toNat = L - 1 by omega], hx1⟩
    case round =>
      clear hx1
      obtain ⟨z, hz1, hz2, rfl, rfl, hext⟩ := hrel
      by_cases hz : 0 ≤ z
      · obtain ⟨i, rfl⟩ := Int.eq_ofNat_of_zero_le hz
        rw [show ((i : Int) + 1).toNat = i + 1 by omega]
        have hi : i < L := by omega
        have hg := hext.cellS (HC.out i (by rw [zn_length, HL.out]; exact hi))
        rw [az_zn] at hg
        have hdg := HDIG.out i hi
        obtain ⟨p, hp⟩ : ∃ p, p = at0 (pc 10000 n) i := ⟨_, rfl⟩
        have hp9 := at0_lt HL9.out (show i < (pc 10000 n).length by rw [HL.out]; exact hi)
        rw [← hp] at hg hp9 hdg
        have hnx := D_next n i p hdg (div_pos_of HPW.out (by omega))
        have HNX := Lib.hid hnx
        have it := fun W hW => itoa_c ((10000 + p : Nat) : Int) (by omega) (by omega) W hW
        rw [I_nat, D_1pad p hp9, Int.natCast_add] at it
        have hpl : (pad 4 p).length = 4 := length_pad (by omega) (by omega)
        have hml : (D (n / 10000 ^ (i + 1))).length ≤ (D n).length := D_mono (Nat.div_le_self _ _)
        obtain ⟨t, ht⟩ : ∃ t, t = D (n / 10000 ^ (i + 1)) := ⟨_, rfl⟩
        rw [← ht] at hml HNX ⊢
        obtain ⟨s, hs⟩ : ∃ s, 49 :: pad 4 p = s := ⟨_, rfl⟩
        rw [hs] at it
        have HSD : Hid (s.drop 1 = pad 4 p) := Lib.hid (by rw [← hs]; rfl)
        have hsl : s.length = 5 := by rw [← hs, List.length_cons, hpl]
        have hs1 : (1 : Int) ≤ (s.length : Int) := by omega
        have hs5 : s.length ≤ 5 := by omega
        have hsd5 : (s.drop 1).length ≤ 5 := by rw [List.length_drop]; omega
        have hc1 : (((10000 : Nat) : Int)) = 10000 := rfl
        rw [hc1] at it
        clear hdg hnx hp ht hs hsl hpl hc1 hi
        go_wp2_with fail
        ((with_reducible refine (it _ (hw.ext hext)).mono ?_); rintro e w2 ⟨rfl, hx2⟩)
        clear it
        go_wp2
        go_roundw
        case rel =>
          refine ⟨(i : Int) - 1, by omega, by omega, rfl, ?_, hext.trans hx2⟩
          rw [show ((i : Int) - 1 + 1).toNat = i by omega, HNX.out, ← HSD.out]
          congr 1
          (apply ByteArray.ext; simp; rw [List.take_of_length_le (by simp)])
        case measure => simp [intOf]
      · have hz0 : (z + 1).toNat = 0 := by omega
        rw [hz0]
        have hz1 : z < 0 := by omega
        have HD : Hid (D (n / 10000 ^ 0) = D n) := Lib.hid (by rw [Nat.pow_zero, Nat.div_one])
        clear hz0
        go_wp2
        go_ret
        exact ⟨ret_s (by first | rfl | rw [HD.out]), hext⟩
/-! ### made -/
def sgI (m : Bool) (n : Nat) : Int := if m then -(n : Int) else n
theorem sgI_of (z : Int) : sgI (decide (z < 0)) z.natAbs = z := by
  unfold sgI
  by_cases h : z < 0
  · rw [decide_eq_true h, if_pos rfl]; omega
  · rw [decide_eq_false h, if_neg (by simp)]; omega
set_option maxRecDepth 100000 in
set_option maxHeartbeats 1000000 in
theorem refMade_c (m : Bool) (n : Nat) (hl : (D n).length ≤ 20000) (v : Value) (w : World) (hw : Okw w) (hv : RZ w v (zn (pc 10000 n))) : Calls Tryz.prog 140 #[.bool m, v] w (RetS (I (sgI m n)) w) := by
  have ct := refCut_c (pc 10000 n) v w hv (pc_lt (by omega) n)
  rw [ofL_pc (by omega)] at ct
  have gv := fun v W hW hV => refGive_c n hl v W hW hV
  cases m with
  | false =>
    have HI : Hid (I (sgI false n) = D n) := Lib.hid (by unfold sgI; rw [if_neg (by simp), I_nat])
    go_enter Tryz.func140, Tryz.ntmps140
    go_wp2_with fail
    ((with_reducible refine ct.mono ?_); rintro e w1 ⟨v1, rfl, hv1, hx1⟩)
    clear ct
    go_wp2_with fail
    ((with_reducible refine (gv _ _ (hw.ext hx1) hv1).mono ?_); rintro e w2 ⟨rfl, hx2⟩)
    go_wp2
    go_ret
    exact ⟨ret_s (by rw [HI.out]), hx1.trans hx2⟩
  | true =>
    by_cases hn : n = 0
    · have HI : Hid (I (sgI true n) = D n) := Lib.hid (by subst hn; rfl)
      have hp0 : pc 10000 n = [] := by rw [hn]; exact pc_zero
      have HP := Lib.hid hp0
      clear hp0 hn
      go_enter Tryz.func140, Tryz.ntmps140
      go_wp2_with fail
      ((with_reducible refine ct.mono ?_); rintro e w1 ⟨v1, rfl, hv1, hx1⟩)
      have g1 := gv v1 w1 (hw.ext hx1) hv1
      obtain ⟨A1, c1, rfl, hz⟩ := hv1
      rw [HP.out] at g1 ⊢
      clear ct gv
      go_wp2_with fail
      ((with_reducible refine g1.mono ?_); rintro e w2 ⟨rfl, hx2⟩)
      go_wp2
      go_ret
      exact ⟨ret_s (by rw [HI.out]), hx1.trans hx2⟩
    · have HI : Hid (I (sgI true n) = 45 :: D n) := Lib.hid (by unfold sgI; rw [if_pos rfl, I_neg n (by omega)])
      have hp0 : 0 < (zn (pc 10000 n)).length := by rw [zn_length]; exact List.length_pos_iff.2 (fun e => hn ((pc_eq_nil (by omega)).1 e))
      clear hn
      go_enter Tryz.func140, Tryz.ntmps140
      go_wp2_with fail
      ((with_reducible refine ct.mono ?_); rintro e w1 ⟨v1, rfl, hv1, hx1⟩)
      have g1 := gv v1 w1 (hw.ext hx1) hv1
      obtain ⟨A1, c1, rfl, hz⟩ := hv1
      clear ct gv
      go_wp2_with fail
      ((with_reducible refine g1.mono ?_); rintro e w2 ⟨rfl, hx2⟩)
      go_wp2
      go_ret
      exact ⟨ret_s (by rw [HI.out]; apply ByteArray.ext; simp), hx1.trans hx2⟩
/-! ### Sign, Neg, Abs -/
set_option maxHeartbeats 400000 in
theorem refISign_c (z : Int) (hl : (D z.natAbs).length ≤ 100000) (w : World) : Calls Tryz.prog 133 #[S (I z)] w (RetI (sgn z) w) := by
  have sp := refSplit_c z (decide (z < 0)) z.natAbs rfl rfl hl
  by_cases hn : z < 0
  · rw [decide_eq_true hn] at sp
    go_enter Tryz.func133, Tryz.ntmps133
    go_wp2_with fail
    ((with_reducible refine (sp _).mono ?_); rintro e w1 ⟨rfl, hx1⟩)
    go_wp2
    go_ret
    exact ⟨ret_i (sgn_neg hn), hx1⟩
  · rw [decide_eq_false hn] at sp
    by_cases h0 : z = 0
    · subst h0
      rw [I_zero] at sp ⊢
      go_enter Tryz.func133, Tryz.ntmps133
      go_wp2_with fail
      ((with_reducible refine (sp _).mono ?_); rintro e w1 ⟨rfl, hx1⟩)
      go_wp2
      go_ret
      exact ⟨rfl, hx1⟩
    · have h1 := I_ne0 h0
      have HS := Lib.hid (sgn_pos (z := z) (by omega))
      clear h0 hn
      go_enter Tryz.func133, Tryz.ntmps133
      go_wp2_with fail
      ((with_reducible refine (sp _).mono ?_); rintro e w1 ⟨rfl, hx1⟩)
      go_wp2
      go_ret
      exact ⟨ret_i HS.out, hx1⟩
set_option maxHeartbeats 400000 in
theorem refINeg_c (z : Int) (hl : (D z.natAbs).length ≤ 100000) (w : World) : Calls Tryz.prog 134 #[S (I z)] w (RetS (I (-z)) w) := by
  have sp := refSplit_c z (decide (z < 0)) z.natAbs rfl rfl hl
  by_cases hn : z < 0
  · rw [decide_eq_true hn] at sp
    have HI : Hid (I (-z) = D z.natAbs) := Lib.hid (by rw [show -z = (z.natAbs : Int) by omega, I_nat])
    go_enter Tryz.func134, Tryz.ntmps134
    go_wp2_with fail
    ((with_reducible refine (sp _).mono ?_); rintro e w1 ⟨rfl, hx1⟩)
    go_wp2
    go_ret
    exact ⟨ret_s (by rw [HI.out]), hx1⟩
  · rw [decide_eq_false hn] at sp
    by_cases h0 : z = 0
    · subst h0
      rw [I_zero] at sp ⊢
      go_enter Tryz.func134, Tryz.ntmps134
      go_wp2_with fail
      ((with_reducible refine (sp _).mono ?_); rintro e w1 ⟨rfl, hx1⟩)
      go_wp2
      go_ret
      exact ⟨rfl, hx1⟩
    · have h1 := I_ne0 h0
      have HI : Hid (I (-z) = 45 :: D z.natAbs) := Lib.hid (by
        have := I_neg z.natAbs (by omega)
        rwa [show -(z.natAbs : Int) = -z by omega] at this)
      clear h0 hn
      go_enter Tryz.func134, Tryz.ntmps134
      go_wp2_with fail
      ((with_reducible refine (sp _).mono ?_); rintro e w1 ⟨rfl, hx1⟩)
      go_wp2
      go_ret
      exact ⟨ret_s (by rw [HI.out]; apply ByteArray.ext; simp), hx1⟩
theorem refIAbs_c (z : Int) (hl : (D z.natAbs).length ≤ 100000) (w : World) : Calls Tryz.prog 193 #[S (I z)] w (RetS (D z.natAbs) w) := by
  have sp := refSplit_c z (decide (z < 0)) z.natAbs rfl rfl hl
  go_enter Tryz.func193, Tryz.ntmps193
  go_wp2_with fail
  ((with_reducible refine (sp _).mono ?_); rintro e w1 ⟨rfl, hx1⟩)
  go_wp2
  go_ret
  exact ⟨rfl, hx1⟩
end Go.Proofs.YtblijhokcjpeeaaGreatDoor
namespace Go.Proofs.YtblijhokcjpeeaaGreatDoor
open Go.RowKit Kl

theorem lt_pow4 {n k : Nat} (h : n < 10 ^ k) : n < 10000 ^ k := Nat.lt_of_lt_of_le h (Nat.pow_le_pow_left (by omega) k)
theorem lt_pow4s {n m k : Nat} (h : n < 10 ^ k) (h2 : m < 10 ^ k) : n + m < 10000 ^ (k + 1) := by
  have h1 := lt_pow4 h
  have h3 := lt_pow4 h2
  rw [Nat.pow_succ]; omega
theorem pcD {n k : Nat} (h : n < 10 ^ k) : (pc 10000 n).length ≤ k := pc_length_le (by omega) (lt_pow4 h)
theorem ref_add_same {a b : Int} {m n : Bool} (hm : m = decide (a < 0)) (hn : n = decide (b < 0)) (h : (m == n) = true) : sgI m (a.natAbs + b.natAbs) = a + b := by
  rw [beq_iff_eq] at h
  unfold sgI
  by_cases h0 : a < 0
  · rw [decide_eq_true h0] at hm; rw [hm] at h; rw [hm, if_pos rfl]
    have : b < 0 := by rw [← h] at hn; exact of_decide_eq_true hn.symm
    omega
  · rw [decide_eq_false h0] at hm; rw [hm] at h; rw [hm, if_neg (by simp)]
    have : ¬ b < 0 := by rw [← h] at hn; exact of_decide_eq_false hn.symm
    omega
theorem ref_add_less {a b : Int} {m n : Bool} (hm : m = decide (a < 0)) (hn : n = decide (b < 0)) (h : (m == n) = false) (hl : a.natAbs < b.natAbs) : sgI n (b.natAbs - a.natAbs) = a + b := by
  rw [beq_eq_false_iff_ne] at h
  unfold sgI
  by_cases h0 : a < 0
  · rw [decide_eq_true h0] at hm
    have hb : ¬ b < 0 := by intro hb; rw [decide_eq_true hb] at hn; exact h (hm.trans hn.symm)
    rw [decide_eq_false hb] at hn; rw [hn, if_neg (by simp)]; omega
  · rw [decide_eq_false h0] at hm
    have hb : b < 0 := by
      by_cases hb : b < 0
      · exact hb
      · rw [decide_eq_false hb] at hn; exact absurd (hm.trans hn.symm) h
    rw [decide_eq_true hb] at hn; rw [hn, if_pos rfl]; omega
theorem ref_add_more {a b : Int} {m n : Bool} (hm : m = decide (a < 0)) (hn : n = decide (b < 0)) (h : (m == n) = false) (hl : ¬ a.natAbs < b.natAbs) : sgI m (a.natAbs - b.natAbs) = a + b := by
  rw [beq_eq_false_iff_ne] at h
  unfold sgI
  by_cases h0 : a < 0
  · rw [decide_eq_true h0] at hm
    have hb : ¬ b < 0 := by intro hb; rw [decide_eq_true hb] at hn; exact h (hm.trans hn.symm)
    rw [hm, if_pos rfl]; omega
  · rw [decide_eq_false h0] at hm
    have hb : b < 0 := by
      by_cases hb : b < 0
      · exact hb
      · rw [decide_eq_false hb] at hn; exact absurd (hm.trans hn.symm) h
    rw [hm, if_neg (by simp)]; omega
theorem short17 {z : Int} (h : (D z.natAbs).length ≤ 17) : -100000000000000000 < z ∧ z < 100000000000000000 := by
  have h1 := lt_pow_of_len h
  have e17 : (10 : Nat) ^ 17 = 100000000000000000 := by decide
  omega
theorem refIAdd_short (a b : Int) (ha : (D a.natAbs).length ≤ 17) (hb : (D b.natAbs).length ≤ 17) (w : World) (hw : Okw w) : Calls Tryz.prog 78 #[S (I a), S (I b)] w (RetS (I (a + b)) w) := by
  have ba := refBrief_yes a ha
  have bb := refBrief_yes b hb
  obtain ⟨a1, a2⟩ := short17 ha
  obtain ⟨b1, b2⟩ := short17 hb
  have o := refOfI_c (a + b) (by omega) (by omega)
  clear ha hb
  go_enter Tryz.func78, Tryz.ntmps78
  go_wp2_with fail
  ((with_reducible refine (ba _).mono ?_); rintro e w1 ⟨rfl, hx1⟩)
  go_wp2_with fail
  ((with_reducible refine (bb _).mono ?_); rintro e w2 ⟨rfl, hx2⟩)
  go_wp2_with fail
  ((with_reducible refine (o _ (hw.ext (hx1.trans hx2))).mono ?_); rintro e w3 ⟨rfl, hx3⟩)
  go_wp2
  go_ret
  exact ⟨rfl, (hx1.trans hx2).trans hx3⟩
/-- What brief tells of two integers of which one is long. -/
theorem brief_two (a b : Int) (ha : (D a.natAbs).length ≤ 100000) (hb : (D b.natAbs).length ≤ 100000) (h : ¬ ((D a.natAbs).length ≤ 17 ∧ (D b.natAbs).length ≤ 17)) :
    ∃ (x y : Int) (o1 o2 : Bool), (∀ w, Calls Tryz.prog 137 #[S (I a)] w (RetV (.tuple #[.int .i64 x, .bool o1]) w)) ∧ (∀ w, Calls Tryz.prog 137 #[S (I b)] w (RetV (.tuple #[.int .i64 y, .bool o2]) w)) ∧ (o1 = false ∨ (o1 = true ∧ o2 = false)) := by
  by_cases h1 : (D a.natAbs).length ≤ 17
  · exact ⟨a, 0, true, false, refBrief_yes a h1, refBrief_no b (by omega) hb, .inr ⟨rfl, rfl⟩⟩
  · by_cases h2 : (D b.natAbs).length ≤ 17
    · exact ⟨0, b, false, true, refBrief_no a (by omega) ha, refBrief_yes b h2, .inl rfl⟩
    · exact ⟨0, 0, false, false, refBrief_no a (by omega) ha, refBrief_no b (by omega) hb, .inl rfl⟩
set_option maxRecDepth 100000 in
set_option maxHeartbeats 4000000 in
theorem refIAdd_c (a b : Int) (K : Nat) (hK : K ≤ 8000) (hK0 : 0 < K) (ha : a.natAbs < 10 ^ K) (hb : b.natAbs < 10 ^ K) (w : World) (hw : Okw w) : Calls Tryz.prog 78 #[S (I a), S (I b)] w (RetS (I (a + b)) w) := by
  have la := D_length_le hK0 ha
  have lb := D_length_le hK0 hb
  by_cases hsh : (D a.natAbs).length ≤ 17 ∧ (D b.natAbs).length ≤ 17
  · exact refIAdd_short a b hsh.1 hsh.2 w hw
  · obtain ⟨x, y, o1, o2, ba, bb, hoo⟩ := brief_two a b (by omega) (by omega) hsh
    obtain ⟨m, hm⟩ : ∃ m, m = decide (a < 0) := ⟨_, rfl⟩
    obtain ⟨n, hn⟩ : ∃ n, n = decide (b < 0) := ⟨_, rfl⟩
    obtain ⟨p, hp⟩ : ∃ p, p = a.natAbs := ⟨_, rfl⟩
    obtain ⟨q, hq⟩ : ∃ q, q = b.natAbs := ⟨_, rfl⟩
    have sa := refSplit_c a m p hm hp (by rw [hp]; omega)
    have sb := refSplit_c b n q hn hq (by rw [hq]; omega)
    rw [← hp] at ha la
    rw [← hq] at hb lb
    have ta := refTakeD_c p (by omega)
    have tb := refTakeD_c q (by omega)
    have hpl := pcD ha
    have hql := pcD hb
    have hpq := lt_pow4s ha hb
    have hp4 : p < 10000 ^ (K + 1) := Nat.lt_of_le_of_lt (Nat.le_add_right _ _) hpq
    have hq4 : q < 10000 ^ (K + 1) := Nat.lt_of_le_of_lt (Nat.le_add_left _ _) hpq
    have lpq : (D (p + q)).length ≤ K + 1 := D_length_le (by omega) (by rw [Nat.pow_succ]; omega)
    by_cases hmn : (m == n) = true
    · have HZ : Hid (sgI m (p + q) = a + b) := Lib.hid (by rw [hp, hq]; exact ref_add_same hm hn hmn)
      have jn := fun u v W => refJoined_c p q 1 (p + q) (K + 1) (by omega) hpq (by omega) (by omega) (by omega) (by omega) (by omega) u v W
      have md := fun v W hW => refMade_c m (p + q) (by omega) v W hW
      clear hsh hm hn hp hq ha hb la lb hpl hql hpq hp4 hq4 lpq
      rcases hoo with rfl | ⟨rfl, rfl⟩
      all_goals
        go_enter Tryz.func78, Tryz.ntmps78
        go_wp2_with fail
        ((with_reducible refine (ba _).mono ?_); rintro e w1 ⟨rfl, hx1⟩)
        go_wp2_with fail
        ((with_reducible refine (bb _).mono ?_); rintro e w2 ⟨rfl, hx2⟩)
        go_wp2_with fail
        ((with_reducible refine (sa _).mono ?_); rintro e w3 ⟨rfl, hx3⟩)
        go_wp2_with fail
        ((with_reducible refine (sb _).mono ?_); rintro e w4 ⟨rfl, hx4⟩)
        go_wp2_with fail
        ((with_reducible refine (ta _).mono ?_); rintro e w5 ⟨v5, rfl, hv5, hx5⟩)
        go_wp2_with fail
        ((with_reducible refine (tb _).mono ?_); rintro e w6 ⟨v6, rfl, hv6, hx6⟩)
        have hE := ((((hx1.trans hx2).trans hx3).trans hx4).trans hx5).trans hx6
        go_wp2_with fail
        ((with_reducible refine (jn _ _ _ (hv5.ext hx6) hv6).mono ?_); rintro e w7 ⟨v7, rfl, hv7, hx7⟩)
        go_wp2_with fail
        ((with_reducible refine (md _ _ (hw.ext (hE.trans hx7)) hv7).mono ?_); rintro e w8 ⟨rfl, hx8⟩)
        go_wp2
        go_ret
        exact ⟨ret_s (by rw [HZ.out]), (hE.trans hx7).trans hx8⟩
    · have hmf : (m == n) = false := by simpa using hmn
      have ls := fun u v W => refLess_c p q u v W
      by_cases hl : p < q
      · rw [decide_eq_true hl] at ls
        have HZ : Hid (sgI n (q - p) = a + b) := Lib.hid (by rw [hp, hq]; exact ref_add_less hm hn hmf (by omega))
        have jn := fun u v W => refJoined_c q p (-1) (q - p) (K + 1) (by omega) (Nat.lt_of_le_of_lt (Nat.sub_le _ _) hq4) (by omega) (by omega) (by omega) (by omega) (by omega) u v W
        have md := fun v W hW => refMade_c n (q - p) (Nat.le_trans (D_mono (show q - p ≤ p + q by omega)) (by omega)) v W hW
        clear hsh hm hn hp hq ha hb la lb hpl hql hpq hp4 hq4 lpq hmn hl
        rcases hoo with rfl | ⟨rfl, rfl⟩
        all_goals
          go_enter Tryz.func78, Tryz.ntmps78
          go_wp2_with fail
          ((with_reducible refine (ba _).mono ?_); rintro e w1 ⟨rfl, hx1⟩)
          go_wp2_with fail
          ((with_reducible refine (bb _).mono ?_); rintro e w2 ⟨rfl, hx2⟩)
          go_wp2_with fail
          ((with_reducible refine (sa _).mono ?_); rintro e w3 ⟨rfl, hx3⟩)
          go_wp2_with fail
          ((with_reducible refine (sb _).mono ?_); rintro e w4 ⟨rfl, hx4⟩)
          go_wp2_with fail
          ((with_reducible refine (ta _).mono ?_); rintro e w5 ⟨v5, rfl, hv5, hx5⟩)
          go_wp2_with fail
          ((with_reducible refine (tb _).mono ?_); rintro e w6 ⟨v6, rfl, hv6, hx6⟩)
          have hE := ((((hx1.trans hx2).trans hx3).trans hx4).trans hx5).trans hx6
          go_wp2_with fail
          ((with_reducible refine (ls _ _ _ (hv5.ext hx6) hv6).mono ?_); rintro e w7 ⟨rfl, hx7⟩)
          go_wp2_with fail
          ((with_reducible refine (jn _ _ _ (hv6.ext hx7) ((hv5.ext hx6).ext hx7)).mono ?_); rintro e w8 ⟨v8, rfl, hv8, hx8⟩)
          go_wp2_with fail
          ((with_reducible refine (md _ _ (hw.ext ((hE.trans hx7).trans hx8)) hv8).mono ?_); rintro e w9 ⟨rfl, hx9⟩)
          go_wp2
          go_ret
          exact ⟨ret_s (by rw [HZ.out]), ((hE.trans hx7).trans hx8).trans hx9⟩
      · rw [decide_eq_false hl] at ls
        have HZ : Hid (sgI m (p - q) = a + b) := Lib.hid (by rw [hp, hq]; exact ref_add_more hm hn hmf (by omega))
        have jn := fun u v W => refJoined_c p q (-1) (p - q) (K + 1) (by omega) (Nat.lt_of_le_of_lt (Nat.sub_le _ _) hp4) (by omega) (by omega) (by omega) (by omega) (by omega) u v W
        have md := fun v W hW => refMade_c m (p - q) (Nat.le_trans (D_mono (show p - q ≤ p + q by omega)) (by omega)) v W hW
        clear hsh hm hn hp hq ha hb la lb hpl hql hpq hp4 hq4 lpq hmn hl
        rcases hoo with rfl | ⟨rfl, rfl⟩
        all_goals
          go_enter Tryz.func78, Tryz.ntmps78
          go_wp2_with fail
          ((with_reducible refine (ba _).mono ?_); rintro e w1 ⟨rfl, hx1⟩)
          go_wp2_with fail
          ((with_reducible refine (bb _).mono ?_); rintro e w2 ⟨rfl, hx2⟩)
          go_wp2_with fail
          ((with_reducible refine (sa _).mono ?_); rintro e w3 ⟨rfl, hx3⟩)
          go_wp2_with fail
          ((with_reducible refine (sb _).mono ?_); rintro e w4 ⟨rfl, hx4⟩)
          go_wp2_with fail
          ((with_reducible refine (ta _).mono ?_); rintro e w5 ⟨v5, rfl, hv5, hx5⟩)
          go_wp2_with fail
          ((with_reducible refine (tb _).mono ?_); rintro e w6 ⟨v6, rfl, hv6, hx6⟩)
          have hE := ((((hx1.trans hx2).trans hx3).trans hx4).trans hx5).trans hx6
          go_wp2_with fail
          ((with_reducible refine (ls _ _ _ (hv5.ext hx6) hv6).mono ?_); rintro e w7 ⟨rfl, hx7⟩)
          go_wp2_with fail
          ((with_reducible refine (jn _ _ _ ((hv5.ext hx6).ext hx7) (hv6.ext hx7)).mono ?_); rintro e w8 ⟨v8, rfl, hv8, hx8⟩)
          go_wp2_with fail
          ((with_reducible refine (md _ _ (hw.ext ((hE.trans hx7).trans hx8)) hv8).mono ?_); rintro e w9 ⟨rfl, hx9⟩)
          go_wp2
          go_ret
          exact ⟨ret_s (by rw [HZ.out]), ((hE.trans hx7).trans hx8).trans hx9⟩
theorem refISub_c (a b : Int) (K : Nat) (hK : K ≤ 8000) (hK0 : 0 < K) (ha : a.natAbs < 10 ^ K) (hb : b.natAbs < 10 ^ K) (w : World) (hw : Okw w) : Calls Tryz.prog 78 #[S (I a), S (I (-b))] w (RetS (I (a - b)) w) := by
  have h := refIAdd_c a (-b) K hK hK0 ha (by rw [Int.natAbs_neg]; exact hb) w hw
  rwa [← Int.sub_eq_add_neg] at h
/-! ### Mul -/
theorem ref_mul_sg {a b : Int} {m n : Bool} (hm : m = decide (a < 0)) (hn : n = decide (b < 0)) : sgI (m != n) (a.natAbs * b.natAbs) = a * b := by
  unfold sgI
  rcases Int.natAbs_eq a with ea | ea <;> rcases Int.natAbs_eq b with eb | eb
  · have h1 : m = false := by rw [hm]; exact decide_eq_false (by omega)
    have h2 : n = false := by rw [hn]; exact decide_eq_false (by omega)
    rw [h1, h2, if_neg (by simp), Int.natCast_mul, ← ea, ← eb]
  · have h1 : m = false := by rw [hm]; exact decide_eq_false (by omega)
    by_cases h0 : b.natAbs = 0
    · have : b = 0 := by omega
      subst this
      simp
    · have h2 : n = true := by rw [hn]; exact decide_eq_true (by omega)
      rw [h1, h2, if_pos (by simp), Int.natCast_mul, ← ea, ← Int.mul_neg, ← eb]
  · have h2 : n = false := by rw [hn]; exact decide_eq_false (by omega)
    by_cases h0 : a.natAbs = 0
    · have : a = 0 := by omega
      subst this
      simp
    · have h1 : m = true := by rw [hm]; exact decide_eq_true (by omega)
      rw [h1, h2, if_pos (by simp), Int.natCast_mul, ← eb, ← Int.neg_mul, ← ea]
  · by_cases h0 : a.natAbs = 0
    · have : a = 0 := by omega
      subst this
      simp
    · by_cases h3 : b.natAbs = 0
      · have : b = 0 := by omega
        subst this
        simp
      · have h1 : m = true := by rw [hm]; exact decide_eq_true (by omega)
        have h2 : n = true := by rw [hn]; exact decide_eq_true (by omega)
        rw [h1, h2, if_neg (by simp), Int.natCast_mul]
        conv => rhs; rw [ea, eb]
        rw [Int.neg_mul_neg]
set_option maxRecDepth 100000 in
set_option maxHeartbeats 4000000 in
theorem refIMul_c (a b : Int) (K : Nat) (hK : K ≤ 8000) (hK0 : 0 < K) (ha : a.natAbs < 10 ^ K) (hb : b.natAbs < 10 ^ K) (w : World) (hw : Okw w) : Calls Tryz.prog 79 #[S (I a), S (I b)] w (RetS (I (a * b)) w) := by
  have la := D_length_le hK0 ha
  have lb := D_length_le hK0 hb
  have pa := D_length_pos a.natAbs
  have pb := D_length_pos b.natAbs
  obtain ⟨m, hm⟩ : ∃ m, m = decide (a < 0) := ⟨_, rfl⟩
  obtain ⟨n, hn⟩ : ∃ n, n = decide (b < 0) := ⟨_, rfl⟩
  obtain ⟨p, hp⟩ : ∃ p, p = a.natAbs := ⟨_, rfl⟩
  obtain ⟨q, hq⟩ : ∃ q, q = b.natAbs := ⟨_, rfl⟩
  have sa := refSplit_c a m p hm hp (by rw [hp]; omega)
  have sb := refSplit_c b n q hn hq (by rw [hq]; omega)
  by_cases hsh : (D a.natAbs).length + (D b.natAbs).length ≤ 18
  · have ba := refSmall1_c a (by omega)
    have bb := refSmall1_c b (by omega)
    have hab : (a * b).natAbs < 10 ^ 18 := by
      rw [Int.natAbs_mul]
      have h1 := lt_pow_D a.natAbs
      have h2 := lt_pow_D b.natAbs
      have h3 := Nat.mul_lt_mul'' h1 h2
      rw [← Nat.pow_add] at h3
      exact Nat.lt_of_lt_of_le h3 (Nat.pow_le_pow_right (by omega) hsh)
    have e18 : (10 : Nat) ^ 18 = 1000000000000000000 := by decide
    rw [e18] at hab
    obtain ⟨z, hz⟩ : ∃ z, a * b = z := ⟨_, rfl⟩
    rw [hz] at hab
    have hz1 : -1000000000000000000 < z := by omega
    have hz2 : z < 1000000000000000000 := by omega
    have o := refOfI_c z (by omega) (by omega)
    have hsi : ((D p).length : Int) + ((D q).length : Int) ≤ 18 := by rw [hp, hq]; omega
    have hl1 : (D p).length ≤ 18 := by omega
    have hl2 : (D q).length ≤ 18 := by omega
    rw [hz]
    clear hsh hm hn hp hq ha hb la lb pa pb hab e18
    go_enter Tryz.func79, Tryz.ntmps79
    go_wp2_with fail
    ((with_reducible refine (sa _).mono ?_); rintro e w1 ⟨rfl, hx1⟩)
    go_wp2_with fail
    ((with_reducible refine (sb _).mono ?_); rintro e w2 ⟨rfl, hx2⟩)
    go_wp2_with fail
    ((with_reducible refine (ba _).mono ?_); rintro e w3 ⟨rfl, hx3⟩)
    go_wp2_with fail
    ((with_reducible refine (bb _).mono ?_); rintro e w4 ⟨rfl, hx4⟩)
    have hE := ((hx1.trans hx2).trans hx3).trans hx4
    go_wp2_with fail
    ((with_reducible refine (o _ (hw.ext hE)).mono ?_); rintro e w5 ⟨rfl, hx5⟩)
    go_wp2
    go_ret
    exact ⟨rfl, hE.trans hx5⟩
  · have HZ : Hid (sgI (m != n) (p * q) = a * b) := Lib.hid (by rw [hp, hq]; exact ref_mul_sg hm hn)
    rw [← hp] at ha la hsh
    rw [← hq] at hb lb hsh
    have hpq : p * q < 10 ^ (K + K) := by rw [Nat.pow_add]; exact Nat.mul_lt_mul'' ha hb
    have ta := refTakeD_c p (by omega)
    have tb := refTakeD_c q (by omega)
    have tm := fun u v W => refTimes_c p q (K + K) (by omega) (lt_pow4 hpq) (by have := pcD ha; omega) (by have := pcD hb; omega) u v W
    have md := fun v W hW => refMade_c (m != n) (p * q) (by have := D_length_le (show 0 < K + K by omega) hpq; omega) v W hW
    have hsi : (18 : Int) < ((D p).length : Int) + ((D q).length : Int) := by omega
    obtain ⟨x, hx⟩ : ∃ x, (!(m == n)) = x := ⟨_, rfl⟩
    rw [show (m != n) = x from hx] at HZ md
    clear hsh hm hn hp hq ha hb pa pb hpq
    go_enter Tryz.func79, Tryz.ntmps79
    go_wp2_with fail
    ((with_reducible refine (sa _).mono ?_); rintro e w1 ⟨rfl, hx1⟩)
    go_wp2_with fail
    ((with_reducible refine (sb _).mono ?_); rintro e w2 ⟨rfl, hx2⟩)
    go_wp2_with fail
    ((with_reducible refine (ta _).mono ?_); rintro e w3 ⟨v3, rfl, hv3, hx3⟩)
    go_wp2_with fail
    ((with_reducible refine (tb _).mono ?_); rintro e w4 ⟨v4, rfl, hv4, hx4⟩)
    go_wp2_with fail
    ((with_reducible refine (tm _ _ _ (hv3.ext hx4) hv4).mono ?_); rintro e w5 ⟨v5, rfl, hv5, hx5⟩)
    have hE := (((hx1.trans hx2).trans hx3).trans hx4).trans hx5
    go_wp2_with fail
    ((with_reducible refine (md _ _ (hw.ext hE) hv5).mono ?_); rintro e w6 ⟨rfl, hx6⟩)
    go_wp2
    go_ret
    exact ⟨ret_s (by rw [HZ.out]), hE.trans hx6⟩
end Go.Proofs.YtblijhokcjpeeaaGreatDoor
