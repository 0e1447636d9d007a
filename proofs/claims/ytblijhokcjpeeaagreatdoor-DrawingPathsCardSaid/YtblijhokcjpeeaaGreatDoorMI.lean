/- integer.Check, Small. -/
import Derived.Test.YtblijhokcjpeeaaGreatDoorMH
import Derived.Test.YtblijhokcjpeeaaGreatDoorMC
/- integer: Compare, Check, Small, Abs. -/
namespace Go.Proofs.YtblijhokcjpeeaaGreatDoor
open Go.RowKit Kl

def cmpZ (x y : Int) : Int := if x < y then -1 else if x = y then 0 else 1
theorem cmpZ_lt {x y : Int} (h : x < y) : cmpZ x y = -1 := by unfold cmpZ; rw [if_pos h]
theorem cmpZ_gt {x y : Int} (h : y < x) : cmpZ x y = 1 := by unfold cmpZ; rw [if_neg (by omega), if_neg (by omega)]
theorem cmpZ_eq {x y : Int} (h : x = y) : cmpZ x y = 0 := by unfold cmpZ; rw [if_neg (by omega), if_pos h]
theorem compareBytes_digits : ∀ (l k : Bs), AllD l → AllD k → l.length = k.length → Lib.compareBytes l k = cmpN (val l) (val k)
  | [], [], _, _, _ => by simp [Lib.compareBytes, cmpN]
  | [], _ :: _, _, _, h => by simp at h
  | _ :: _, [], _, _, h => by simp at h
  | a :: l, b :: k, ha, hb, h => by
    rw [allD_cons] at ha hb
    simp only [List.length_cons, Nat.add_right_cancel_iff] at h
    have ih := compareBytes_digits l k ha.2 hb.2 h
    have hl := val_lt ha.2
    have hk := val_lt hb.2
    rw [val_cons, val_cons, Lib.compareBytes, h]
    rw [h] at hl
    have hda := ha.1.1; have hdb := hb.1.1
    generalize 10 ^ k.length = p at *
    rcases Nat.lt_trichotomy (dv a) (dv b) with hd | hd | hd
    · have h1 : a < b := by rw [UInt8.lt_iff_toNat_lt]; unfold dv at hd; omega
      have h2 : dv a * p + p ≤ dv b * p := by rw [← Nat.succ_mul]; exact Nat.mul_le_mul_right _ hd
      rw [if_pos h1, cmpN_lt (by omega)]
    · have h1 : a = b := by
        have : a.toNat = b.toNat := by unfold dv at hd; omega
        exact UInt8.toNat_inj.1 this
      subst h1
      rw [if_neg (by rw [UInt8.lt_iff_toNat_lt]; omega), if_neg (by rw [UInt8.lt_iff_toNat_lt]; omega), ih]
      unfold cmpN
      simp only [Nat.add_lt_add_iff_left, Nat.add_left_cancel_iff]
    · have h1 : b < a := by rw [UInt8.lt_iff_toNat_lt]; unfold dv at hd; omega
      have h0 : ¬ a < b := by rw [UInt8.lt_iff_toNat_lt] at h1 ⊢; omega
      have h2 : dv b * p + p ≤ dv a * p := by rw [← Nat.succ_mul]; exact Nat.mul_le_mul_right _ hd
      rw [if_neg h0, if_pos h1, cmpN_gt (by omega)]
theorem D_len_lt {m n : Nat} (h : (D m).length < (D n).length) : m < n := by
  rcases Nat.eq_zero_or_pos n with rfl | hn
  · have e : (D 0).length = 1 := by rw [D_small (by omega)]; rfl
    have := D_length_pos m
    omega
  · have h1 := lt_pow_D m
    have h2 := pow_le_D n hn
    have h3 : 10 ^ (D m).length ≤ 10 ^ ((D n).length - 1) := Nat.pow_le_pow_right (by omega) (by omega)
    omega
theorem sgn_range (z : Int) : -1 ≤ sgn z ∧ sgn z ≤ 1 := by unfold sgn; split <;> (try split) <;> omega
theorem sgn_lt {x y : Int} (h : sgn x < sgn y) : x < y := by
  unfold sgn at h; split at h <;> split at h <;> (try split at h) <;> (try split at h) <;> omega
theorem sgn_mul_abs (z : Int) : sgn z * (z.natAbs : Int) = z := by
  unfold sgn
  split
  · omega
  · split <;> omega

set_option maxRecDepth 100000 in
set_option maxHeartbeats 2000000 in
theorem iCompare_c (x y : Int) (hx : Bnd x) (hy : Bnd y) (w : World) : Calls Tryz.prog 69 #[S (I x), S (I y)] w (RetI (cmpZ x y) w) := by
  have s1 := iSign_c x
  have s2 := iSign_c y
  have r1 := sgn_range x
  have r2 := sgn_range y
  have t1 := trimPrefix_c (I x) [45]
  have t2 := trimPrefix_c (I y) [45]
  rw [trim45_I] at t1 t2
  have c1 := compare_c (D x.natAbs) (D y.natAbs)
  have l1 := hx.len
  have l2 := hy.len
  have hcl : (D x.natAbs).length = (D y.natAbs).length → Lib.compareBytes (D x.natAbs) (D y.natAbs) = cmpN x.natAbs y.natAbs := fun h => by
    have := compareBytes_digits _ _ (allD_D x.natAbs) (allD_D y.natAbs) h
    rwa [val_D, val_D] at this
  have k1 : (D x.natAbs).length < (D y.natAbs).length → x.natAbs < y.natAbs := D_len_lt
  have k2 : (D y.natAbs).length < (D x.natAbs).length → y.natAbs < x.natAbs := D_len_lt
  have a1 := sgn_mul_abs x
  have a2 := sgn_mul_abs y
  have hlt1 := @sgn_lt x y
  have hlt2 := @sgn_lt y x
  obtain ⟨s, hs⟩ : ∃ s, s = sgn x := ⟨_, rfl⟩
  obtain ⟨t, ht⟩ : ∃ t, t = sgn y := ⟨_, rfl⟩
  rw [← hs] at s1 r1 a1 hlt1 hlt2
  rw [← ht] at s2 r2 a2 hlt1 hlt2
  clear hs ht
  rcases Int.lt_trichotomy s t with h | h | h
  · have HR := Lib.hid (cmpZ_lt (hlt1 h))
    have hne : (s != t) = true := by rw [bne_iff_ne]; omega
    clear a1 a2 hlt1 hlt2 t1 t2 c1 hcl k1 k2
    go_enter Tryz.func69, Tryz.ntmps69
    go_wp2_with fail
    ((with_reducible refine (s1 _).mono ?_); rintro e w1 ⟨rfl, hx1⟩)
    go_wp2_with fail
    ((with_reducible refine (s2 _).mono ?_); rintro e w2 ⟨rfl, hx2⟩)
    go_wp2
    go_ret
    exact ⟨ret_i HR.out, hx1.trans hx2⟩
  · subst h
    have hne : (s != s) = false := by simp
    have hyl : (D y.natAbs).length ≤ 4001 := by
      rcases I_cases y with ⟨n, rfl, e⟩ | ⟨n, hn, rfl, e⟩
      · rw [e] at l2; simpa using l2
      · rw [e, List.length_cons] at l2; rw [show (-(n : Int)).natAbs = n by omega]; omega
    have hxl : (D x.natAbs).length ≤ 4001 := by
      rcases I_cases x with ⟨n, rfl, e⟩ | ⟨n, hn, rfl, e⟩
      · rw [e] at l1; simpa using l1
      · rw [e, List.length_cons] at l1; rw [show (-(n : Int)).natAbs = n by omega]; omega
    obtain ⟨cb, hcb⟩ : ∃ cb, cb = Lib.compareBytes (D x.natAbs) (D y.natAbs) := ⟨_, rfl⟩
    rw [← hcb] at c1 hcl
    have hsgn : s = 0 ∨ s = 1 ∨ s = -1 := by omega
    have hcm : ∀ {m n : Nat}, x = s * m → y = s * n → s * cmpN m n = cmpZ x y := by
      intro m n e1 e2
      rw [e1, e2]
      rcases hsgn with rfl | rfl | rfl
      · simp [cmpZ]
      · unfold cmpN cmpZ; simp only [Int.one_mul]; split <;> split <;> (try split) <;> omega
      · unfold cmpN cmpZ; split <;> split <;> (try split) <;> (try split) <;> omega
    have HC := Lib.hid (@hcm x.natAbs y.natAbs a1.symm a2.symm)
    obtain ⟨A, hA⟩ : ∃ A, A = D x.natAbs := ⟨_, rfl⟩
    obtain ⟨B, hB⟩ : ∃ B, B = D y.natAbs := ⟨_, rfl⟩
    rw [← hA] at t1 c1 hcl k1 k2 hxl
    rw [← hB] at t2 c1 hcl k1 k2 hyl
    rcases Nat.lt_trichotomy A.length B.length with hl | hl | hl
    · have hk := k1 hl
      have HR : Hid (cmpZ x y = IntKind.i64.wrap (-s)) := Lib.hid (by
        rw [← HC.out, cmpN_lt hk, IntWalk.i64_in (-s) (by omega)]; omega)
      have hw64 : IntKind.i64.wrap (-s) = -s := IntWalk.i64_in _ (by omega)
      have hne2 : ((A.length : Int) != (B.length : Int)) = true := by rw [bne_iff_ne]; omega
      have hR2 : Hid (-s = cmpZ x y) := Lib.hid (by rw [HR.out, hw64])
      clear a1 a2 hlt1 hlt2 c1 hcl k1 k2 hcb hA hB HC HR hsgn hcm hk l1 l2
      go_enter Tryz.func69, Tryz.ntmps69
      go_wp2_with fail
      ((with_reducible refine (s1 _).mono ?_); rintro e w1 ⟨rfl, hx1⟩)
      go_wp2_with fail
      ((with_reducible refine (s2 _).mono ?_); rintro e w2 ⟨rfl, hx2⟩)
      go_wp2_with fail
      ((with_reducible refine (t1 _).mono ?_); rintro e w3 ⟨rfl, hx3⟩)
      go_wp2_with fail
      ((with_reducible refine (t2 _).mono ?_); rintro e w4 ⟨rfl, hx4⟩)
      go_wp2
      go_ret
      exact ⟨ret_i hR2.out.symm, ((hx1.trans hx2).trans hx3).trans hx4⟩
    · have hq := hcl hl
      have hcr : -1 ≤ cb ∧ cb ≤ 1 := by rw [hq]; unfold cmpN; split <;> (try split) <;> omega
      have hsc : -1 ≤ s * cb ∧ s * cb ≤ 1 := by
        rcases hsgn with rfl | rfl | rfl <;> omega
      have hR2 : Hid (s * cb = cmpZ x y) := Lib.hid (by rw [hq]; exact HC.out)
      have hw64 : IntKind.i64.wrap (s * cb) = s * cb := IntWalk.i64_in _ (by omega)
      have hne2 : ((A.length : Int) != (B.length : Int)) = false := by rw [hl]; simp
      clear a1 a2 hlt1 hlt2 hcl k1 k2 hcb hA hB HC hsgn hcm hq l1 l2 hsc
      have HL := Lib.hid hl
      clear hl
      go_enter Tryz.func69, Tryz.ntmps69
      go_wp2_with fail
      ((with_reducible refine (s1 _).mono ?_); rintro e w1 ⟨rfl, hx1⟩)
      go_wp2_with fail
      ((with_reducible refine (s2 _).mono ?_); rintro e w2 ⟨rfl, hx2⟩)
      go_wp2_with fail
      ((with_reducible refine (t1 _).mono ?_); rintro e w3 ⟨rfl, hx3⟩)
      go_wp2_with fail
      ((with_reducible refine (t2 _).mono ?_); rintro e w4 ⟨rfl, hx4⟩)
      go_wp2_with fail
      ((with_reducible refine (c1 _).mono ?_); rintro e w5 ⟨rfl, hx5⟩)
      go_wp2
      go_ret
      exact ⟨ret_i hR2.out.symm, (((hx1.trans hx2).trans hx3).trans hx4).trans hx5⟩
    · have hk := k2 hl
      have hR2 : Hid (s = cmpZ x y) := Lib.hid (by rw [← HC.out, cmpN_gt hk]; omega)
      have hne2 : ((A.length : Int) != (B.length : Int)) = true := by rw [bne_iff_ne]; omega
      have hnl : ¬ A.length < B.length := by omega
      clear a1 a2 hlt1 hlt2 c1 hcl k1 k2 hcb hA hB HC hsgn hcm hk l1 l2
      go_enter Tryz.func69, Tryz.ntmps69
      go_wp2_with fail
      ((with_reducible refine (s1 _).mono ?_); rintro e w1 ⟨rfl, hx1⟩)
      go_wp2_with fail
      ((with_reducible refine (s2 _).mono ?_); rintro e w2 ⟨rfl, hx2⟩)
      go_wp2_with fail
      ((with_reducible refine (t1 _).mono ?_); rintro e w3 ⟨rfl, hx3⟩)
      go_wp2_with fail
      ((with_reducible refine (t2 _).mono ?_); rintro e w4 ⟨rfl, hx4⟩)
      go_wp2
      go_ret
      exact ⟨ret_i hR2.out.symm, ((hx1.trans hx2).trans hx3).trans hx4⟩
  · have HR := Lib.hid (cmpZ_gt (hlt2 h))
    have hne : (s != t) = true := by rw [bne_iff_ne]; omega
    have hnl : ¬ s < t := by omega
    clear a1 a2 hlt1 hlt2 t1 t2 c1 hcl k1 k2
    go_enter Tryz.func69, Tryz.ntmps69
    go_wp2_with fail
    ((with_reducible refine (s1 _).mono ?_); rintro e w1 ⟨rfl, hx1⟩)
    go_wp2_with fail
    ((with_reducible refine (s2 _).mono ?_); rintro e w2 ⟨rfl, hx2⟩)
    go_wp2
    go_ret
    exact ⟨ret_i HR.out, hx1.trans hx2⟩
end Go.Proofs.YtblijhokcjpeeaaGreatDoor
namespace Go.Proofs.YtblijhokcjpeeaaGreatDoor
open Go.RowKit Kl

def smallI (z : Int) : Value := if -9223372036854775808 ≤ z ∧ z ≤ 9223372036854775807 then .tuple #[.int .i64 z, .bool true] else .tuple #[.int .i64 0, .bool false]
set_option maxHeartbeats 1000000 in
theorem iSmall_c (z : Int) (hz : Bnd z) (w : World) (hw : Okw w) : Calls Tryz.prog 146 #[S (I z)] w (RetV (smallI z) w) := by
  by_cases h : -9223372036854775808 ≤ z ∧ z ≤ 9223372036854775807
  · have hp := parseInt_ok z h.1 h.2 w
    have hq : smallI z = .tuple #[.int .i64 z, .bool true] := if_pos h
    rw [hq]
    clear hq h
    go_enter Tryz.func146, Tryz.ntmps146
    go_wp2_with fail
    ((with_reducible refine hp.mono ?_); rintro e w1 ⟨rfl, hx1⟩)
    go_wp2
    go_ret2
    exact ⟨rfl, hx1⟩
  · have hp := parseInt_range z h (by have := hz.len; omega) w hw
    have hq : smallI z = .tuple #[.int .i64 0, .bool false] := if_neg h
    rw [hq]
    clear hq h
    go_enter Tryz.func146, Tryz.ntmps146
    go_wp2_with fail
    ((with_reducible refine hp.mono ?_); rintro e w1 ⟨n, t, p, rfl, hx1⟩)
    go_wp2
    go_ret2
    exact ⟨rfl, hx1⟩

/-! ### Check -/
theorem ba_loop_len (s : ByteArray) : ∀ (k i : Nat) (r : List UInt8), s.size - i = k → r.length ≤ (ByteArray.toList.loop s i r).length := by
  intro k
  induction k with
  | zero => intro i r h; unfold ByteArray.toList.loop; rw [if_neg (by omega)]; simp
  | succ k ih =>
    intro i r h
    unfold ByteArray.toList.loop
    split
    · have := ih (i + 1) (s.get! i :: r) (by omega)
      simp only [List.length_cons] at this
      omega
    · simp
theorem ba_ne {s : ByteArray} (h : 0 < s.size) : ¬ s.toList = [] := by
  intro e
  unfold ByteArray.toList ByteArray.toList.loop at e
  rw [if_pos h] at e
  have := ba_loop_len s _ 1 [s.get! 0] rfl
  rw [show 0 + 1 = 1 from rfl] at e
  rw [e] at this
  simp at this

def errI (n : Int) : Value := .int .i64 n
open Classical in
theorem chk_cases (t : Bs) (mn : Bool) : ¬ ChkI t mn ↔ t = [] ∨ 200 < t.length ∨ (∃ m, t = 48 :: m ∧ (m ≠ [] ∨ mn = true)) ∨ ∃ j, ∃ h : j < t.length, ¬ IsD t[j] := by
  constructor
  · intro h
    by_cases h1 : t = []
    · exact .inl h1
    · by_cases h2 : 200 < t.length
      · exact .inr (.inl h2)
      · by_cases h3 : ∃ m, t = 48 :: m ∧ (m ≠ [] ∨ mn = true)
        · exact .inr (.inr (.inl h3))
        · refine .inr (.inr (.inr (Classical.byContradiction fun h4 => h ⟨h1, by omega, fun m e => ?_, fun c hc => ?_⟩)))
          · constructor
            · exact Classical.byContradiction fun h5 => h3 ⟨m, e, .inl h5⟩
            · cases mn
              · rfl
              · exact absurd ⟨m, e, .inr rfl⟩ h3
          · obtain ⟨j, hj, e⟩ := List.mem_iff_getElem.1 hc
            exact Classical.byContradiction fun h5 => h4 ⟨j, hj, by rw [e]; exact h5⟩
  · rintro (h | h | ⟨m, e, h⟩ | ⟨j, hj, h⟩) hc
    · exact hc.ne h
    · have := hc.len; omega
    · have := hc.zero m e
      rcases h with h | h
      · exact h this.1
      · rw [this.2] at h; cases h
    · exact h (hc.all _ (List.getElem_mem hj))
/-- The walk, behind the sign: s is what is behind it. -/
def chkV (b : Bool) : Int := if b then 0 else 2
theorem chkV_t : chkV true = 0 := rfl
theorem chkV_f : chkV false = 2 := rfl

set_option maxRecDepth 100000 in
set_option maxHeartbeats 1000000 in
theorem check_empty (l : Bs) (ht : Lib.trimPrefix l [45] = []) (w : World) : Calls Tryz.prog 110 #[S l] w (RetI 2 w) := by
  have hc := cutPrefix_c l [45]
  rw [ht] at hc
  go_enter Tryz.func110, Tryz.ntmps110
  go_wp2_with fail
  ((with_reducible refine (hc _).mono ?_); rintro e w1 ⟨rfl, hx1⟩)
  go_wp2
  go_ret
  exact ⟨rfl, hx1⟩
set_option maxRecDepth 100000 in
set_option maxHeartbeats 1000000 in
theorem check_long (l t : Bs) (ht : Lib.trimPrefix l [45] = t) (h2 : 200 < t.length) (w : World) : Calls Tryz.prog 110 #[S l] w (RetI 2 w) := by
  have hc := cutPrefix_c l [45]
  rw [ht] at hc
  have hne : (t == []) = false := by rw [beq_eq_false_iff_ne]; rintro rfl; simp at h2
  have h2i : (200 : Int) < (t.length : Int) := by omega
  clear ht
  go_enter Tryz.func110, Tryz.ntmps110
  go_wp2_with fail
  ((with_reducible refine (hc _).mono ?_); rintro e w1 ⟨rfl, hx1⟩)
  go_wp2
  go_ret
  exact ⟨rfl, hx1⟩
set_option maxRecDepth 100000 in
set_option maxHeartbeats 1000000 in
theorem check_zero (l m : Bs) (mn : Bool) (ht : Lib.trimPrefix l [45] = 48 :: m) (hmn : [45].isPrefixOf l = mn) (h2 : (48 :: m).length ≤ 200) (h3 : m ≠ [] ∨ mn = true) (w : World) : Calls Tryz.prog 110 #[S l] w (RetI 2 w) := by
  have hc := cutPrefix_c l [45]
  rw [ht, hmn] at hc
  obtain ⟨s, hs⟩ : ∃ s : ByteArray, s = ⟨(48 :: m).toArray⟩ := ⟨_, rfl⟩
  have hsz : s.size = m.length + 1 := by rw [hs, bs_size]; rfl
  obtain ⟨c, hc48⟩ : ∃ c : UInt8, c = 48 := ⟨_, rfl⟩
  have hs0 : 0 < s.size := by omega
  have e0 : s[0] = c := by rw [hc48]; subst hs; rw [bs_get]; rfl
  have hce : ((c.toNat : Int) == 48) = true := by rw [hc48]; rfl
  have hsm : (s.size : Int) ≤ 200 := by simp only [List.length_cons] at h2; omega
  have hsm' : ¬ (200 : Int) < (s.size : Int) := by omega
  have hc : ∀ w, Calls Tryz.prog 178 #[S l, S [45]] w (RetV (.tuple #[.string s, .bool mn]) w) := by rw [hs]; exact hc
  have hne := ba_ne hs0
  rcases h3 with h3 | h3
  · have h1 : (1 : Int) < (s.size : Int) := by have := List.length_pos_iff.2 h3; omega
    clear ht hmn hs hsz hc48 h3
    go_enter Tryz.func110, Tryz.ntmps110
    go_wp2_with fail
    ((with_reducible refine (hc _).mono ?_); rintro e w1 ⟨rfl, hx1⟩)
    go_wp2
    go_ret
    exact ⟨rfl, hx1⟩
  · subst h3
    clear ht hmn hs hc48
    rcases Nat.lt_or_ge 1 s.size with h1 | h1
    all_goals
      go_enter Tryz.func110, Tryz.ntmps110
      go_wp2_with fail
      ((with_reducible refine (hc _).mono ?_); rintro e w1 ⟨rfl, hx1⟩)
      go_wp2
      go_ret
      exact ⟨rfl, hx1⟩
set_option maxRecDepth 100000 in
set_option maxHeartbeats 2000000 in
theorem check_loop1 (l t : Bs) (mn : Bool) (s : ByteArray) (hc : ∀ w, Calls Tryz.prog 178 #[S l, S [45]] w (RetV (.tuple #[.string s, .bool mn]) w)) (HSZ : Hid (s.size = t.length)) (hs0 : 0 < s.size) (hsm : (s.size : Int) ≤ 200)
    (HG : Hid (∀ (j : Nat) (h : j < s.size) (h' : j < t.length), s[j] = t[j])) (c : UInt8) (e0 : s[0] = c) (b : Bool) (HB : Hid (b = true ↔ AllD t)) (hf : ((c.toNat : Int) == 48) = false) (w : World) : Calls Tryz.prog 110 #[S l] w (RetI (chkV b) w) := by
  have hne := ba_ne hs0
  have hne2 : s.toList.isEmpty = false := by cases h : s.toList with | nil => exact absurd h hne | cons _ _ => rfl
  have hd200 : decide ((200 : Int) < (s.size : Int)) = false := by rw [decide_eq_false_iff_not]; omega
  go_enter Tryz.func110, Tryz.ntmps110
  go_wp2_with fail
  ((with_reducible refine (hc _).mono ?_); rintro e w1 ⟨rfl, hx1⟩)
  go_wp2
  clear hc hne hne2 hd200 hf e0
  go_loop [33] (fun i => ∃ j : Nat, j ≤ s.size ∧ i = .int .i64 (j : Nat) ∧ AllD (t.take j)) (fun i => s.size - (intOf i).toNat)
  case atStart => exact ⟨0, by omega, rfl, by simp [allD_nil]⟩
  case round =>
    obtain ⟨j, hj, rfl, hall⟩ := hrel
    by_cases hlt : j < s.size
    · have hjt : j < t.length := by rw [← HSZ.out]; exact hlt
      obtain ⟨d, hd⟩ : ∃ d, s[j] = d := ⟨_, rfl⟩
      have hdt : t[j] = d := by rw [← hd, HG.out j hlt hjt]
      have HD := Lib.hid hdt
      clear hdt
      by_cases hdig : IsD d
      · have d1 := hdig.1
        have d2 := hdig.2
        have c1 : ¬ (d.toNat : Int) < 48 := by omega
        have c2 : ¬ (57 : Int) < (d.toNat : Int) := by omega
        clear d1 d2
        go_wp2
        go_round
        case rel => exact ⟨j + 1, by omega, by go_num, by rw [List.take_succ_eq_append_getElem hjt, HD.out]; exact allD_append.2 ⟨hall, by intro x hx; simp only [List.mem_singleton] at hx; rw [hx]; exact hdig⟩⟩
        case measure => simp [intOf]; omega
      · have hbf : b = false := by
          cases b
          · rfl
          · exact absurd (HB.out.1 rfl _ (List.getElem_mem hjt)) (by rw [HD.out]; exact hdig)
        subst hbf
        rw [chkV_f]
        by_cases c1 : (d.toNat : Int) < 48
        · go_wp2
          go_ret
          exact ⟨rfl, hx1⟩
        · have c2 : (57 : Int) < (d.toNat : Int) := by
            refine Classical.byContradiction fun h => hdig ⟨by omega, by omega⟩
          go_wp2
          go_ret
          exact ⟨rfl, hx1⟩
    · have hbt : b = true := HB.out.2 (by rw [List.take_of_length_le (by rw [← HSZ.out]; omega)] at hall; exact hall)
      subst hbt
      rw [chkV_t]
      have hle : (s.size : Int) ≤ (j : Int) := by omega
      go_wp2
      go_ret
      exact ⟨rfl, hx1⟩
set_option maxRecDepth 100000 in
set_option maxHeartbeats 2000000 in
theorem check_loop2 (l t : Bs) (mn : Bool) (s : ByteArray) (hc : ∀ w, Calls Tryz.prog 178 #[S l, S [45]] w (RetV (.tuple #[.string s, .bool mn]) w)) (HSZ : Hid (s.size = t.length)) (hs0 : 0 < s.size) (hsm : (s.size : Int) ≤ 200)
    (HG : Hid (∀ (j : Nat) (h : j < s.size) (h' : j < t.length), s[j] = t[j])) (c : UInt8) (e0 : s[0] = c) (b : Bool) (HB : Hid (b = true ↔ AllD t)) (hf : ((c.toNat : Int) == 48) = true) (hs1 : s.size = 1) (hmn : mn = false) (w : World) : Calls Tryz.prog 110 #[S l] w (RetI (chkV b) w) := by
  have hne := ba_ne hs0
  have hne2 : s.toList.isEmpty = false := by cases h : s.toList with | nil => exact absurd h hne | cons _ _ => rfl
  have hd200 : decide ((200 : Int) < (s.size : Int)) = false := by rw [decide_eq_false_iff_not]; omega
  have h1 : decide ((1 : Int) < (s.size : Int)) = false := by rw [decide_eq_false_iff_not]; omega
  subst hmn
  clear hs1
  go_enter Tryz.func110, Tryz.ntmps110
  go_wp2_with fail
  ((with_reducible refine (hc _).mono ?_); rintro e w1 ⟨rfl, hx1⟩)
  go_wp2
  clear hc hne hne2 hd200 hf e0
  go_loop [33] (fun i => ∃ j : Nat, j ≤ s.size ∧ i = .int .i64 (j : Nat) ∧ AllD (t.take j)) (fun i => s.size - (intOf i).toNat)
  case atStart => exact ⟨0, by omega, rfl, by simp [allD_nil]⟩
  case round =>
    obtain ⟨j, hj, rfl, hall⟩ := hrel
    by_cases hlt : j < s.size
    · have hjt : j < t.length := by rw [← HSZ.out]; exact hlt
      obtain ⟨d, hd⟩ : ∃ d, s[j] = d := ⟨_, rfl⟩
      have hdt : t[j] = d := by rw [← hd, HG.out j hlt hjt]
      have HD := Lib.hid hdt
      clear hdt
      by_cases hdig : IsD d
      · have d1 := hdig.1
        have d2 := hdig.2
        have c1 : ¬ (d.toNat : Int) < 48 := by omega
        have c2 : ¬ (57 : Int) < (d.toNat : Int) := by omega
        clear d1 d2
        go_wp2
        go_round
        case rel => exact ⟨j + 1, by omega, by go_num, by rw [List.take_succ_eq_append_getElem hjt, HD.out]; exact allD_append.2 ⟨hall, by intro x hx; simp only [List.mem_singleton] at hx; rw [hx]; exact hdig⟩⟩
        case measure => simp [intOf]; omega
      · have hbf : b = false := by
          cases b
          · rfl
          · exact absurd (HB.out.1 rfl _ (List.getElem_mem hjt)) (by rw [HD.out]; exact hdig)
        subst hbf
        rw [chkV_f]
        by_cases c1 : (d.toNat : Int) < 48
        · go_wp2
          go_ret
          exact ⟨rfl, hx1⟩
        · have c2 : (57 : Int) < (d.toNat : Int) := by
            refine Classical.byContradiction fun h => hdig ⟨by omega, by omega⟩
          go_wp2
          go_ret
          exact ⟨rfl, hx1⟩
    · have hbt : b = true := HB.out.2 (by rw [List.take_of_length_le (by rw [← HSZ.out]; omega)] at hall; exact hall)
      subst hbt
      rw [chkV_t]
      have hle : (s.size : Int) ≤ (j : Int) := by omega
      go_wp2
      go_ret
      exact ⟨rfl, hx1⟩
/-- The loop over the digits. -/
theorem check_loop (l t : Bs) (mn : Bool) (ht : Lib.trimPrefix l [45] = t) (hmn : [45].isPrefixOf l = mn) (h0 : t ≠ []) (h2 : t.length ≤ 200) (h3 : ∀ m, t = 48 :: m → m = [] ∧ mn = false)
    (b : Bool) (hb : b = true ↔ AllD t) (w : World) : Calls Tryz.prog 110 #[S l] w (RetI (chkV b) w) := by
  have hc0 := cutPrefix_c l [45]
  rw [ht, hmn] at hc0
  obtain ⟨s, hs⟩ : ∃ s : ByteArray, s = ⟨t.toArray⟩ := ⟨_, rfl⟩
  have hsz : s.size = t.length := by rw [hs, bs_size]
  have hs0 : 0 < s.size := by have := List.length_pos_iff.2 h0; omega
  have hget : ∀ (j : Nat) (h : j < s.size) (h' : j < t.length), s[j] = t[j] := by
    intro j h h'
    subst hs
    rw [bs_get]; simp [List.getD, h']
  have hsm : (s.size : Int) ≤ 200 := by omega
  have hc : ∀ w, Calls Tryz.prog 178 #[S l, S [45]] w (RetV (.tuple #[.string s, .bool mn]) w) := by rw [hs]; exact hc0
  clear hc0
  by_cases h : s[0] = 48
  · match t, h0, hget, h3, hsz, hb with
    | d :: m, _, hget, h3, hsz, hb =>
      have := hget 0 hs0 (by simp)
      rw [h] at this
      simp only [List.getElem_cons_zero] at this
      obtain ⟨hm, hf⟩ := h3 m (by rw [this])
      exact check_loop2 l _ mn s hc (Lib.hid hsz) hs0 hsm (Lib.hid hget) _ rfl b (Lib.hid hb) (by rw [h]; rfl) (by rw [hsz, hm]; rfl) hf w
  · refine check_loop1 l _ mn s hc (Lib.hid hsz) hs0 hsm (Lib.hid hget) _ rfl b (Lib.hid hb) ?_ w
    rw [beq_eq_false_iff_ne]
    intro e
    exact h (UInt8.toNat_inj.1 (by simp; omega))
open Classical in
/-- Check answers 0 for an integer of at most 200 digits, else ErrNumber. -/
theorem iCheck_c (l : Bs) (w : World) : Calls Tryz.prog 110 #[S l] w (RetI (if OkI l then 0 else 2) w) := by
  by_cases h : ChkI (Lib.trimPrefix l [45]) ([45].isPrefixOf l)
  · rw [if_pos ((chkI_iff l).2 h)]
    exact check_loop l _ _ rfl rfl h.ne h.len h.zero true ⟨fun _ => h.all, fun _ => rfl⟩ w
  · rw [if_neg (fun k => h ((chkI_iff l).1 k))]
    by_cases h1 : Lib.trimPrefix l [45] = []
    · exact check_empty l h1 w
    · by_cases h2 : 200 < (Lib.trimPrefix l [45]).length
      · exact check_long l _ rfl h2 w
      · rcases (chk_cases _ _).1 h with h3 | h3 | ⟨m, e, h3⟩ | ⟨j, hj, h3⟩
        · exact absurd h3 h1
        · exact absurd h3 h2
        · exact check_zero l m _ e rfl (by rw [← e]; omega) h3 w
        · by_cases h4 : ∀ m, Lib.trimPrefix l [45] = 48 :: m → m = [] ∧ [45].isPrefixOf l = false
          · exact check_loop l _ _ rfl rfl h1 (by omega) h4 false (Iff.intro (fun k => by cases k) (fun k => absurd (k _ (List.getElem_mem hj)) h3)) w
          · obtain ⟨m, e⟩ : ∃ m, Lib.trimPrefix l [45] = 48 :: m ∧ (m ≠ [] ∨ [45].isPrefixOf l = true) := by
              refine Classical.byContradiction fun k => h4 fun m e => ?_
              constructor
              · exact Classical.byContradiction fun q => k ⟨m, e, .inl q⟩
              · rcases hq : [45].isPrefixOf l with _ | _
                · rfl
                · exact absurd ⟨m, e, .inr hq⟩ k
            exact check_zero l m _ e.1 rfl (by rw [← e.1]; omega) e.2 w
end Go.Proofs.YtblijhokcjpeeaaGreatDoor
