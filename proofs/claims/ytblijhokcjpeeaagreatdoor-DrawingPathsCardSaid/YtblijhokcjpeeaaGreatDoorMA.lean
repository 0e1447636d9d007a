/- Plain facts on magnitudes in pieces, the least piece first. No program is in sight here. -/
import Derived.Lib.ItoaMem
import Derived.Lib.AtoiAll
/- Plain facts on decimal numerals and on fractions as texts. No program is in sight here. -/
namespace Kl
open Go

abbrev Bs := List UInt8

def D (n : Nat) : Bs := Lib.decDigits n
def I (z : Int) : Bs := Lib.itoa z
def dv (c : UInt8) : Nat := c.toNat - 48
def valA (a : Nat) (l : Bs) : Nat := l.foldl (fun a c => a * 10 + dv c) a
def val (l : Bs) : Nat := valA 0 l
def IsD (c : UInt8) : Prop := 48 ≤ c.toNat ∧ c.toNat ≤ 57
instance (c : UInt8) : Decidable (IsD c) := by unfold IsD; infer_instance
def AllD (l : Bs) : Prop := ∀ c ∈ l, IsD c
def dg (n : Nat) : UInt8 := UInt8.ofNat (48 + n)

theorem dg_toNat {n : Nat} (h : n < 10) : (dg n).toNat = 48 + n := by
  unfold dg; rw [UInt8.toNat_ofNat']; omega
theorem dv_dg {n : Nat} (h : n < 10) : dv (dg n) = n := by unfold dv; rw [dg_toNat h]; omega
theorem isD_dg {n : Nat} (h : n < 10) : IsD (dg n) := by unfold IsD; rw [dg_toNat h]; omega
theorem dg_dv {c : UInt8} (h : IsD c) : dg (dv c) = c := by
  have h1 := h.1
  have h2 := h.2
  apply UInt8.toNat_inj.1
  rw [dg_toNat (by unfold dv; omega)]
  unfold dv; omega
theorem dv_lt {c : UInt8} (h : IsD c) : dv c < 10 := by have := h.2; unfold dv; omega

theorem valA_nil (a : Nat) : valA a [] = a := rfl
theorem valA_cons (a : Nat) (c : UInt8) (l : Bs) : valA a (c :: l) = valA (a * 10 + dv c) l := by unfold valA; rw [List.foldl_cons]
theorem valA_append (a : Nat) (l m : Bs) : valA a (l ++ m) = valA (valA a l) m := by simp [valA, List.foldl_append]
theorem valA_eq (l : Bs) : ∀ a, valA a l = a * 10 ^ l.length + valA 0 l := by
  induction l with
  | nil => intro a; simp [valA]
  | cons c l ih =>
    intro a
    have h1 := ih (a * 10 + dv c)
    have h2 := ih (0 * 10 + dv c)
    rw [valA_cons, valA_cons, h1, h2, List.length_cons, Nat.pow_succ]
    generalize 10 ^ l.length = p
    generalize dv c = d
    generalize valA 0 l = v
    rw [Nat.add_mul, Nat.mul_assoc, Nat.mul_comm 10 p, Nat.zero_mul, Nat.zero_add, Nat.add_assoc]
theorem val_nil : val [] = 0 := rfl
theorem val_append (l m : Bs) : val (l ++ m) = val l * 10 ^ m.length + val m := by
  rw [val, valA_append, valA_eq]; rfl
theorem val_snoc (l : Bs) (c : UInt8) : val (l ++ [c]) = val l * 10 + dv c := by
  rw [val_append]; simp [val, valA]
theorem val_single (c : UInt8) : val [c] = dv c := by simp [val, valA]
theorem val_cons (c : UInt8) (l : Bs) : val (c :: l) = dv c * 10 ^ l.length + val l := by
  rw [show c :: l = [c] ++ l from rfl, val_append, val_single]

theorem allD_append {l m : Bs} : AllD (l ++ m) ↔ AllD l ∧ AllD m := by
  simp only [AllD, List.mem_append]
  constructor
  · intro h; exact ⟨fun c hc => h c (.inl hc), fun c hc => h c (.inr hc)⟩
  · rintro ⟨a, b⟩ c (hc | hc)
    · exact a c hc
    · exact b c hc
theorem allD_cons {c : UInt8} {l : Bs} : AllD (c :: l) ↔ IsD c ∧ AllD l := by simp [AllD]
theorem allD_nil : AllD [] := by simp [AllD]
theorem allD_take {l : Bs} (h : AllD l) (k : Nat) : AllD (l.take k) := fun c hc => h c (List.mem_of_mem_take hc)
theorem allD_drop {l : Bs} (h : AllD l) (k : Nat) : AllD (l.drop k) := fun c hc => h c (List.mem_of_mem_drop hc)

theorem val_lt {l : Bs} (h : AllD l) : val l < 10 ^ l.length := by
  induction l with
  | nil => simp [val, valA]
  | cons c l ih =>
    rw [allD_cons] at h
    have h1 := ih h.2
    have h2 := dv_lt h.1
    rw [val_cons, List.length_cons, Nat.pow_succ]
    have : dv c * 10 ^ l.length ≤ 9 * 10 ^ l.length := Nat.mul_le_mul_right _ (by omega)
    omega

theorem D_small {n : Nat} (h : n < 10) : D n = [dg n] := by unfold D; rw [Lib.decDigits, dif_pos h]; rfl
theorem D_big {n : Nat} (h : ¬ n < 10) : D n = D (n / 10) ++ [dg (n % 10)] := by
  unfold D; rw [Lib.decDigits, dif_neg h]; rfl
theorem D_ne_nil (n : Nat) : D n ≠ [] := by
  by_cases h : n < 10
  · rw [D_small h]; simp
  · rw [D_big h]; simp
theorem val_D (n : Nat) : val (D n) = n := by
  induction n using Nat.strongRecOn with
  | _ n ih =>
    by_cases h : n < 10
    · rw [D_small h, val_single, dv_dg h]
    · rw [D_big h, val_snoc, ih _ (by omega), dv_dg (by omega)]; omega
theorem allD_D (n : Nat) : AllD (D n) := by
  induction n using Nat.strongRecOn with
  | _ n ih =>
    by_cases h : n < 10
    · rw [D_small h]; intro c hc; simp at hc; subst hc; exact isD_dg h
    · rw [D_big h, allD_append]
      refine ⟨ih _ (by omega), ?_⟩
      intro c hc; simp at hc; subst hc; exact isD_dg (by omega)
theorem D_inj {a b : Nat} (h : D a = D b) : a = b := by rw [← val_D a, ← val_D b, h]
theorem D_length_pos (n : Nat) : 0 < (D n).length := List.length_pos_iff.2 (D_ne_nil n)
theorem lt_pow_D (n : Nat) : n < 10 ^ (D n).length := by
  have := val_lt (allD_D n); rwa [val_D] at this
theorem D_head (n : Nat) (h : 0 < n) : ∃ c l, D n = c :: l ∧ IsD c ∧ c ≠ 48 := by
  induction n using Nat.strongRecOn with
  | _ n ih =>
    by_cases h10 : n < 10
    · refine ⟨dg n, [], D_small h10, isD_dg h10, ?_⟩
      intro e
      have : (dg n).toNat = 48 := by rw [e]; rfl
      rw [dg_toNat h10] at this; omega
    · obtain ⟨c, l, e, hc, hn⟩ := ih (n / 10) (by omega) (by omega)
      exact ⟨c, l ++ [dg (n % 10)], by rw [D_big h10, e]; rfl, hc, hn⟩
theorem pow_le_D (n : Nat) (h : 0 < n) : 10 ^ ((D n).length - 1) ≤ n := by
  obtain ⟨c, l, e, hc, hn⟩ := D_head n h
  have h1 : val (D n) = n := val_D n
  rw [e, val_cons] at h1
  rw [e, List.length_cons, Nat.add_sub_cancel]
  have h2 : 1 ≤ dv c := by
    have := hc.1
    have : c.toNat ≠ 48 := fun e => hn (UInt8.toNat_inj.1 e)
    unfold dv; omega
  have : 1 * 10 ^ l.length ≤ dv c * 10 ^ l.length := Nat.mul_le_mul_right _ h2
  omega
/-- A numeral without leading zeros. -/
structure Can (l : Bs) : Prop where
  ne : l ≠ []
  all : AllD l
  head : ∀ m, l = 48 :: m → m = []
theorem can_D (n : Nat) : Can (D n) := by
  refine ⟨D_ne_nil n, allD_D n, fun m e => ?_⟩
  rcases Nat.eq_zero_or_pos n with rfl | h
  · rw [D_small (by omega)] at e; simp at e; exact e.2
  · obtain ⟨c, l, e2, _, hn⟩ := D_head n h
    rw [e2] at e; simp at e; exact absurd e.1 hn
theorem D_length_le {n k : Nat} (hk : 0 < k) (h : n < 10 ^ k) : (D n).length ≤ k := by
  rcases Nat.eq_zero_or_pos n with rfl | h0
  · rw [D_small (by omega)]; simp; omega
  · have h1 := pow_le_D n h0
    have h2 := D_length_pos n
    have : (D n).length - 1 < k := (Nat.pow_lt_pow_iff_right (a := 10) (by omega)).1 (Nat.lt_of_le_of_lt h1 h)
    omega
theorem lt_pow_of_len {n k : Nat} (h : (D n).length ≤ k) : n < 10 ^ k :=
  Nat.lt_of_lt_of_le (lt_pow_D n) (Nat.pow_le_pow_right (by omega) h)
theorem D_val {l : Bs} (h : Can l) : D (val l) = l := by
  suffices H : ∀ (k : Nat) (l : Bs), l.length = k → Can l → D (val l) = l from H _ l rfl h
  clear h l
  intro k
  induction k with
  | zero => intro l hl h; exact absurd (List.eq_nil_of_length_eq_zero hl) h.ne
  | succ k ih =>
    intro l hl h
    obtain ⟨m, c, rfl⟩ : ∃ m c, l = m ++ [c] := ⟨l.dropLast, l.getLast h.ne, (List.dropLast_concat_getLast h.ne).symm⟩
    have hal := allD_append.1 h.all
    have hc : IsD c := hal.2 c (by simp)
    have hcl := dv_lt hc
    rw [val_snoc]
    by_cases hm : m = []
    · subst hm
      rw [val_nil, Nat.zero_mul, Nat.zero_add, D_small hcl, dg_dv hc]; rfl
    · have hcm : Can m := ⟨hm, hal.1, fun q e => by
        have := h.head (q ++ [c]) (by rw [e]; rfl)
        simp at this⟩
      have hvm : 0 < val m := by
        match m, hm, hcm with
        | d :: q, _, hcm =>
          have hd := (allD_cons.1 hcm.all).1
          have hne : d ≠ 48 := fun e => by
            have := h.head (q ++ [c]) (by rw [e]; rfl)
            simp at this
          have : c.toNat ≠ 48 ∨ True := .inr trivial
          have h1 : 1 ≤ dv d := by
            have := hd.1
            have : d.toNat ≠ 48 := fun e => hne (UInt8.toNat_inj.1 e)
            unfold dv; omega
          rw [val_cons]
          have : 1 * 1 ≤ dv d * 10 ^ q.length := Nat.mul_le_mul h1 (Nat.one_le_pow _ _ (by omega))
          omega
      have e1 : (val m * 10 + dv c) / 10 = val m := by omega
      have e2 : (val m * 10 + dv c) % 10 = dv c := by omega
      rw [D_big (by omega), e1, e2, ih m (by simpa using hl) hcm, dg_dv hc]
theorem can_iff (l : Bs) : Can l ↔ ∃ n, l = D n := ⟨fun h => ⟨val l, (D_val h).symm⟩, fun ⟨n, e⟩ => e ▸ can_D n⟩

/-! ### Padding -/
def pad (k x : Nat) : Bs := List.replicate (k - (D x).length) 48 ++ D x
theorem val_zeros (k : Nat) : val (List.replicate k 48) = 0 := by
  induction k with
  | zero => rfl
  | succ k ih => rw [List.replicate_succ, val_cons, ih]; simp [dv]
theorem allD_zeros (k : Nat) : AllD (List.replicate k 48) := by
  intro c hc; rw [List.mem_replicate] at hc; rw [hc.2]; decide +kernel
theorem val_pad (k x : Nat) : val (pad k x) = x := by rw [pad, val_append, val_zeros, val_D]; simp
theorem allD_pad (k x : Nat) : AllD (pad k x) := allD_append.2 ⟨allD_zeros _, allD_D _⟩
theorem length_pad {k x : Nat} (hk : 0 < k) (h : x < 10 ^ k) : (pad k x).length = k := by
  have := D_length_le hk h
  simp [pad]; omega
theorem D_pad {k h x : Nat} (hk : 0 < k) (hh : 0 < h) (hx : x < 10 ^ k) : D (h * 10 ^ k + x) = D h ++ pad k x := by
  have hc : Can (D h ++ pad k x) := by
    refine ⟨by simp [D_ne_nil], allD_append.2 ⟨allD_D _, allD_pad _ _⟩, fun m e => ?_⟩
    obtain ⟨c, l, e2, _, hn⟩ := D_head h hh
    rw [e2] at e; simp at e; exact absurd e.1 hn
  have := D_val hc
  rw [val_append, val_D, val_pad, length_pad hk hx] at this
  exact this

/-! ### Pieces, the least first -/
def ofL (b : Nat) : List Nat → Nat
  | [] => 0
  | x :: l => x + b * ofL b l
/-- What the pieces write, behind what stands to their left. -/
def wr (k : Nat) : List Nat → Bs
  | [] => []
  | x :: l => wr k l ++ pad k x
def cl (k : Nat) : List Nat → Bs
  | [] => [48]
  | [x] => D x
  | x :: l => cl k l ++ pad k x
theorem ofL_append (b : Nat) (l m : List Nat) : ofL b (l ++ m) = ofL b l + b ^ l.length * ofL b m := by
  induction l with
  | nil => simp [ofL]
  | cons x l ih =>
    simp only [List.cons_append, ofL, ih, List.length_cons, Nat.pow_succ, Nat.mul_add]
    rw [Nat.mul_comm (b ^ l.length) b, Nat.mul_assoc]; omega
theorem ofL_snoc (b : Nat) (l : List Nat) (x : Nat) : ofL b (l ++ [x]) = ofL b l + b ^ l.length * x := by
  rw [ofL_append]; simp [ofL]
theorem ofL_lt {b : Nat} {l : List Nat} (h : ∀ x ∈ l, x < b) : ofL b l < b ^ l.length := by
  induction l with
  | nil => simp [ofL]
  | cons x l ih =>
    have h1 := ih fun y hy => h y (List.mem_cons_of_mem _ hy)
    have h2 := h x (by simp)
    simp only [ofL, List.length_cons, Nat.pow_succ]
    have : b * (ofL b l + 1) ≤ b * b ^ l.length := Nat.mul_le_mul_left _ h1
    rw [Nat.mul_add] at this
    rw [Nat.mul_comm (b ^ l.length)]; omega
/-- No zero at the end. -/
def Trim (l : List Nat) : Prop := ∀ h : l ≠ [], l.getLast h ≠ 0
theorem trim_nil : Trim [] := fun h => absurd rfl h
theorem trim_cons {x : Nat} {l : List Nat} (hl : l ≠ []) : Trim (x :: l) ↔ Trim l := by
  constructor
  · intro h h'; have := h (by simp); rwa [List.getLast_cons hl] at this
  · intro h _; rw [List.getLast_cons hl]; exact h hl
theorem ofL_pos {b : Nat} (hb : 0 < b) {l : List Nat} (h : Trim l) (hne : l ≠ []) : 0 < ofL b l := by
  induction l with
  | nil => exact absurd rfl hne
  | cons x l ih =>
    by_cases hl : l = []
    · subst hl; have := h (by simp); simp at this; simp [ofL]; omega
    · have h1 := ih ((trim_cons hl).1 h) hl
      have : 0 < b * ofL b l := Nat.mul_pos hb h1
      simp only [ofL]; omega
theorem cl_eq {k : Nat} (hk : 0 < k) {l : List Nat} (h : ∀ x ∈ l, x < 10 ^ k) (ht : Trim l) : cl k l = D (ofL (10 ^ k) l) := by
  induction l with
  | nil => rw [cl, ofL, D_small (by omega)]; rfl
  | cons x l ih =>
    cases l with
    | nil => simp [cl, ofL]
    | cons y l =>
      have ht' := (trim_cons (x := x) (l := y :: l) (by simp)).1 ht
      have h' : ∀ z ∈ y :: l, z < 10 ^ k := fun z hz => h z (List.mem_cons_of_mem _ hz)
      have hp := ofL_pos (Nat.pow_pos (n := k) (by omega : 0 < 10)) ht' (by simp)
      rw [cl, ih h' ht', ← D_pad hk hp (h x (by simp)), Nat.mul_comm, Nat.add_comm]; rfl
      simp

/-! ### Integers -/
theorem I_nat (n : Nat) : I (n : Int) = D n := by unfold I Lib.itoa D; rw [if_neg (by omega)]; simp
theorem I_neg (n : Nat) (h : 0 < n) : I (-(n : Int)) = 45 :: D n := by unfold I Lib.itoa D; rw [if_pos (by omega)]; simp
theorem I_cases (z : Int) : (∃ n : Nat, z = n ∧ I z = D n) ∨ (∃ n : Nat, 0 < n ∧ z = -(n : Int) ∧ I z = 45 :: D n) := by
  by_cases h : z < 0
  · exact .inr ⟨z.natAbs, by omega, by omega, by have := I_neg z.natAbs (by omega); rwa [show -(z.natAbs : Int) = z by omega] at this⟩
  · exact .inl ⟨z.toNat, by omega, by have := I_nat z.toNat; rwa [show (z.toNat : Int) = z by omega] at this⟩
theorem D_no45 (n : Nat) (m : Bs) : D n ≠ 45 :: m := by
  intro e
  have := allD_D n 45 (by rw [e]; simp)
  exact absurd this (by decide +kernel)
theorem I_inj {a b : Int} (h : I a = I b) : a = b := by
  rcases I_cases a with ⟨n, rfl, e1⟩ | ⟨n, hn, rfl, e1⟩ <;> rcases I_cases b with ⟨m, rfl, e2⟩ | ⟨m, hm, rfl, e2⟩
  · rw [e1, e2] at h; rw [D_inj h]
  · rw [e1, e2] at h; exact absurd h (D_no45 _ _)
  · rw [e1, e2] at h; exact absurd h.symm (D_no45 _ _)
  · rw [e1, e2] at h; simp at h; rw [D_inj h]
theorem I_ne_nil (z : Int) : I z ≠ [] := by
  rcases I_cases z with ⟨n, _, e⟩ | ⟨n, _, _, e⟩ <;> rw [e]
  · exact D_ne_nil n
  · simp
theorem I_no47 (z : Int) : (47 : UInt8) ∉ I z := by
  rcases I_cases z with ⟨n, _, e⟩ | ⟨n, _, _, e⟩ <;> rw [e]
  · intro h; exact absurd (allD_D n _ h) (by decide +kernel)
  · intro h
    rcases List.mem_cons.1 h with h | h
    · exact absurd h (by decide +kernel)
    · exact absurd (allD_D n _ h) (by decide +kernel)

/-! ### Fractions -/
def R (q : Rat) : Bs := if q.den = 1 then I q.num else I q.num ++ 47 :: D q.den
theorem R_int (z : Int) : R (z : Rat) = I z := by unfold R; rw [if_pos (by simp)]; simp
end Kl
namespace Kl

def pc (b : Nat) (n : Nat) : List Nat :=
  if _h : 2 ≤ b ∧ 0 < n then (n % b) :: pc b (n / b) else []
  termination_by n
  decreasing_by exact Nat.div_lt_self _h.2 _h.1

theorem pc_zero {b : Nat} : pc b 0 = [] := by rw [pc, dif_neg (by simp)]
theorem pc_pos {b : Nat} (hb : 2 ≤ b) {n : Nat} (h : 0 < n) : pc b n = (n % b) :: pc b (n / b) := by rw [pc, dif_pos ⟨hb, h⟩]
theorem ofL_pc {b : Nat} (hb : 2 ≤ b) (n : Nat) : ofL b (pc b n) = n := by
  induction n using Nat.strongRecOn with
  | _ n ih =>
    rcases Nat.eq_zero_or_pos n with rfl | h
    · rw [pc_zero]; rfl
    · rw [pc_pos hb h, ofL, ih _ (Nat.div_lt_self h hb)]; exact Nat.mod_add_div n b
theorem pc_lt {b : Nat} (hb : 2 ≤ b) (n : Nat) : ∀ x ∈ pc b n, x < b := by
  induction n using Nat.strongRecOn with
  | _ n ih =>
    rcases Nat.eq_zero_or_pos n with rfl | h
    · rw [pc_zero]; simp
    · rw [pc_pos hb h]
      intro x hx
      rcases List.mem_cons.1 hx with rfl | hx
      · exact Nat.mod_lt _ (by omega)
      · exact ih _ (Nat.div_lt_self h hb) x hx
theorem pc_eq_nil {b : Nat} (hb : 2 ≤ b) {n : Nat} : pc b n = [] ↔ n = 0 := by
  constructor
  · intro h
    have := ofL_pc hb n
    rw [h] at this; exact this.symm
  · rintro rfl; exact pc_zero
theorem trim_pc {b : Nat} (hb : 2 ≤ b) (n : Nat) : Trim (pc b n) := by
  induction n using Nat.strongRecOn with
  | _ n ih =>
    rcases Nat.eq_zero_or_pos n with rfl | h
    · rw [pc_zero]; exact trim_nil
    · rw [pc_pos hb h]
      by_cases hl : pc b (n / b) = []
      · rw [hl]; intro _
        have := (pc_eq_nil hb).1 hl
        have h2 := Nat.mod_add_div n b
        rw [this] at h2
        simp at h2 ⊢; omega
      · exact (trim_cons hl).2 (ih _ (Nat.div_lt_self h hb))
theorem pc_unique {b : Nat} (hb : 2 ≤ b) : ∀ {l : List Nat}, (∀ x ∈ l, x < b) → Trim l → pc b (ofL b l) = l
  | [], _, _ => pc_zero
  | x :: l, h, ht => by
    have hx := h x (by simp)
    have hpos := ofL_pos (by omega : 0 < b) ht (by simp)
    have e1 : (x + b * ofL b l) % b = x := by rw [Nat.add_mul_mod_self_left]; exact Nat.mod_eq_of_lt hx
    have e2 : (x + b * ofL b l) / b = ofL b l := by rw [Nat.add_mul_div_left _ _ (by omega), Nat.div_eq_of_lt hx, Nat.zero_add]
    have htl : Trim l := by
      by_cases hl : l = []
      · subst hl; exact trim_nil
      · exact (trim_cons hl).1 ht
    rw [ofL] at hpos ⊢
    rw [pc_pos hb hpos, e1, e2, pc_unique hb (fun y hy => h y (List.mem_cons_of_mem _ hy)) htl]
theorem pc_inj {b : Nat} (hb : 2 ≤ b) {m n : Nat} (h : pc b m = pc b n) : m = n := by rw [← ofL_pc hb m, ← ofL_pc hb n, h]
theorem lt_pow_pc {b : Nat} (hb : 2 ≤ b) (n : Nat) : n < b ^ (pc b n).length := by
  have := ofL_lt (pc_lt hb n); rwa [ofL_pc hb] at this
theorem pow_le_of_trim {b : Nat} {l : List Nat} (ht : Trim l) (hne : l ≠ []) : b ^ (l.length - 1) ≤ ofL b l := by
  induction l with
  | nil => exact absurd rfl hne
  | cons x l ih =>
    by_cases hl : l = []
    · subst hl; have := ht (by simp); simp at this; simp [ofL]; omega
    · have h1 := ih ((trim_cons hl).1 ht) hl
      have hlen : 0 < l.length := List.length_pos_iff.2 hl
      rw [ofL, List.length_cons, Nat.add_sub_cancel, show l.length = l.length - 1 + 1 by omega, Nat.pow_succ, Nat.mul_comm]
      have := Nat.mul_le_mul_left b h1
      omega
theorem pc_length_le {b : Nat} (hb : 2 ≤ b) {n k : Nat} (h : n < b ^ k) : (pc b n).length ≤ k := by
  by_cases hn : pc b n = []
  · rw [hn]; simp
  · have h1 := pow_le_of_trim (b := b) (trim_pc hb n) hn
    rw [ofL_pc hb] at h1
    have : (pc b n).length - 1 < k := (Nat.pow_lt_pow_iff_right (a := b) (by omega)).1 (Nat.lt_of_le_of_lt h1 h)
    omega
theorem pc_small {b : Nat} (hb : 2 ≤ b) {n : Nat} (h0 : 0 < n) (h : n < b) : pc b n = [n] := by
  rw [pc_pos hb h0, Nat.mod_eq_of_lt h, Nat.div_eq_of_lt h, pc_zero]
/-- Leaving out a zero at the end. -/
theorem ofL_dropLast {b : Nat} {l : List Nat} (hne : l ≠ []) (h : l.getLast hne = 0) : ofL b l.dropLast = ofL b l := by
  conv => rhs; rw [← List.dropLast_concat_getLast hne]
  rw [ofL_snoc, h]; simp
/-- Two lists of one length, that agree above a place, are in the order of that place. -/
theorem ofL_lt_of_at {b : Nat} : ∀ {l m : List Nat} (i : Nat), (∀ x ∈ l, x < b) → (∀ x ∈ m, x < b) → l.length = m.length → i < l.length →
    l.drop (i + 1) = m.drop (i + 1) → l.getD i 0 < m.getD i 0 → ofL b l < ofL b m := by
  intro l m i hl hm hlen hi hd hlt
  have e1 : l = l.take i ++ l.getD i 0 :: l.drop (i + 1) := by
    conv => lhs; rw [← List.take_append_drop i l]
    rw [List.drop_eq_getElem_cons hi]; simp [List.getD, hi]
  have hi2 : i < m.length := by omega
  have e2 : m = m.take i ++ m.getD i 0 :: m.drop (i + 1) := by
    conv => lhs; rw [← List.take_append_drop i m]
    rw [List.drop_eq_getElem_cons hi2]; simp [List.getD, hi2]
  rw [e1, e2, ofL_append, ofL_append, hd]
  have h1 : ofL b (l.take i) < b ^ i := by
    have := ofL_lt (l := l.take i) (b := b) fun x hx => hl x (List.mem_of_mem_take hx)
    rwa [List.length_take, Nat.min_eq_left (by omega)] at this
  have el : (l.take i).length = i := by rw [List.length_take]; omega
  have em : (m.take i).length = i := by rw [List.length_take]; omega
  rw [el, em]
  simp only [ofL]
  generalize ofL b (m.drop (i + 1)) = T
  generalize l.getD i 0 = x at *
  generalize m.getD i 0 = y at *
  generalize b ^ i = p at *
  have : p * (x + 1) ≤ p * y := Nat.mul_le_mul_left _ hlt
  rw [Nat.mul_add, Nat.mul_add]
  rw [Nat.mul_add] at this
  omega
theorem ofL_lt_of_length {b : Nat} (hb : 2 ≤ b) {l m : List Nat} (hl : ∀ x ∈ l, x < b) (ht : Trim m) (h : l.length < m.length) : ofL b l < ofL b m := by
  have hne : m ≠ [] := fun e => by rw [e] at h; simp at h
  have h1 := ofL_lt hl
  have h2 := pow_le_of_trim (b := b) ht hne
  have : b ^ l.length ≤ b ^ (m.length - 1) := Nat.pow_le_pow_right (by omega) (by omega)
  omega
end Kl
