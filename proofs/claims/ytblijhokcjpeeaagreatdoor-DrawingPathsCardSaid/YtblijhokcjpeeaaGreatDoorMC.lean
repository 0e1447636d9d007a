/- rational.quick at a fraction. -/
import Derived.Test.YtblijhokcjpeeaaGreatDoorMA
import Derived.Lib.IndexMore
import Derived.Lib.IndexBytes
import Derived.Lib.Strings
import Derived.Test.YtblijhokcjpeeaaGreatDoorMB
/- Plain facts on fractions as texts. No program is in sight here. -/
namespace Kl
open Go

theorem indexByte_hit : ∀ {l m : Bs} {c : UInt8}, c ∉ l → Lib.indexByte (l ++ c :: m) c = l.length
  | [], m, c, _ => by simp [Lib.indexByte]
  | b :: l, m, c, h => by
    rw [List.cons_append, Lib.indexByte, indexByte_hit (l := l) (fun k => h (List.mem_cons_of_mem _ k))]
    have : (b == c) = false := by rw [beq_eq_false_iff_ne]; rintro rfl; exact h (List.mem_cons_self ..)
    have h2 : ((l.length : Int) == -1) = false := by rw [beq_eq_false_iff_ne]; omega
    rw [this, h2]; simp
theorem indexByte_miss : ∀ {l : Bs} {c : UInt8}, c ∉ l → Lib.indexByte l c = -1
  | [], c, _ => rfl
  | b :: l, c, h => by
    rw [Lib.indexByte, indexByte_miss (l := l) (fun k => h (List.mem_cons_of_mem _ k))]
    have : (b == c) = false := by rw [beq_eq_false_iff_ne]; rintro rfl; exact h (List.mem_cons_self ..)
    rw [this]; simp
theorem cut_hit {l m : Bs} (h : (47 : UInt8) ∉ l) : Lib.cut (l ++ 47 :: m) [47] = (l, m, true) := by
  unfold Lib.cut
  rw [Lib.index_one, indexByte_hit h, if_pos (by omega)]
  simp
theorem cut_miss {l : Bs} (h : (47 : UInt8) ∉ l) : Lib.cut l [47] = (l, [], false) := by
  unfold Lib.cut
  rw [Lib.index_one, indexByte_miss h, if_neg (by omega)]

theorem D_no47 (n : Nat) : (47 : UInt8) ∉ D n := by have := I_no47 (n : Int); rwa [I_nat] at this
theorem R_whole {q : Rat} (h : q.den = 1) : R q = I q.num := if_pos h
theorem R_frac {q : Rat} (h : q.den ≠ 1) : R q = I q.num ++ 47 :: D q.den := if_neg h
/-- A fraction of two integers, written. -/
def frac (n : Int) (d : Nat) : Bs := if d = 1 then I n else I n ++ 47 :: D d
theorem R_def (q : Rat) : R q = frac q.num q.den := rfl
theorem R_cut (q : Rat) : Lib.cut (R q) [47] = if q.den = 1 then (I q.num, [], false) else (I q.num, D q.den, true) := by
  by_cases h : q.den = 1
  · rw [R_whole h, cut_miss (I_no47 _), if_pos h]
  · rw [R_frac h, cut_hit (I_no47 _), if_neg h]
theorem R_inj {p q : Rat} (h : R p = R q) : p = q := by
  have h2 := R_cut p
  rw [h, R_cut q] at h2
  by_cases hq : q.den = 1
  · by_cases hp : p.den = 1
    · rw [if_pos hq, if_pos hp] at h2
      have := I_inj (congrArg (·.1) h2)
      exact Rat.ext this.symm (by rw [hp, hq])
    · rw [if_pos hq, if_neg hp] at h2
      have := congrArg (·.2.2) h2
      simp at this
  · by_cases hp : p.den = 1
    · rw [if_neg hq, if_pos hp] at h2
      have := congrArg (·.2.2) h2
      simp at this
    · rw [if_neg hq, if_neg hp] at h2
      have h1 := I_inj (congrArg (·.1) h2)
      have h3 := D_inj (congrArg (·.2.1) h2)
      exact Rat.ext h1.symm h3.symm
theorem I_zero' : I 0 = [48] := by rw [show (0 : Int) = ((0 : Nat) : Int) from rfl, I_nat, D_small (by omega)]; rfl
theorem I_one' : I 1 = [49] := by rw [show (1 : Int) = ((1 : Nat) : Int) from rfl, I_nat, D_small (by omega)]; rfl
theorem R_zero : R 0 = [48] := by rw [R_whole (by rfl)]; exact I_zero'
theorem R_one : R 1 = [49] := by rw [R_whole (by rfl)]; exact I_one'
theorem R_eq_zero {q : Rat} : R q = [48] ↔ q = 0 := ⟨fun h => R_inj (by rw [h, R_zero]), fun h => by rw [h, R_zero]⟩
theorem R_eq_one {q : Rat} : R q = [49] ↔ q = 1 := ⟨fun h => R_inj (by rw [h, R_one]), fun h => by rw [h, R_one]⟩
theorem R_ne_nil (q : Rat) : R q ≠ [] := by
  rw [R_def]; unfold frac; split
  · exact I_ne_nil _
  · simp
theorem num_neg_iff {q : Rat} : q.num < 0 ↔ q < 0 := by
  rw [← Int.not_le, Rat.num_nonneg, Rat.not_le]
theorem num_pos_iff {q : Rat} : 0 < q.num ↔ 0 < q := by
  rw [Rat.lt_iff]; simp
theorem I_head (z : Int) : (z < 0 ∧ I z = 45 :: I (-z)) ∨ (0 ≤ z ∧ ∃ c l, I z = c :: l ∧ IsD c ∧ c ≠ 45) := by
  rcases I_cases z with ⟨n, rfl, e⟩ | ⟨n, hn, rfl, e⟩
  · refine .inr ⟨by omega, ?_⟩
    rw [e]
    match hd : D n, D_ne_nil n with
    | c :: r, _ =>
      have := allD_D n c (by rw [hd]; simp)
      exact ⟨c, r, rfl, this, by rintro rfl; exact absurd this.1 (by decide)⟩
  · exact .inl ⟨by omega, by rw [e, Int.neg_neg, I_nat]⟩
theorem frac_neg {n : Int} {d : Nat} (h : n < 0) : frac n d = 45 :: frac (-n) d := by
  rcases I_head n with ⟨_, e⟩ | ⟨h0, _⟩
  · unfold frac; rw [e]; split <;> rfl
  · omega
theorem R_neg {q : Rat} (h : q < 0) : R q = 45 :: R (-q) := by
  rw [R_def, R_def, Rat.neg_num, Rat.neg_den, frac_neg (num_neg_iff.2 h)]
theorem R_head (q : Rat) : (q < 0 ∧ R q = 45 :: R (-q)) ∨ (0 ≤ q ∧ ∃ c l, R q = c :: l ∧ IsD c ∧ c ≠ 45) := by
  rcases I_head q.num with ⟨h, _⟩ | ⟨h, c, l, e, h1, h2⟩
  · exact .inl ⟨num_neg_iff.1 h, R_neg (num_neg_iff.1 h)⟩
  · refine .inr ⟨Rat.num_nonneg.1 h, ?_⟩
    rw [R_def]; unfold frac; rw [e]
    split
    · exact ⟨c, l, rfl, h1, h2⟩
    · exact ⟨c, _, rfl, h1, h2⟩

/-! ### Lowest terms -/
theorem mkRat_parts (n : Int) {d : Nat} (hd : 0 < d) : (mkRat n d).num = n / (Nat.gcd n.natAbs d : Nat) ∧ (mkRat n d).den = d / Nat.gcd n.natAbs d := by
  rw [Rat.num_mkRat, Rat.den_mkRat, if_neg (by omega), if_neg (by omega), Nat.gcd_comm]
  exact ⟨rfl, rfl⟩
theorem R_mkRat (n : Int) {d : Nat} (hd : 0 < d) : R (mkRat n d) = frac (n / (Nat.gcd n.natAbs d : Nat)) (d / Nat.gcd n.natAbs d) := by
  obtain ⟨h1, h2⟩ := mkRat_parts n hd
  rw [R_def, h1, h2]
theorem R_mkRat_one (n : Int) {d : Nat} (hd : 0 < d) (h : Nat.gcd n.natAbs d = 1) : R (mkRat n d) = frac n d := by
  rw [R_mkRat n hd, h]; simp

/-! ### How great a number is -/
structure Sz (k : Nat) (q : Rat) : Prop where
  num : q.num.natAbs < 10 ^ k
  den : q.den < 10 ^ k
theorem pow10_pos (k : Nat) : 0 < 10 ^ k := Nat.pow_pos (by omega)
theorem Sz.mono {a b : Nat} {q : Rat} (h : Sz a q) (hab : a ≤ b) : Sz b q :=
  have e : 10 ^ a ≤ 10 ^ b := Nat.pow_le_pow_right (by omega) hab
  ⟨Nat.lt_of_lt_of_le h.num e, Nat.lt_of_lt_of_le h.den e⟩
theorem natAbs_ediv_le (n : Int) (g : Nat) (hg : (g : Int) ∣ n) : (n / g).natAbs ≤ n.natAbs := by
  obtain ⟨k, rfl⟩ := hg
  by_cases h : g = 0
  · subst h; simp
  · rw [Int.mul_ediv_cancel_left _ (by omega), Int.natAbs_mul]
    exact Nat.le_mul_of_pos_left _ (by simp; omega)
theorem Sz.mkRat {k : Nat} {n : Int} {d : Nat} (hd : 0 < d) (h1 : n.natAbs < 10 ^ k) (h2 : d < 10 ^ k) : Sz k (mkRat n d) := by
  obtain ⟨e1, e2⟩ := mkRat_parts n hd
  refine ⟨?_, ?_⟩
  · rw [e1]
    exact Nat.lt_of_le_of_lt (natAbs_ediv_le _ _ (Int.natAbs_dvd_natAbs.1 (by rw [Int.natAbs_natCast]; exact Nat.gcd_dvd_left ..))) h1
  · rw [e2]
    exact Nat.lt_of_le_of_lt (Nat.div_le_self _ _) h2
theorem mul_lt_pow {x y a b : Nat} (hx : x < 10 ^ a) (hy : y < 10 ^ b) : x * y < 10 ^ (a + b) := by
  rw [Nat.pow_add]; exact Nat.mul_lt_mul'' hx hy
theorem add_lt_pow {x y a : Nat} (hx : x < 10 ^ a) (hy : y < 10 ^ a) : x + y < 10 ^ (a + 1) := by
  rw [Nat.pow_succ]; omega
theorem Sz.add {a b : Nat} {p q : Rat} (hp : Sz a p) (hq : Sz b q) : Sz (a + b + 1) (p + q) := by
  rw [Rat.add_def']
  have h1 := mul_lt_pow hp.num hq.den
  have h2 := mul_lt_pow hq.num hp.den
  rw [Nat.add_comm b a] at h2
  refine Sz.mkRat (Nat.mul_pos p.den_pos q.den_pos) ?_ ?_
  · have h3 := Int.natAbs_add_le (p.num * q.den) (q.num * p.den)
    rw [Int.natAbs_mul, Int.natAbs_mul, Int.natAbs_natCast, Int.natAbs_natCast] at h3
    exact Nat.lt_of_le_of_lt h3 (add_lt_pow h1 h2)
  · exact Nat.lt_of_lt_of_le (mul_lt_pow hp.den hq.den) (Nat.pow_le_pow_right (by omega) (by omega))
theorem Sz.mul {a b : Nat} {p q : Rat} (hp : Sz a p) (hq : Sz b q) : Sz (a + b) (p * q) := by
  rw [Rat.mul_def']
  refine Sz.mkRat (Nat.mul_pos p.den_pos q.den_pos) ?_ (mul_lt_pow hp.den hq.den)
  rw [Int.natAbs_mul]; exact mul_lt_pow hp.num hq.num
theorem Sz.neg {a : Nat} {p : Rat} (hp : Sz a p) : Sz a (-p) := ⟨by rw [Rat.neg_num, Int.natAbs_neg]; exact hp.num, by rw [Rat.neg_den]; exact hp.den⟩
theorem Sz.sub {a b : Nat} {p q : Rat} (hp : Sz a p) (hq : Sz b q) : Sz (a + b + 1) (p - q) := by
  rw [Rat.sub_eq_add_neg]; exact hp.add hq.neg
theorem Sz.inv {a : Nat} {p : Rat} (ha : 0 < a) (hp : Sz a p) : Sz a p⁻¹ := by
  refine ⟨?_, ?_⟩
  · rw [Rat.num_inv, Int.natAbs_mul, Int.natAbs_natCast]
    have : p.num.sign.natAbs ≤ 1 := by rw [Int.natAbs_sign]; split <;> omega
    calc _ ≤ 1 * p.den := Nat.mul_le_mul_right _ this
      _ < _ := by rw [Nat.one_mul]; exact hp.den
  · rw [Rat.den_inv]
    split
    · exact Nat.one_lt_pow (by omega) (by omega)
    · exact hp.num
theorem Sz.div {a b : Nat} {p q : Rat} (hb : 0 < b) (hp : Sz a p) (hq : Sz b q) : Sz (a + b) (p / q) := by
  rw [Rat.div_def]; exact hp.mul (hq.inv hb)
theorem Sz.int {k : Nat} {z : Int} (hk : 0 < k) (h : z.natAbs < 10 ^ k) : Sz k (z : Rat) := ⟨h, Nat.one_lt_pow (by omega) (by omega)⟩
end Kl
/- Plain facts on the drawing of segments: fractions alone. No program is in sight here. -/
namespace Kl

structure Pt where
  x : Rat
  y : Rat
structure Sg where
  a : Pt
  b : Pt
structure Cv where
  low : Pt
  high : Pt
  W : Nat
  H : Nat
structure Cv.Ok (c : Cv) : Prop where
  x : c.low.x < c.high.x
  y : c.low.y < c.high.y
  w1 : 1 ≤ c.W
  w2 : c.W ≤ 2000
  h1 : 1 ≤ c.H
  h2 : c.H ≤ 2000
structure Cv.In (c : Cv) (p : Pt) : Prop where
  x1 : c.low.x ≤ p.x
  x2 : p.x ≤ c.high.x
  y1 : c.low.y ≤ p.y
  y2 : p.y ≤ c.high.y
def stepR (a b k : Rat) : Rat := a + k * (b - a)
def nearR (part whole : Rat) (size : Nat) : Int := (part * (size : Rat) / whole + 1/2).floor
def colR (c : Cv) (p : Pt) : Int := nearR (p.x - c.low.x) (c.high.x - c.low.x) c.W
def rowR (c : Cv) (p : Pt) : Int := nearR (c.high.y - p.y) (c.high.y - c.low.y) c.H
def atR (s : Sg) (k : Rat) : Pt := ⟨stepR s.a.x s.b.x k, stepR s.a.y s.b.y k⟩
def maxR (a b : Rat) : Rat := if a < b then b else a
def minR (a b : Rat) : Rat := if b < a then b else a
/-- One border of the window. -/
def bstep (fr way : Rat) : Option (Rat × Rat) → Option (Rat × Rat)
  | none => none
  | some (l, h) => if way = 0 then (if 0 ≤ fr then some (l, h) else none) else if 0 < way then some (maxR l (-fr / way), h) else some (l, minR h (-fr / way))
def clipLH (c : Cv) (s : Sg) : Option (Rat × Rat) :=
  bstep (c.high.y - s.a.y) (-(s.b.y - s.a.y)) (bstep (s.a.y - c.low.y) (s.b.y - s.a.y) (bstep (c.high.x - s.a.x) (-(s.b.x - s.a.x)) (bstep (s.a.x - c.low.x) (s.b.x - s.a.x) (some (0, 1)))))
def clipR (c : Cv) (s : Sg) : Option Sg :=
  match clipLH c s with
  | none => none
  | some (l, h) => if h < l then none else some ⟨atR s l, atR s h⟩

theorem maxR_le {a b c : Rat} (h : maxR a b ≤ c) : a ≤ c ∧ b ≤ c := by
  unfold maxR at h; split at h <;> grind
theorem le_minR {a b c : Rat} (h : c ≤ minR a b) : c ≤ a ∧ c ≤ b := by
  unfold minR at h; split at h <;> grind
theorem div_le_pos {a b k : Rat} (hb : 0 < b) (h : a / b ≤ k) : a ≤ k * b := by
  rw [← Rat.not_lt, Rat.lt_div_iff hb, Rat.not_lt] at h; exact h
theorem le_div_pos {a b k : Rat} (hb : 0 < b) (h : k ≤ a / b) : k * b ≤ a := by
  rw [← Rat.not_lt, Rat.div_lt_iff hb, Rat.not_lt] at h; exact h
theorem neg_div_neg' (a b : Rat) : -a / b = a / (-b) := by
  rw [Rat.div_def, Rat.div_def, show (-b)⁻¹ = -(b⁻¹) from ?_]
  · grind
  · by_cases hb : b = 0
    · subst hb; rw [Rat.neg_zero, Rat.inv_zero, Rat.neg_zero]
    · exact Rat.inv_eq_of_mul_eq_one (by have := Rat.mul_inv_cancel b hb; grind)
theorem bstep_eq (fr way l h : Rat) : bstep fr way (some (l, h)) = if way = 0 then (if 0 ≤ fr then some (l, h) else none) else if 0 < way then some (maxR l (-fr / way), h) else some (l, minR h (-fr / way)) := rfl
/-- Behind a border: the shares between both bounds are on its inner side. -/
theorem bstep_in {fr way l h l' h' : Rat} (e : bstep fr way (some (l, h)) = some (l', h')) : l ≤ l' ∧ h' ≤ h ∧ ∀ k, l' ≤ k → k ≤ h' → 0 ≤ fr + k * way := by
  rw [bstep_eq] at e
  split at e
  · next hw =>
    split at e
    · next hf =>
      simp only [Option.some.injEq, Prod.mk.injEq] at e
      obtain ⟨rfl, rfl⟩ := e
      refine ⟨Rat.le_refl, Rat.le_refl, fun k _ _ => by rw [hw]; grind⟩
    · simp at e
  · next hw =>
    split at e
    · next hp =>
      simp only [Option.some.injEq, Prod.mk.injEq] at e
      obtain ⟨rfl, rfl⟩ := e
      have h1 := maxR_le (a := l) (b := -fr / way) (c := maxR l (-fr / way)) Rat.le_refl
      refine ⟨h1.1, Rat.le_refl, fun k hk _ => ?_⟩
      have h2 := div_le_pos hp (Rat.le_trans h1.2 hk)
      grind
    · next hp =>
      simp only [Option.some.injEq, Prod.mk.injEq] at e
      obtain ⟨rfl, rfl⟩ := e
      have h1 := le_minR (a := h) (b := -fr / way) (c := minR h (-fr / way)) Rat.le_refl
      refine ⟨Rat.le_refl, h1.1, fun k _ hk => ?_⟩
      have hn : 0 < -way := by grind
      have h2 := Rat.le_trans hk h1.2
      rw [neg_div_neg'] at h2
      have h3 := le_div_pos hn h2
      grind
theorem bstep_none (fr way : Rat) : bstep fr way none = none := rfl
theorem bstep_some {fr way : Rat} {o : Option (Rat × Rat)} {l' h' : Rat} (e : bstep fr way o = some (l', h')) : ∃ l h, o = some (l, h) := by
  match o with
  | none => simp [bstep] at e
  | some (l, h) => exact ⟨l, h, rfl⟩
structure Lh (c : Cv) (s : Sg) (l h : Rat) : Prop where
  l0 : 0 ≤ l
  h1 : h ≤ 1
  inn : ∀ k, l ≤ k → k ≤ h → c.In (atR s k)
theorem clipLH_in {c : Cv} {s : Sg} {l h : Rat} (e : clipLH c s = some (l, h)) : Lh c s l h := by
  unfold clipLH at e
  obtain ⟨l3, h3, e3⟩ := bstep_some e
  rw [e3] at e
  obtain ⟨l2, h2, e2⟩ := bstep_some e3
  rw [e2] at e3
  obtain ⟨l1, h1, e1⟩ := bstep_some e2
  rw [e1] at e2
  obtain ⟨a4, b4, c4⟩ := bstep_in e
  obtain ⟨a3, b3, c3⟩ := bstep_in e3
  obtain ⟨a2, b2, c2⟩ := bstep_in e2
  obtain ⟨a1, b1, c1⟩ := bstep_in e1
  refine ⟨by grind, by grind, fun k hk1 hk2 => ?_⟩
  have q4 := c4 k hk1 hk2
  have q3 := c3 k (by grind) (by grind)
  have q2 := c2 k (by grind) (by grind)
  have q1 := c1 k (by grind) (by grind)
  constructor <;> simp only [atR, stepR] <;> grind
theorem bstep_id {fr way : Rat} (h0 : 0 ≤ fr) (h1 : 0 ≤ fr + way) : bstep fr way (some (0, 1)) = some (0, 1) := by
  rw [bstep_eq]
  split
  · first | rfl | rw [if_pos h0]
  · next hw =>
    split
    · next hp =>
      have : ¬ 0 < -fr / way := by
        rw [Rat.lt_div_iff hp]; grind
      unfold maxR; rw [if_neg this]
    · next hp =>
      have hn : 0 < -way := by grind
      have : ¬ -fr / way < 1 := by
        rw [neg_div_neg', Rat.div_lt_iff hn]; grind
      unfold minR; rw [if_neg this]
/-- A segment inside of the window is clipped to itself. -/
theorem clipR_id {c : Cv} {s : Sg} (ha : c.In s.a) (hb : c.In s.b) : clipLH c s = some (0, 1) := by
  unfold clipLH
  have := ha.x1; have := ha.x2; have := ha.y1; have := ha.y2
  have := hb.x1; have := hb.x2; have := hb.y1; have := hb.y2
  rw [bstep_id, bstep_id, bstep_id, bstep_id] <;> grind
theorem atR_zero (s : Sg) : atR s 0 = s.a := by
  unfold atR stepR; congr 1 <;> grind
theorem atR_one (s : Sg) : atR s 1 = s.b := by
  unfold atR stepR; congr 1 <;> grind
theorem clipR_self {c : Cv} {s : Sg} (ha : c.In s.a) (hb : c.In s.b) : clipR c s = some s := by
  unfold clipR
  rw [clipR_id ha hb]
  show (if (1 : Rat) < 0 then none else some (⟨atR s 0, atR s 1⟩ : Sg)) = _
  rw [if_neg (by grind), atR_zero, atR_one]
theorem clipR_in {c : Cv} {s p : Sg} (e : clipR c s = some p) : c.In p.a ∧ c.In p.b := by
  unfold clipR at e
  split at e
  · simp at e
  · next l h e1 =>
    split at e
    · simp at e
    · next hlt =>
      simp only [Option.some.injEq] at e
      subst e
      have hl := clipLH_in e1
      exact ⟨hl.inn l Rat.le_refl (Rat.not_lt.1 hlt), hl.inn h (Rat.not_lt.1 hlt) Rat.le_refl⟩
/-- Between two places inside of the window. -/
theorem in_between {c : Cv} {s : Sg} (ha : c.In s.a) (hb : c.In s.b) {k : Rat} (h0 : 0 ≤ k) (h1 : k ≤ 1) : c.In (atR s k) :=
  (clipLH_in (clipR_id ha hb)).inn k h0 h1

/-! ### Pixels -/
theorem floor_eq_of {x : Rat} {z : Int} (h1 : (z : Rat) ≤ x) (h2 : x < (z : Rat) + 1) : x.floor = z := by
  have a := Rat.le_floor_iff.2 h1
  have b : x.floor < z + 1 := Rat.floor_lt_iff.2 (by rw [Rat.intCast_add]; exact h2)
  omega
theorem nearR_in {part whole : Rat} {size : Nat} (h0 : 0 ≤ part) (h1 : part ≤ whole) (hw : 0 < whole) : 0 ≤ nearR part whole size ∧ nearR part whole size ≤ size := by
  unfold nearR
  have hs : (0 : Rat) ≤ (size : Rat) := Rat.natCast_nonneg
  have hd0 : 0 ≤ part * (size : Rat) / whole := by
    rw [← Rat.not_lt, Rat.div_lt_iff hw, Rat.not_lt]
    have := Rat.mul_nonneg h0 hs
    grind
  have hd1 : part * (size : Rat) / whole ≤ size := by
    rw [← Rat.not_lt, Rat.lt_div_iff hw, Rat.not_lt, Rat.mul_comm part]
    exact Rat.mul_le_mul_of_nonneg_left h1 hs
  constructor
  · exact Rat.le_floor_iff.2 (by simp; grind)
  · have : (part * (size : Rat) / whole + 1 / 2).floor < (size : Int) + 1 := by
      rw [Rat.floor_lt_iff, Rat.intCast_add, Rat.intCast_natCast]
      have : ((1 : Int) : Rat) = 1 := rfl
      grind
    omega
theorem colR_in {c : Cv} (hc : c.Ok) {p : Pt} (h : c.In p) : 0 ≤ colR c p ∧ colR c p ≤ c.W := by
  have := h.x1; have := h.x2; have := hc.x
  exact nearR_in (by grind) (by grind) (by grind)
theorem rowR_in {c : Cv} (hc : c.Ok) {p : Pt} (h : c.In p) : 0 ≤ rowR c p ∧ rowR c p ≤ c.H := by
  have := h.y1; have := h.y2; have := hc.y
  exact nearR_in (by grind) (by grind) (by grind)
theorem nearR_zero (whole : Rat) (size : Nat) : nearR 0 whole size = 0 := by
  unfold nearR
  refine floor_eq_of ?_ ?_ <;> rw [Rat.zero_mul, Rat.div_def, Rat.zero_mul] <;> simp <;> grind
theorem nearR_full {whole : Rat} (hw : whole ≠ 0) (size : Nat) : nearR whole whole size = size := by
  unfold nearR
  rw [Rat.mul_comm, Rat.mul_div_cancel hw]
  refine floor_eq_of ?_ ?_ <;> simp only [Rat.intCast_natCast] <;> grind

/-! ### Neighbours -/
theorem floor_mono_step {x b : Rat} (h : b < 1) : (x + b).floor ≤ x.floor + 1 := by
  have : (x + b).floor < x.floor + 2 := by
    rw [Rat.floor_lt_iff, Rat.intCast_add]
    have := Rat.lt_floor_add_one x
    rw [Rat.intCast_add] at this
    have e1 : ((1 : Int) : Rat) = 1 := rfl
    have e2 : ((2 : Int) : Rat) = 2 := rfl
    grind
  omega
theorem floor_step_ge {x b : Rat} (h : 1 ≤ b) : x.floor + 1 ≤ (x + b).floor := by
  rw [Rat.le_floor_iff, Rat.intCast_add]
  have := Rat.floor_le x
  have e1 : ((1 : Int) : Rat) = 1 := rfl
  grind
theorem seq_gap {f : Nat → Int} (hs : ∀ i, f i + 1 ≤ f (i + 1)) : ∀ (i k : Nat), f i + k ≤ f (i + k)
  | i, 0 => by simp
  | i, k + 1 => by have := seq_gap hs i k; have := hs (i + k); rw [← Nat.add_assoc]; omega
/-- n steps of one width, which lead at most n onward: each one leads at most 1 onward. -/
theorem floor_steps {x b : Rat} {n i : Nat} (hi : i < n) (h : (x + (n : Rat) * b).floor ≤ x.floor + n) : (x + ((i + 1 : Nat) : Rat) * b).floor ≤ (x + (i : Rat) * b).floor + 1 := by
  by_cases hb : b < 1
  · have := floor_mono_step (x := x + (i : Rat) * b) hb
    rw [show x + ((i + 1 : Nat) : Rat) * b = x + (i : Rat) * b + b by rw [Rat.natCast_add]; have : ((1 : Nat) : Rat) = 1 := rfl; grind]
    exact this
  · have hs : ∀ j : Nat, (x + (j : Rat) * b).floor + 1 ≤ (x + ((j + 1 : Nat) : Rat) * b).floor := by
      intro j
      rw [show x + ((j + 1 : Nat) : Rat) * b = x + (j : Rat) * b + b by rw [Rat.natCast_add]; have : ((1 : Nat) : Rat) = 1 := rfl; grind]
      exact floor_step_ge (Rat.not_lt.1 hb)
    have g1 := seq_gap (f := fun j : Nat => (x + (j : Rat) * b).floor) hs 0 i
    have g2 := seq_gap (f := fun j : Nat => (x + (j : Rat) * b).floor) hs (i + 1) (n - (i + 1))
    rw [show i + 1 + (n - (i + 1)) = n by omega] at g2
    simp only [Nat.zero_add] at g1
    rw [show x + ((0 : Nat) : Rat) * b = x by have : ((0 : Nat) : Rat) = 0 := rfl; grind] at g1
    omega
theorem nat_mul_div {n : Nat} (hn : 0 < n) (b : Rat) : (n : Rat) * (b / (n : Rat)) = b := by
  rw [Rat.mul_comm]
  exact Rat.div_mul_cancel (fun e => by have := Rat.natCast_pos.2 hn; grind)
theorem floor_steps' {x y : Rat} {n i : Nat} (hi : i < n) (h : y.floor ≤ x.floor + n) (h' : x.floor ≤ y.floor + n) :
    (x + ((i + 1 : Nat) : Rat) / (n : Rat) * (y - x)).floor ≤ (x + (i : Rat) / (n : Rat) * (y - x)).floor + 1 ∧ (x + (i : Rat) / (n : Rat) * (y - x)).floor ≤ (x + ((i + 1 : Nat) : Rat) / (n : Rat) * (y - x)).floor + 1 := by
  obtain ⟨b, hb⟩ : ∃ b, b = (y - x) / (n : Rat) := ⟨_, rfl⟩
  have e : ∀ k : Rat, k / (n : Rat) * (y - x) = k * b := by intro k; rw [hb, Rat.div_def, Rat.div_def]; grind
  have hn := nat_mul_div (n := n) (by omega) (y - x)
  rw [← hb] at hn
  rw [e, e]
  constructor
  · exact floor_steps hi (by rw [hn]; rw [show x + (y - x) = y by grind]; exact h)
  · have := floor_steps (x := y) (b := -b) (n := n) (i := n - (i + 1)) (by omega) (by rw [show y + (n : Rat) * -b = x by grind]; exact h')
    have c1 : ((n - (i + 1) : Nat) : Rat) = (n : Rat) - ((i + 1 : Nat) : Rat) := by
      have : ((n - (i + 1) + (i + 1) : Nat) : Rat) = (n : Rat) := by rw [show n - (i + 1) + (i + 1) = n by omega]
      rw [Rat.natCast_add] at this
      grind
    rw [show n - (i + 1) + 1 = n - i by omega] at this
    have c2 : ((n - i : Nat) : Rat) = (n : Rat) - (i : Rat) := by
      have : ((n - i + i : Nat) : Rat) = (n : Rat) := by rw [show n - i + i = n by omega]
      rw [Rat.natCast_add] at this
      grind
    rw [c1, c2, show y + ((n : Rat) - (i : Rat)) * -b = x + (i : Rat) * b by grind, show y + ((n : Rat) - ((i + 1 : Nat) : Rat)) * -b = x + ((i + 1 : Nat) : Rat) * b by grind] at this
    exact this
theorem nearR_step (a b lo w : Rat) (size : Nat) (k : Rat) : nearR (stepR a b k - lo) w size = (((a - lo) * (size : Rat) / w + 1/2) + k * (((b - lo) * (size : Rat) / w + 1/2) - ((a - lo) * (size : Rat) / w + 1/2))).floor := by
  unfold nearR stepR
  congr 1
  simp only [Rat.div_def]
  grind
theorem nearR_step' (a b lo w : Rat) (size : Nat) (k : Rat) : nearR (lo - stepR a b k) w size = (((lo - a) * (size : Rat) / w + 1/2) + k * (((lo - b) * (size : Rat) / w + 1/2) - ((lo - a) * (size : Rat) / w + 1/2))).floor := by
  unfold nearR stepR
  congr 1
  simp only [Rat.div_def]
  grind
/-- Neighbouring pixels of a line. -/
theorem col_steps {c : Cv} {s : Sg} {n i : Nat} (hi : i < n) (h : colR c s.b ≤ colR c s.a + n) (h' : colR c s.a ≤ colR c s.b + n) :
    colR c (atR s (((i + 1 : Nat) : Rat) / (n : Rat))) ≤ colR c (atR s ((i : Rat) / (n : Rat))) + 1 ∧ colR c (atR s ((i : Rat) / (n : Rat))) ≤ colR c (atR s (((i + 1 : Nat) : Rat) / (n : Rat))) + 1 := by
  unfold colR atR
  simp only [nearR_step]
  exact floor_steps' hi h h'
theorem row_steps {c : Cv} {s : Sg} {n i : Nat} (hi : i < n) (h : rowR c s.b ≤ rowR c s.a + n) (h' : rowR c s.a ≤ rowR c s.b + n) :
    rowR c (atR s (((i + 1 : Nat) : Rat) / (n : Rat))) ≤ rowR c (atR s ((i : Rat) / (n : Rat))) + 1 ∧ rowR c (atR s ((i : Rat) / (n : Rat))) ≤ rowR c (atR s (((i + 1 : Nat) : Rat) / (n : Rat))) + 1 := by
  unfold rowR atR
  simp only [nearR_step']
  exact floor_steps' hi h h'
end Kl
/- Plain facts: which texts are integers and fractions of at most 200 digits. No program is in sight here. -/
namespace Kl
open Go

def OkI (l : Bs) : Prop := ∃ z : Int, l = I z ∧ (D z.natAbs).length ≤ 200
/-- What the check asks: of the text behind the sign, and whether there is one. -/
structure ChkI (t : Bs) (mn : Bool) : Prop where
  ne : t ≠ []
  len : t.length ≤ 200
  zero : ∀ m, t = 48 :: m → m = [] ∧ mn = false
  all : AllD t
theorem isP_cons (l : Bs) : ([45].isPrefixOf l = true ∧ ∃ m, l = 45 :: m ∧ Lib.trimPrefix l [45] = m) ∨ ([45].isPrefixOf l = false ∧ Lib.trimPrefix l [45] = l) := by
  match l with
  | [] => exact .inr ⟨rfl, rfl⟩
  | c :: m =>
    by_cases h : c = 45
    · subst h; exact .inl ⟨by simp [List.isPrefixOf], m, rfl, by unfold Lib.trimPrefix Lib.hasPrefix; simp [List.isPrefixOf]⟩
    · have : [45].isPrefixOf (c :: m) = false := by
        simp only [List.isPrefixOf, Bool.and_true]
        rw [beq_eq_false_iff_ne]; exact fun e => h e.symm
      exact .inr ⟨this, by unfold Lib.trimPrefix Lib.hasPrefix; rw [this]; rfl⟩
theorem chkI_iff (l : Bs) : OkI l ↔ ChkI (Lib.trimPrefix l [45]) ([45].isPrefixOf l) := by
  rcases isP_cons l with ⟨h1, m, rfl, h2⟩ | ⟨h1, h2⟩
  · rw [h1, h2]
    constructor
    · rintro ⟨z, e, hl⟩
      rcases I_cases z with ⟨n, rfl, e2⟩ | ⟨n, hn, rfl, e2⟩
      · rw [e2] at e; exact absurd e.symm (D_no45 n m)
      · rw [e2] at e
        obtain rfl : m = D n := by simpa using e
        have hc := can_D n
        refine ⟨hc.ne, by simpa using hl, fun q e3 => ?_, hc.all⟩
        exfalso
        obtain ⟨c, r, e4, _, h48⟩ := D_head n hn
        rw [e3] at e4; simp at e4; exact h48 e4.1.symm
    · intro h
      have hc : Can m := ⟨h.ne, h.all, fun q e => (h.zero q e).1⟩
      have e := D_val hc
      have hn : 0 < val m := by
        rcases Nat.eq_zero_or_pos (val m) with h0 | h0
        · rw [h0, D_small (by omega)] at e
          have := (h.zero [] e.symm).2
          simp at this
        · exact h0
      refine ⟨-(val m : Int), by rw [I_neg _ hn, e], ?_⟩
      rw [show (-(val m : Int)).natAbs = val m by omega, e]; exact h.len
  · rw [h1, h2]
    constructor
    · rintro ⟨z, e, hl⟩
      rcases I_cases z with ⟨n, rfl, e2⟩ | ⟨n, hn, rfl, e2⟩
      · rw [e2] at e
        subst e
        have hc := can_D n
        exact ⟨hc.ne, by simpa using hl, fun q e3 => ⟨hc.head q e3, rfl⟩, hc.all⟩
      · rw [e2] at e
        subst e
        simp [List.isPrefixOf] at h1
    · intro h
      have hc : Can l := ⟨h.ne, h.all, fun q e => (h.zero q e).1⟩
      have e := D_val hc
      exact ⟨(val l : Int), by rw [I_nat, e], by simp only [Int.natAbs_natCast]; rw [e]; exact h.len⟩

def OkR (l : Bs) : Prop := ∃ q : Rat, l = R q ∧ (D q.num.natAbs).length ≤ 200 ∧ (D q.den).length ≤ 200
theorem cut_cases (l : Bs) : (∃ n d, l = n ++ 47 :: d ∧ (47 : UInt8) ∉ n ∧ Lib.cut l [47] = (n, d, true)) ∨ ((47 : UInt8) ∉ l ∧ Lib.cut l [47] = (l, [], false)) := by
  by_cases h : (47 : UInt8) ∈ l
  · obtain ⟨n, d, e, hn⟩ := List.eq_append_cons_of_mem h
    exact .inl ⟨n, d, e, hn, by rw [e]; exact cut_hit hn⟩
  · exact .inr ⟨h, cut_miss h⟩
/-- With a slash: numerator a and denominator b. -/
theorem okR_slash {n d : Bs} (hn : (47 : UInt8) ∉ n) : OkR (n ++ 47 :: d) ↔ ∃ a b : Int, n = I a ∧ d = I b ∧ (D a.natAbs).length ≤ 200 ∧ (D b.natAbs).length ≤ 200 ∧ 1 < b ∧ a ≠ 0 ∧ Int.gcd a b = 1 := by
  constructor
  · rintro ⟨q, e, h1, h2⟩
    have hc := R_cut q
    rw [← e, cut_hit hn] at hc
    by_cases hd : q.den = 1
    · rw [if_pos hd] at hc; simp at hc
    · rw [if_neg hd] at hc
      simp only [Prod.mk.injEq, and_true] at hc
      refine ⟨q.num, q.den, hc.1, by rw [hc.2, I_nat], h1, by simpa using h2, by have := q.den_pos; omega, fun h0 => ?_, ?_⟩
      · have := q.reduced
        rw [h0] at this
        simp at this; exact hd this
      · have := q.reduced
        unfold Nat.Coprime at this
        unfold Int.gcd
        rw [Int.natAbs_natCast]; exact this
  · rintro ⟨a, b, rfl, rfl, h1, h2, hb, ha, hg⟩
    obtain ⟨b, rfl⟩ := Int.eq_ofNat_of_zero_le (show 0 ≤ b by omega)
    unfold Int.gcd at hg
    rw [Int.natAbs_natCast] at hg h2
    refine ⟨⟨a, b, by omega, hg⟩, ?_, h1, h2⟩
    rw [R_frac (by show b ≠ 1; omega), I_nat]
theorem okR_plain {l : Bs} (hn : (47 : UInt8) ∉ l) : OkR l ↔ OkI l := by
  constructor
  · rintro ⟨q, e, h1, h2⟩
    by_cases hd : q.den = 1
    · exact ⟨q.num, by rw [e, R_whole hd], h1⟩
    · rw [e, R_frac hd] at hn; simp at hn
  · rintro ⟨z, rfl, h⟩
    exact ⟨(z : Rat), (R_int z).symm, h, by show (D 1).length ≤ 200; rw [D_small (by omega)]; simp⟩
end Kl
/- rational.quick: a short fraction is read as two ints. -/
namespace Go.Proofs.YtblijhokcjpeeaaGreatDoor
open Go.RowKit Kl

/-- What quick answers. -/
def quickR (q : Rat) : Value := if (D q.num.natAbs).length ≤ 9 ∧ (D q.den).length ≤ 9 then .tuple #[.int .i64 q.num, .int .i64 q.den, .bool true] else .tuple #[.int .i64 0, .int .i64 0, .bool false]

/-- A piece of digits in a text. -/
structure Seg (s : ByteArray) (b : Nat) (m : Bs) : Prop where
  le : b + m.length ≤ s.size
  all : AllD m
  at_ : ∀ (j : Nat) (h : j < s.size), b ≤ j → j < b + m.length → s[j] = m.getD (j - b) 0
theorem Seg.digit {s : ByteArray} {b : Nat} {m : Bs} (h : Seg s b m) {j : Nat} (hj : j < s.size) (h1 : b ≤ j) (h2 : j < b + m.length) :
    ∃ c : UInt8, s[j] = c ∧ IsD c ∧ val (m.take (j + 1 - b)) = val (m.take (j - b)) * 10 + (c.toNat - 48) := by
  have e := h.at_ j hj h1 h2
  have hl : j - b < m.length := by omega
  refine ⟨m[j - b], ?_, h.all _ (List.getElem_mem hl), ?_⟩
  · rw [e]; simp [List.getD, hl]
  · rw [show j + 1 - b = j - b + 1 by omega, List.take_succ_eq_append_getElem hl, val_snoc]; rfl
theorem val_take_lt {m : Bs} (h : AllD m) {k : Nat} : val (m.take k) < 10 ^ k := by
  have h1 := val_lt (allD_take h k)
  have h2 : 10 ^ (m.take k).length ≤ 10 ^ k := Nat.pow_le_pow_right (by omega) (by rw [List.length_take]; omega)
  omega

theorem Seg.digit' {s : ByteArray} {b : Nat} {m : Bs} (h : Seg s b m) {j : Nat} (h1 : b ≤ j) (h2 : j < b + m.length) (h9 : j < b + 9) :
    ∃ (c : UInt8) (v : Nat) (hj : j < s.size), s[j] = c ∧ (48 : Int) ≤ (c.toNat : Int) ∧ (c.toNat : Int) ≤ 57 ∧ ((c.toNat : Int) != 47) = true ∧ v = val (m.take (j - b)) ∧ (v : Int) ≤ 99999999 ∧
      ((val (m.take (j + 1 - b)) : Nat) : Int) = 10 * (v : Int) + ((c.toNat : Int) - 48) := by
  have hj : j < s.size := by have := h.le; omega
  obtain ⟨c, e1, d, e2⟩ := h.digit hj h1 h2
  have hv := val_take_lt h.all (k := j - b)
  have h8 : 10 ^ (j - b) ≤ 10 ^ 8 := Nat.pow_le_pow_right (by omega) (by omega)
  have h10 : (10 : Nat) ^ 8 = 100000000 := by decide
  have := d.1; have := d.2
  refine ⟨c, _, hj, e1, by omega, by omega, ?_, rfl, by omega, by rw [e2]; omega⟩
  rw [bne_iff_ne]; omega
def quickV (sg : Bool) (m m2 : Bs) : Value := if m.length ≤ 9 ∧ m2.length ≤ 9 then .tuple #[.int .i64 (if sg then -(val m : Int) else (val m : Int)), .int .i64 (val m2 : Nat), .bool true] else .tuple #[.int .i64 0, .int .i64 0, .bool false]
theorem quickV_no {sg : Bool} {m m2 : Bs} (h : 9 < m.length ∨ 9 < m2.length) : quickV sg m m2 = .tuple #[.int .i64 0, .int .i64 0, .bool false] := if_neg (by omega)
theorem quickV_yes {sg : Bool} {m m2 : Bs} (h : m.length ≤ 9) (h2 : m2.length ≤ 9) : quickV sg m m2 = .tuple #[.int .i64 (if sg then -(val m : Int) else (val m : Int)), .int .i64 (val m2 : Nat), .bool true] := if_pos ⟨h, h2⟩
theorem ret_v {a b : Value} (h : b = a) : Ending.returned a = .returned b := by rw [h]

theorem sign_byte {s : ByteArray} {sg : Bool} {b : Nat} {m : Bs} (hm : Seg s b m) (h0 : 0 < m.length) (hg : (sg = true ∧ b = 1 ∧ ∃ h : 0 < s.size, s[0] = 45) ∨ (sg = false ∧ b = 0)) :
    ∃ (c : UInt8) (h : 0 < s.size), s[0] = c ∧ ((c.toNat : Int) == 45) = sg ∧ b = if sg = true then 1 else 0 := by
  rcases hg with ⟨rfl, rfl, h, e⟩ | ⟨rfl, rfl⟩
  · exact ⟨45, h, e, rfl, rfl⟩
  · obtain ⟨c, v, hj, e, h1, _⟩ := hm.digit' (j := 0) (by omega) (by omega) (by omega)
    exact ⟨c, hj, e, by rw [beq_eq_false_iff_ne]; omega, rfl⟩

/-! ### The walks -/

set_option maxRecDepth 100000 in
set_option maxHeartbeats 4000000 in
theorem quick_whole0 (s : ByteArray) (m : Bs) (hm : Seg s 0 m) (hs : s.size = 0 + m.length) (hmax : s.size ≤ 100000) (h0 : 0 < m.length) (w : World) :
    Calls Tryz.prog 114 #[.string s] w (fun e w' => e = .returned (quickV false m [49]) ∧ w = w') := by
  have hp : (0 : Int) < (s.size : Int) := by omega
  obtain ⟨c0, -, hs0, e0, d0, d1, -⟩ := hm.digit' (j := 0) (by omega) (by omega) (by omega)
  have hc : ((c0.toNat : Int) == 45) = false := (by rw [beq_eq_false_iff_ne]; omega)
  clear d0 d1
  have HS := Lib.hid hs
  clear hs
  go_enter Tryz.func114, Tryz.ntmps114
  go_wp2
  clear hc e0 hp
  go_loop [2, 3, 5] (fun n z i => ∃ j : Nat, 0 ≤ j ∧ j ≤ 0 + m.length ∧ j ≤ 0 + 9 ∧ z = .int .i64 0 ∧ i = .int .i64 (j : Nat) ∧ n = .int .i64 (val (m.take (j - 0)) : Nat)) (fun _ _ i => s.size - (intOf i).toNat)
  case atStart => exact ⟨0, by omega, by omega, by omega, rfl, rfl, by simp [val_nil]⟩
  case round =>
    obtain ⟨j, hj0, hj1, hj9, rfl, rfl, rfl⟩ := hrel
    have hjs' : j ≤ s.size := by have := HS.out; omega
    by_cases hlt : j < 0 + m.length
    · by_cases h9 : j = 0 + 9
      · have hjs : j < s.size := by have := HS.out; omega
        obtain ⟨c, e, d, -⟩ := hm.digit hjs hj0 hlt
        have d1 := d.1
        have hc47 : ((c.toNat : Int) != 47) = true := by rw [bne_iff_ne]; omega
        have hb9 : (((j : Int)) == 9) = true := by rw [beq_iff_eq]; omega
        have hlti : (j : Int) < (s.size : Int) := by omega
        have hj0i : (0 : Int) ≤ (j : Int) := by omega
        have HV : Hid (quickV false m [49] = .tuple #[.int .i64 0, .int .i64 0, .bool false]) := Lib.hid (quickV_no (.inl (by omega)))
        clear h9 d d1
        go_wp2
        go_ret3
        exact ⟨ret_v HV.out, rfl⟩
      · obtain ⟨c, v, hjs, e, d1, d2, hc47, hv, hv9, hn⟩ := hm.digit' hj0 hlt (by omega)
        have hb9 : (((j : Int)) == 9) = false := by rw [beq_eq_false_iff_ne]; omega
        have hlti : (j : Int) < (s.size : Int) := by omega
        have hj0i : (0 : Int) ≤ (j : Int) := by omega
        rw [← hv]
        have HN := Lib.hid hn
        clear hv hn
        go_wp2
        go_round
        case rel => exact ⟨j + 1, by omega, by omega, by omega, rfl, by go_num, by rw [HN.out]⟩
        case measure => simp [intOf]; omega
    · have hje : j = 0 + m.length := by omega
      have ht : m.take (j - 0) = m := by rw [hje]; simp
      have hv9 : ((val m : Nat) : Int) ≤ 999999999 := by
        have h1 := val_lt hm.all
        have h2 : 10 ^ m.length ≤ 10 ^ 9 := Nat.pow_le_pow_right (by omega) (by omega)
        have h3 : (10 : Nat) ^ 9 = 1000000000 := by decide
        omega
      have hml : m.length ≤ 9 := by omega
      rw [ht]
      have hj0i : (0 : Int) ≤ (j : Int) := by omega
      have hle : (s.size : Int) ≤ (j : Int) := by have := HS.out; omega
      have hbe : ((j : Int) == (s.size : Int)) = true := by rw [beq_iff_eq]; have := HS.out; omega
      have HV : Hid (quickV false m [49] = .tuple #[.int .i64 ((val m : Int)), .int .i64 1, .bool true]) := Lib.hid (quickV_yes hml (by simp))
      clear ht hje hlt
      go_wp2
      go_ret3
      exact ⟨ret_v HV.out, rfl⟩

set_option maxRecDepth 100000 in
set_option maxHeartbeats 4000000 in
theorem quick_slash0 (s : ByteArray) (m m2 : Bs) (hm : Seg s 0 m) (hm2 : Seg s (0 + m.length + 1) m2) (hs : s.size = 0 + m.length + 1 + m2.length) (h2 : 0 < m2.length) (hq : ∃ h : 0 + m.length < s.size, s[0 + m.length] = 47) (hmax : s.size ≤ 100000) (h0 : 0 < m.length) (w : World) :
    Calls Tryz.prog 114 #[.string s] w (fun e w' => e = .returned (quickV false m m2) ∧ w = w') := by
  have hp : (0 : Int) < (s.size : Int) := by omega
  obtain ⟨c0, -, hs0, e0, d0, d1, -⟩ := hm.digit' (j := 0) (by omega) (by omega) (by omega)
  have hc : ((c0.toNat : Int) == 45) = false := (by rw [beq_eq_false_iff_ne]; omega)
  clear d0 d1
  have HS := Lib.hid hs
  clear hs
  go_enter Tryz.func114, Tryz.ntmps114
  go_wp2
  clear hc e0 hp
  go_loop [2, 3, 5] (fun n z i => ∃ j : Nat, 0 ≤ j ∧ j ≤ 0 + m.length ∧ j ≤ 0 + 9 ∧ z = .int .i64 0 ∧ i = .int .i64 (j : Nat) ∧ n = .int .i64 (val (m.take (j - 0)) : Nat)) (fun _ _ i => s.size - (intOf i).toNat)
  case atStart => exact ⟨0, by omega, by omega, by omega, rfl, rfl, by simp [val_nil]⟩
  case round =>
    obtain ⟨j, hj0, hj1, hj9, rfl, rfl, rfl⟩ := hrel
    have hjs' : j ≤ s.size := by have := HS.out; omega
    by_cases hlt : j < 0 + m.length
    · by_cases h9 : j = 0 + 9
      · have hjs : j < s.size := by have := HS.out; omega
        obtain ⟨c, e, d, -⟩ := hm.digit hjs hj0 hlt
        have d1 := d.1
        have hc47 : ((c.toNat : Int) != 47) = true := by rw [bne_iff_ne]; omega
        have hb9 : (((j : Int)) == 9) = true := by rw [beq_iff_eq]; omega
        have hlti : (j : Int) < (s.size : Int) := by omega
        have hj0i : (0 : Int) ≤ (j : Int) := by omega
        have HV : Hid (quickV false m m2 = .tuple #[.int .i64 0, .int .i64 0, .bool false]) := Lib.hid (quickV_no (.inl (by omega)))
        clear h9 d d1
        go_wp2
        go_ret3
        exact ⟨ret_v HV.out, rfl⟩
      · obtain ⟨c, v, hjs, e, d1, d2, hc47, hv, hv9, hn⟩ := hm.digit' hj0 hlt (by omega)
        have hb9 : (((j : Int)) == 9) = false := by rw [beq_eq_false_iff_ne]; omega
        have hlti : (j : Int) < (s.size : Int) := by omega
        have hj0i : (0 : Int) ≤ (j : Int) := by omega
        rw [← hv]
        have HN := Lib.hid hn
        clear hv hn
        go_wp2
        go_round
        case rel => exact ⟨j + 1, by omega, by omega, by omega, rfl, by go_num, by rw [HN.out]⟩
        case measure => simp [intOf]; omega
    · have hje : j = 0 + m.length := by omega
      have ht : m.take (j - 0) = m := by rw [hje]; simp
      have hv9 : ((val m : Nat) : Int) ≤ 999999999 := by
        have h1 := val_lt hm.all
        have h2 : 10 ^ m.length ≤ 10 ^ 9 := Nat.pow_le_pow_right (by omega) (by omega)
        have h3 : (10 : Nat) ^ 9 = 1000000000 := by decide
        omega
      have hml : m.length ≤ 9 := by omega
      rw [ht]
      have hj0i : (0 : Int) ≤ (j : Int) := by omega
      have hjs : j < s.size := by have := HS.out; omega
      have hlti : (j : Int) < (s.size : Int) := by omega
      obtain ⟨c, hc⟩ : ∃ c : UInt8, c = 47 := ⟨_, rfl⟩
      have e : s[j] = c := by rw [hc]; obtain ⟨_, e⟩ := hq; simp only [hje]; exact e
      have hc47 : ((c.toNat : Int) != 47) = false := by rw [hc]; rfl
      have hbe : ((j : Int) == (s.size : Int)) = false := by rw [beq_eq_false_iff_ne]; omega
      have hsz : s.size = j + 1 + m2.length := by have := HS.out; omega
      have HS2 := Lib.hid hsz
      rw [← hje] at hm2
      have hjb : j ≤ 0 + 9 := hj9
      clear ht hje hlt hc hsz
      go_wp2
      clear hc47 e hbe
      go_loop [2, 3, 5] (fun z n i => ∃ k : Nat, j + 1 ≤ k ∧ k ≤ j + 1 + m2.length ∧ k ≤ j + 1 + 9 ∧ z = .int .i64 ((val m : Int)) ∧ i = .int .i64 (k : Nat) ∧ n = .int .i64 (val (m2.take (k - (j + 1))) : Nat)) (fun _ _ i => s.size - (intOf i).toNat)
      case atStart => exact ⟨j + 1, by omega, by omega, by omega, rfl, by go_num, by simp [val_nil]⟩
      case round =>
        obtain ⟨k, hk0, hk1, hk9, rfl, rfl, rfl⟩ := hrel
        have hks' : k ≤ s.size := by have := HS2.out; omega
        by_cases hlt2 : k < j + 1 + m2.length
        · by_cases h9 : k = j + 1 + 9
          · have hks : k < s.size := by have := HS2.out; omega
            have hb9 : ((k : Int) - ((j : Int) + 1) == 9) = true := by rw [beq_iff_eq]; omega
            have hlti2 : (k : Int) < (s.size : Int) := by omega
            have hk0i : (0 : Int) ≤ (k : Int) := by omega
            have HV : Hid (quickV false m m2 = .tuple #[.int .i64 0, .int .i64 0, .bool false]) := Lib.hid (quickV_no (.inr (by omega)))
            clear h9
            go_wp2
            go_ret3
            exact ⟨ret_v HV.out, rfl⟩
          · obtain ⟨c, v, hks, e, d1, d2, hc47, hv, hv9', hn⟩ := hm2.digit' hk0 hlt2 (by omega)
            have hb9 : ((k : Int) - ((j : Int) + 1) == 9) = false := by rw [beq_eq_false_iff_ne]; omega
            have hlti2 : (k : Int) < (s.size : Int) := by omega
            have hk0i : (0 : Int) ≤ (k : Int) := by omega
            rw [← hv]
            have HN := Lib.hid hn
            clear hv hn hc47
            go_wp2
            go_round
            case rel => exact ⟨k + 1, by omega, by omega, by omega, rfl, by go_num, by rw [HN.out]⟩
            case measure => simp [intOf]; omega
        · have hke : k = j + 1 + m2.length := by omega
          have ht2 : m2.take (k - (j + 1)) = m2 := by rw [hke]; simp
          have HV : Hid (quickV false m m2 = .tuple #[.int .i64 ((val m : Int)), .int .i64 (val m2 : Nat), .bool true]) := Lib.hid (quickV_yes hml (by omega))
          have hle : (s.size : Int) ≤ (k : Int) := by have := HS2.out; omega
          rw [ht2]
          clear ht2 hke hlt2
          go_wp2
          go_ret3
          exact ⟨ret_v HV.out, rfl⟩

set_option maxRecDepth 100000 in
set_option maxHeartbeats 4000000 in
theorem quick_whole1 (s : ByteArray) (m : Bs) (hm : Seg s 1 m) (hs : s.size = 1 + m.length) (hmax : s.size ≤ 100000) (h0 : 0 < m.length) (hc : ∃ (h : 0 < s.size), s[0] = 45) (w : World) :
    Calls Tryz.prog 114 #[.string s] w (fun e w' => e = .returned (quickV true m [49]) ∧ w = w') := by
  have hp : (0 : Int) < (s.size : Int) := by omega
  obtain ⟨hs0, e0⟩ := hc
  obtain ⟨c0, hc0⟩ : ∃ c0 : UInt8, c0 = 45 := ⟨_, rfl⟩
  rw [← hc0] at e0
  have hc : ((c0.toNat : Int) == 45) = true := (by rw [hc0]; rfl)
  clear hc0
  have HS := Lib.hid hs
  clear hs
  go_enter Tryz.func114, Tryz.ntmps114
  go_wp2
  clear hc e0 hp
  go_loop [2, 3, 5] (fun n z i => ∃ j : Nat, 1 ≤ j ∧ j ≤ 1 + m.length ∧ j ≤ 1 + 9 ∧ z = .int .i64 0 ∧ i = .int .i64 (j : Nat) ∧ n = .int .i64 (val (m.take (j - 1)) : Nat)) (fun _ _ i => s.size - (intOf i).toNat)
  case atStart => exact ⟨1, by omega, by omega, by omega, rfl, rfl, by simp [val_nil]⟩
  case round =>
    obtain ⟨j, hj0, hj1, hj9, rfl, rfl, rfl⟩ := hrel
    have hjs' : j ≤ s.size := by have := HS.out; omega
    by_cases hlt : j < 1 + m.length
    · by_cases h9 : j = 1 + 9
      · have hjs : j < s.size := by have := HS.out; omega
        obtain ⟨c, e, d, -⟩ := hm.digit hjs hj0 hlt
        have d1 := d.1
        have hc47 : ((c.toNat : Int) != 47) = true := by rw [bne_iff_ne]; omega
        have hb9 : (((j : Int) - 1) == 9) = true := by rw [beq_iff_eq]; omega
        have hlti : (j : Int) < (s.size : Int) := by omega
        have hj0i : (0 : Int) ≤ (j : Int) := by omega
        have HV : Hid (quickV true m [49] = .tuple #[.int .i64 0, .int .i64 0, .bool false]) := Lib.hid (quickV_no (.inl (by omega)))
        clear h9 d d1
        go_wp2
        go_ret3
        exact ⟨ret_v HV.out, rfl⟩
      · obtain ⟨c, v, hjs, e, d1, d2, hc47, hv, hv9, hn⟩ := hm.digit' hj0 hlt (by omega)
        have hb9 : (((j : Int) - 1) == 9) = false := by rw [beq_eq_false_iff_ne]; omega
        have hlti : (j : Int) < (s.size : Int) := by omega
        have hj0i : (0 : Int) ≤ (j : Int) := by omega
        rw [← hv]
        have HN := Lib.hid hn
        clear hv hn
        go_wp2
        go_round
        case rel => exact ⟨j + 1, by omega, by omega, by omega, rfl, by go_num, by rw [HN.out]⟩
        case measure => simp [intOf]; omega
    · have hje : j = 1 + m.length := by omega
      have ht : m.take (j - 1) = m := by rw [hje]; simp
      have hv9 : ((val m : Nat) : Int) ≤ 999999999 := by
        have h1 := val_lt hm.all
        have h2 : 10 ^ m.length ≤ 10 ^ 9 := Nat.pow_le_pow_right (by omega) (by omega)
        have h3 : (10 : Nat) ^ 9 = 1000000000 := by decide
        omega
      have hml : m.length ≤ 9 := by omega
      rw [ht]
      have hj0i : (0 : Int) ≤ (j : Int) := by omega
      have hle : (s.size : Int) ≤ (j : Int) := by have := HS.out; omega
      have hbe : ((j : Int) == (s.size : Int)) = true := by rw [beq_iff_eq]; have := HS.out; omega
      have HV : Hid (quickV true m [49] = .tuple #[.int .i64 (-(val m : Int)), .int .i64 1, .bool true]) := Lib.hid (quickV_yes hml (by simp))
      clear ht hje hlt
      go_wp2
      go_ret3
      exact ⟨ret_v HV.out, rfl⟩

set_option maxRecDepth 100000 in
set_option maxHeartbeats 4000000 in
theorem quick_slash1 (s : ByteArray) (m m2 : Bs) (hm : Seg s 1 m) (hm2 : Seg s (1 + m.length + 1) m2) (hs : s.size = 1 + m.length + 1 + m2.length) (h2 : 0 < m2.length) (hq : ∃ h : 1 + m.length < s.size, s[1 + m.length] = 47) (hmax : s.size ≤ 100000) (h0 : 0 < m.length) (hc : ∃ (h : 0 < s.size), s[0] = 45) (w : World) :
    Calls Tryz.prog 114 #[.string s] w (fun e w' => e = .returned (quickV true m m2) ∧ w = w') := by
  have hp : (0 : Int) < (s.size : Int) := by omega
  obtain ⟨hs0, e0⟩ := hc
  obtain ⟨c0, hc0⟩ : ∃ c0 : UInt8, c0 = 45 := ⟨_, rfl⟩
  rw [← hc0] at e0
  have hc : ((c0.toNat : Int) == 45) = true := (by rw [hc0]; rfl)
  clear hc0
  have HS := Lib.hid hs
  clear hs
  go_enter Tryz.func114, Tryz.ntmps114
  go_wp2
  clear hc e0 hp
  go_loop [2, 3, 5] (fun n z i => ∃ j : Nat, 1 ≤ j ∧ j ≤ 1 + m.length ∧ j ≤ 1 + 9 ∧ z = .int .i64 0 ∧ i = .int .i64 (j : Nat) ∧ n = .int .i64 (val (m.take (j - 1)) : Nat)) (fun _ _ i => s.size - (intOf i).toNat)
  case atStart => exact ⟨1, by omega, by omega, by omega, rfl, rfl, by simp [val_nil]⟩
  case round =>
    obtain ⟨j, hj0, hj1, hj9, rfl, rfl, rfl⟩ := hrel
    have hjs' : j ≤ s.size := by have := HS.out; omega
    by_cases hlt : j < 1 + m.length
    · by_cases h9 : j = 1 + 9
      · have hjs : j < s.size := by have := HS.out; omega
        obtain ⟨c, e, d, -⟩ := hm.digit hjs hj0 hlt
        have d1 := d.1
        have hc47 : ((c.toNat : Int) != 47) = true := by rw [bne_iff_ne]; omega
        have hb9 : (((j : Int) - 1) == 9) = true := by rw [beq_iff_eq]; omega
        have hlti : (j : Int) < (s.size : Int) := by omega
        have hj0i : (0 : Int) ≤ (j : Int) := by omega
        have HV : Hid (quickV true m m2 = .tuple #[.int .i64 0, .int .i64 0, .bool false]) := Lib.hid (quickV_no (.inl (by omega)))
        clear h9 d d1
        go_wp2
        go_ret3
        exact ⟨ret_v HV.out, rfl⟩
      · obtain ⟨c, v, hjs, e, d1, d2, hc47, hv, hv9, hn⟩ := hm.digit' hj0 hlt (by omega)
        have hb9 : (((j : Int) - 1) == 9) = false := by rw [beq_eq_false_iff_ne]; omega
        have hlti : (j : Int) < (s.size : Int) := by omega
        have hj0i : (0 : Int) ≤ (j : Int) := by omega
        rw [← hv]
        have HN := Lib.hid hn
        clear hv hn
        go_wp2
        go_round
        case rel => exact ⟨j + 1, by omega, by omega, by omega, rfl, by go_num, by rw [HN.out]⟩
        case measure => simp [intOf]; omega
    · have hje : j = 1 + m.length := by omega
      have ht : m.take (j - 1) = m := by rw [hje]; simp
      have hv9 : ((val m : Nat) : Int) ≤ 999999999 := by
        have h1 := val_lt hm.all
        have h2 : 10 ^ m.length ≤ 10 ^ 9 := Nat.pow_le_pow_right (by omega) (by omega)
        have h3 : (10 : Nat) ^ 9 = 1000000000 := by decide
        omega
      have hml : m.length ≤ 9 := by omega
      rw [ht]
      have hj0i : (0 : Int) ≤ (j : Int) := by omega
      have hjs : j < s.size := by have := HS.out; omega
      have hlti : (j : Int) < (s.size : Int) := by omega
      obtain ⟨c, hc⟩ : ∃ c : UInt8, c = 47 := ⟨_, rfl⟩
      have e : s[j] = c := by rw [hc]; obtain ⟨_, e⟩ := hq; simp only [hje]; exact e
      have hc47 : ((c.toNat : Int) != 47) = false := by rw [hc]; rfl
      have hbe : ((j : Int) == (s.size : Int)) = false := by rw [beq_eq_false_iff_ne]; omega
      have hsz : s.size = j + 1 + m2.length := by have := HS.out; omega
      have HS2 := Lib.hid hsz
      rw [← hje] at hm2
      have hjb : j ≤ 1 + 9 := hj9
      clear ht hje hlt hc hsz
      go_wp2
      clear hc47 e hbe
      go_loop [2, 3, 5] (fun z n i => ∃ k : Nat, j + 1 ≤ k ∧ k ≤ j + 1 + m2.length ∧ k ≤ j + 1 + 9 ∧ z = .int .i64 (-(val m : Int)) ∧ i = .int .i64 (k : Nat) ∧ n = .int .i64 (val (m2.take (k - (j + 1))) : Nat)) (fun _ _ i => s.size - (intOf i).toNat)
      case atStart => exact ⟨j + 1, by omega, by omega, by omega, rfl, by go_num, by simp [val_nil]⟩
      case round =>
        obtain ⟨k, hk0, hk1, hk9, rfl, rfl, rfl⟩ := hrel
        have hks' : k ≤ s.size := by have := HS2.out; omega
        by_cases hlt2 : k < j + 1 + m2.length
        · by_cases h9 : k = j + 1 + 9
          · have hks : k < s.size := by have := HS2.out; omega
            have hb9 : ((k : Int) - ((j : Int) + 1) == 9) = true := by rw [beq_iff_eq]; omega
            have hlti2 : (k : Int) < (s.size : Int) := by omega
            have hk0i : (0 : Int) ≤ (k : Int) := by omega
            have HV : Hid (quickV true m m2 = .tuple #[.int .i64 0, .int .i64 0, .bool false]) := Lib.hid (quickV_no (.inr (by omega)))
            clear h9
            go_wp2
            go_ret3
            exact ⟨ret_v HV.out, rfl⟩
          · obtain ⟨c, v, hks, e, d1, d2, hc47, hv, hv9', hn⟩ := hm2.digit' hk0 hlt2 (by omega)
            have hb9 : ((k : Int) - ((j : Int) + 1) == 9) = false := by rw [beq_eq_false_iff_ne]; omega
            have hlti2 : (k : Int) < (s.size : Int) := by omega
            have hk0i : (0 : Int) ≤ (k : Int) := by omega
            rw [← hv]
            have HN := Lib.hid hn
            clear hv hn hc47
            go_wp2
            go_round
            case rel => exact ⟨k + 1, by omega, by omega, by omega, rfl, by go_num, by rw [HN.out]⟩
            case measure => simp [intOf]; omega
        · have hke : k = j + 1 + m2.length := by omega
          have ht2 : m2.take (k - (j + 1)) = m2 := by rw [hke]; simp
          have HV : Hid (quickV true m m2 = .tuple #[.int .i64 (-(val m : Int)), .int .i64 (val m2 : Nat), .bool true]) := Lib.hid (quickV_yes hml (by omega))
          have hle : (s.size : Int) ≤ (k : Int) := by have := HS2.out; omega
          rw [ht2]
          clear ht2 hke hlt2
          go_wp2
          go_ret3
          exact ⟨ret_v HV.out, rfl⟩
end Go.Proofs.YtblijhokcjpeeaaGreatDoor
namespace Go.Proofs.YtblijhokcjpeeaaGreatDoor
open Go.RowKit Kl

theorem bs_get (l : Bs) (j : Nat) (h : j < (⟨l.toArray⟩ : ByteArray).size) : (⟨l.toArray⟩ : ByteArray)[j] = l.getD j 0 := by
  have h' : j < l.length := by simpa [ByteArray.size] using h
  rw [ByteArray.getElem_eq_getElem_data]
  simp [List.getD, h']
theorem bs_size (l : Bs) : (⟨l.toArray⟩ : ByteArray).size = l.length := by simp [ByteArray.size]
theorem seg_mk (pre m suf : Bs) (hm : AllD m) : Seg ⟨(pre ++ m ++ suf).toArray⟩ pre.length m :=
  ⟨by rw [bs_size]; simp, hm, fun j h h1 h2 => by
    rw [bs_get]
    simp only [List.getD_eq_getElem?_getD]
    rw [List.append_assoc, List.getElem?_append_right h1, List.getElem?_append_left (by omega)]⟩
theorem quickR_V (q : Rat) : quickR q = quickV (decide (q < 0)) (D q.num.natAbs) (D q.den) := by
  unfold quickR quickV
  split
  · rw [val_D, val_D]
    by_cases h : q < 0
    · have := num_neg_iff.2 h
      simp only [h, decide_true, if_true]
      congr 4; omega
    · have : ¬ q.num < 0 := fun k => h (num_neg_iff.1 k)
      simp only [h, decide_false, Bool.false_eq_true, if_false]
      congr 4; omega
  · rfl
theorem D_one : D 1 = [49] := by rw [D_small (by omega)]; rfl
theorem I_abs {z : Int} : (z < 0 → I z = 45 :: D z.natAbs) ∧ (¬ z < 0 → I z = D z.natAbs) := by
  constructor
  · intro h
    rcases I_cases z with ⟨n, rfl, e⟩ | ⟨n, hn, rfl, e⟩
    · omega
    · rw [e]; simp
  · intro h
    rcases I_cases z with ⟨n, rfl, e⟩ | ⟨n, hn, rfl, e⟩
    · rw [e]; simp
    · omega
theorem rQuick_c (q : Rat) (hl : (R q).length ≤ 100000) (w : World) : Calls Tryz.prog 114 #[S (R q)] w (fun e w' => e = .returned (quickR q) ∧ w = w') := by
  rw [quickR_V]
  have hp := D_length_pos q.num.natAbs
  have hp2 := D_length_pos q.den
  by_cases hd : q.den = 1
  · rw [R_whole hd] at hl ⊢
    rw [hd, D_one]
    by_cases hn : q.num < 0
    · rw [I_abs.1 hn] at hl ⊢
      rw [decide_eq_true (num_neg_iff.1 hn)]
      have h := seg_mk [45] (D q.num.natAbs) [] (allD_D _)
      simp only [List.append_nil, List.singleton_append, List.length_singleton] at h
      exact quick_whole1 _ _ h (by rw [bs_size]; simp; omega) (by rw [bs_size]; exact hl) hp ⟨by rw [bs_size]; simp, rfl⟩ w
    · rw [I_abs.2 hn] at hl ⊢
      rw [decide_eq_false (fun k => hn (num_neg_iff.2 k))]
      have h := seg_mk [] (D q.num.natAbs) [] (allD_D _)
      simp only [List.append_nil, List.nil_append, List.length_nil] at h
      exact quick_whole0 _ _ h (by rw [bs_size]; simp) (by rw [bs_size]; exact hl) hp w
  · rw [R_frac hd] at hl ⊢
    by_cases hn : q.num < 0
    · rw [I_abs.1 hn] at hl ⊢
      rw [decide_eq_true (num_neg_iff.1 hn)]
      have h := seg_mk [45] (D q.num.natAbs) (47 :: D q.den) (allD_D _)
      have h2 := seg_mk (45 :: D q.num.natAbs ++ [47]) (D q.den) [] (allD_D _)
      simp only [List.append_nil, List.length_singleton, List.append_assoc, List.cons_append] at h h2
      rw [show (45 :: (D q.num.natAbs ++ [47])).length = 1 + (D q.num.natAbs).length + 1 by simp; omega] at h2
      exact quick_slash1 _ _ _ h h2 (by rw [bs_size]; simp; omega) hp2 ⟨by rw [bs_size]; simp; omega, by rw [bs_get]; simp [List.getD, Nat.add_comm 1]⟩ (by rw [bs_size]; exact hl) hp ⟨by rw [bs_size]; simp, rfl⟩ w
    · rw [I_abs.2 hn] at hl ⊢
      rw [decide_eq_false (fun k => hn (num_neg_iff.2 k))]
      have h := seg_mk [] (D q.num.natAbs) (47 :: D q.den) (allD_D _)
      have h2 := seg_mk (D q.num.natAbs ++ [47]) (D q.den) [] (allD_D _)
      simp only [List.append_nil, List.nil_append, List.length_nil, List.append_assoc, List.cons_append] at h h2
      rw [show List.length (D q.num.natAbs ++ [(47 : UInt8)]) = 0 + (D q.num.natAbs).length + 1 by simp] at h2
      exact quick_slash0 _ _ _ h h2 (by rw [bs_size]; simp; omega) hp2 ⟨by rw [bs_size]; simp, by rw [bs_get]; simp [List.getD]⟩ (by rw [bs_size]; exact hl) hp w
end Go.Proofs.YtblijhokcjpeeaaGreatDoor
