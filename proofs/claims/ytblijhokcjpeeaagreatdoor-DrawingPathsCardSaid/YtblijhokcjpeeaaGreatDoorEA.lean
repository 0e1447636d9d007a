/- The reference of layer 1: less, carry. -/
import Derived.Test.YtblijhokcjpeeaaGreatDoorMB
import Derived.Test.YtblijhokcjpeeaaGreatDoorMC
import Derived.OneCell
import Derived.Deep.RegionHeld3
import Derived.Deep.RegionLaw
import Derived.Test.YtblijhokcjpeeaaGreatDoorMD
/- Plain facts on rows of ints: carries, sums, products, quotients in pieces of four digits. -/
namespace Go.Proofs.YtblijhokcjpeeaaGreatDoor
open Go.RowKit Kl

def az (l : List Int) (i : Nat) : Int := l.getD i 0
def zs (l : List Int) : List Value := l.map fun x => .int .i64 x
def zn (l : List Nat) : List Int := l.map fun (x : Nat) => (x : Int)
theorem zn_length (l : List Nat) : (zn l).length = l.length := by simp [zn]
theorem zs_length (l : List Int) : (zs l).length = l.length := by simp [zs]
theorem az_zn (l : List Nat) (i : Nat) : az (zn l) i = (at0 l i : Nat) := by
  unfold az zn at0
  rw [List.getD_eq_getElem?_getD, List.getD_eq_getElem?_getD, List.getElem?_map]
  cases l[i]? <;> rfl
theorem zs_get {l : List Int} {j : Nat} (h : j < l.length) : (zs l)[j]? = some (.int .i64 (az l j)) := by
  unfold zs az
  rw [List.getElem?_map, List.getD_eq_getElem?_getD, List.getElem?_eq_getElem h]; rfl
theorem zn_append (l m : List Nat) : zn (l ++ m) = zn l ++ zn m := by simp [zn]
theorem zs_append (l m : List Int) : zs (l ++ m) = zs l ++ zs m := by simp [zs]
theorem zs_set (l : List Int) (j : Nat) (y : Int) : (zs l).set j (.int .i64 y) = zs (l.set j y) := by simp [zs, List.map_set]
theorem zn_set (l : List Nat) (j y : Nat) : (zn l).set j (y : Int) = zn (l.set j y) := by simp [zn, List.map_set]
theorem zn_take (l : List Nat) (k : Nat) : (zn l).take k = zn (l.take k) := by simp [zn, List.map_take]

def ofZ : List Int → Int
  | [] => 0
  | x :: l => x + 10000 * ofZ l
theorem ofZ_zn : ∀ l : List Nat, ofZ (zn l) = (ofL 10000 l : Nat)
  | [] => rfl
  | x :: l => by
    have e : zn (x :: l) = (x : Int) :: zn l := rfl
    rw [e, ofZ, ofL, ofZ_zn l]; omega
theorem ofZ_append (l m : List Int) : ofZ (l ++ m) = ofZ l + 10000 ^ l.length * ofZ m := by
  induction l with
  | nil => simp [ofZ]
  | cons x l ih =>
    simp only [List.cons_append, ofZ, ih, List.length_cons, Int.pow_succ, Int.mul_add]
    rw [Int.mul_comm ((10000 : Int) ^ l.length) 10000, Int.mul_assoc]; omega
theorem ofZ_snoc (l : List Int) (x : Int) : ofZ (l ++ [x]) = ofZ l + 10000 ^ l.length * x := by rw [ofZ_append]; simp [ofZ]
theorem ofZ_set : ∀ {l : List Int} {j : Nat} (y : Int), j < l.length → ofZ (l.set j y) = ofZ l + 10000 ^ j * (y - az l j)
  | x :: l, 0, y, _ => by simp [ofZ, az]; omega
  | x :: l, j + 1, y, h => by
    have ih := ofZ_set (l := l) (j := j) y (by simpa using h)
    have e : az (x :: l) (j + 1) = az l j := by simp [az]
    rw [List.set_cons_succ, ofZ, ofZ, ih, e, Int.mul_add, Int.pow_succ, Int.mul_comm ((10000 : Int) ^ j) 10000, Int.mul_assoc]; omega
theorem take_az {l : List Int} {k : Nat} (h : k < l.length) : l.take (k + 1) = l.take k ++ [az l k] := by
  rw [List.take_succ_eq_append_getElem h]; simp [az, h]
theorem pow_castI (n : Nat) : ((10000 : Int) ^ n) = ((10000 ^ n : Nat) : Int) := by simp


theorem ofL_nn {l : List Nat} : (0 : Int) ≤ (ofL 10000 l : Nat) := by omega

/-! ### carry -/
/-- The bound of the numbers that are carried. -/
def cB : Int := 1000000000000000
structure CarInv (l : List Int) (i : Nat) (out : List Nat) (over : Int) : Prop where
  len : out.length = i
  lt : ∀ x ∈ out, x < 10000
  lo : -1000000000000000 ≤ over
  hi : over ≤ 1000000000000000
  sum : (ofL 10000 out : Int) + 10000 ^ i * over = ofZ (l.take i)
theorem CarInv.start (l : List Int) : CarInv l 0 [] 0 := ⟨rfl, by simp, by omega, by omega, by simp [ofL, ofZ]⟩
theorem CarInv.step {l : List Int} {i : Nat} {out : List Nat} {over x s : Int} {n : Nat} (h : CarInv l i out over) (hx : x = if i < l.length then az l i else 0) (hs : s = over + x) (hb1 : -1000000000000000 ≤ x) (hb2 : x ≤ 1000000000000000) (hn : (n : Int) = s % 10000) :
    CarInv l (i + 1) (out ++ [n]) ((s - n) / 10000) := by
  have hl := h.lo
  have hh := h.hi
  refine ⟨by rw [List.length_append, h.len]; rfl, ?_, by omega, by omega, ?_⟩
  · intro y hy
    rcases List.mem_append.1 hy with hy | hy
    · exact h.lt y hy
    · simp at hy; subst hy; omega
  · have e1 : ofZ (l.take (i + 1)) = ofZ (l.take i) + 10000 ^ i * x := by
      by_cases hi : i < l.length
      · rw [if_pos hi] at hx
        rw [take_az hi, ofZ_snoc, List.length_take, Nat.min_eq_left (by omega), hx]
      · rw [if_neg hi] at hx
        rw [List.take_of_length_le (by omega), List.take_of_length_le (by omega), hx]; simp
    have hsum := h.sum
    rw [e1, ← hsum, ofL_snoc, h.len, Int.pow_succ]
    have e2 : s = n + 10000 * ((s - n) / 10000) := by omega
    rw [Int.natCast_add, Int.natCast_mul, ← pow_castI, Int.mul_assoc, Int.add_assoc, Int.add_assoc, ← Int.mul_add, ← Int.mul_add, ← hs, ← e2]
/-- Behind the last piece what is carried is not negative. -/
theorem CarInv.nonneg {l : List Int} {i : Nat} {out : List Nat} {over : Int} (h : CarInv l i out over) (hi : l.length ≤ i) (h0 : 0 ≤ ofZ l) : 0 ≤ over := by
  have hs := h.sum
  rw [List.take_of_length_le hi] at hs
  have h1 := ofL_lt h.lt
  rw [h.len] at h1
  rcases Int.lt_or_le over 0 with hn | hn
  · exfalso
    have h2 : (10000 : Int) ^ i * over ≤ 10000 ^ i * (-1) := Int.mul_le_mul_of_nonneg_left (by omega) (by rw [pow_castI]; exact Int.natCast_nonneg _)
    have h3 := pow_castI i
    omega
  · exact hn
theorem CarInv.room {l : List Int} {i M : Nat} {out : List Nat} {over : Int} (h : CarInv l i out over) (hi : l.length ≤ i) (hp : 0 < over) (hM : ofZ l < 10000 ^ M) : i < M := by
  have hs := h.sum
  rw [List.take_of_length_le hi] at hs
  have h2 : (10000 : Int) ^ i * 1 ≤ 10000 ^ i * over := Int.mul_le_mul_of_nonneg_left (by omega) (by rw [pow_castI]; exact Int.natCast_nonneg _)
  have h5 : ((10000 ^ i : Nat) : Int) < ((10000 ^ M : Nat) : Int) := by
    rw [← pow_castI, ← pow_castI]
    generalize (10000 : Int) ^ i = P at *
    generalize (10000 : Int) ^ M = R at *
    generalize P * over = T at *
    omega
  exact (Nat.pow_lt_pow_iff_right (by omega)).1 (Int.ofNat_lt.1 h5)
theorem CarInv.done {l : List Int} {i N : Nat} {out : List Nat} (h : CarInv l i out 0) (hi : l.length ≤ i) (hN : ofZ l = (N : Int)) : ofL 10000 out = N := by
  have hs := h.sum
  rw [List.take_of_length_le hi] at hs
  simp at hs; omega

/-! ### joined -/
structure JoinInv (p q : List Nat) (k : Int) (i : Nat) (out : List Int) : Prop where
  le : i ≤ q.length
  len : i ≤ out.length
  len2 : out.length ≤ p.length + i + 1
  bd : ∀ j, -100000000 * (10000 : Int) ≤ az out j ∧ az out j ≤ 100000000 * 10000
  bd2 : ∀ j, i ≤ j → 0 ≤ az out j ∧ az out j < 10000
  sum : ofZ out = (ofL 10000 p : Int) + k * (ofL 10000 (q.take i) : Nat)
theorem az_ge {l : List Int} {j : Nat} (h : l.length ≤ j) : az l j = 0 := by unfold az; rw [List.getD_eq_getElem?_getD, List.getElem?_eq_none h]; rfl
theorem az_zn_bd {p : List Nat} (hp : ∀ x ∈ p, x < 10000) (j : Nat) : 0 ≤ az (zn p) j ∧ az (zn p) j < 10000 := by
  by_cases h : j < p.length
  · rw [az_zn]; have := at0_lt hp h; omega
  · rw [az_ge (by rw [zn_length]; omega)]; omega
theorem JoinInv.start {p : List Nat} (hp : ∀ x ∈ p, x < 10000) (q : List Nat) (k : Int) : JoinInv p q k 0 (zn p) :=
  ⟨by omega, by omega, by rw [zn_length]; omega, fun j => by have := az_zn_bd hp j; omega, fun j _ => az_zn_bd hp j, by rw [ofZ_zn]; simp [ofL]⟩
theorem az_snoc0 (l : List Int) (j : Nat) : az (l ++ [0]) j = az l j := by
  unfold az
  rw [List.getD_eq_getElem?_getD, List.getD_eq_getElem?_getD]
  rcases Nat.lt_trichotomy j l.length with h | h | h
  · rw [List.getElem?_append_left h]
  · subst h; rw [List.getElem?_append_right (by omega), List.getElem?_eq_none (Nat.le_refl _)]; simp
  · rw [List.getElem?_eq_none (by simp; omega), List.getElem?_eq_none (by omega)]
theorem JoinInv.grow {p q : List Nat} {k : Int} {i : Nat} {out : List Int} (h : JoinInv p q k i out) (hl : out.length ≤ i) : JoinInv p q k i (out ++ [0]) :=
  ⟨h.le, by have := h.len; simp; omega, by have := h.len; have := h.len2; simp at *; omega, fun j => by rw [az_snoc0]; exact h.bd j, fun j hj => by rw [az_snoc0]; exact h.bd2 j hj, by rw [ofZ_snoc, h.sum]; simp⟩
theorem az_set {l : List Int} {i : Nat} (y : Int) (hi : i < l.length) (j : Nat) : az (l.set i y) j = if j = i then y else az l j := by
  unfold az
  rw [List.getD_eq_getElem?_getD, List.getD_eq_getElem?_getD]
  by_cases h : j = i
  · subst h; rw [if_pos rfl, List.getElem?_set_self hi]; rfl
  · rw [if_neg h, List.getElem?_set_ne (by omega)]
theorem mul_bd {k : Int} {x : Nat} (h1 : -10000 ≤ k) (h2 : k ≤ 10000) (hx : x < 10000) : -100000000 ≤ k * (x : Int) ∧ k * (x : Int) ≤ 100000000 := by
  have a1 : (-10000 : Int) * x ≤ k * x := Int.mul_le_mul_of_nonneg_right h1 (by omega)
  have a2 : k * x ≤ (10000 : Int) * x := Int.mul_le_mul_of_nonneg_right h2 (by omega)
  omega
theorem JoinInv.step {p q : List Nat} {k : Int} {i : Nat} {out : List Int} (h : JoinInv p q k i out) (hi : i < q.length) (hl : i < out.length) (hq : ∀ x ∈ q, x < 10000) (h1 : -10000 ≤ k) (h2 : k ≤ 10000) :
    JoinInv p q k (i + 1) (out.set i (az out i + k * (at0 q i : Nat))) := by
  have hm := mul_bd h1 h2 (at0_lt hq hi)
  refine ⟨hi, by rw [List.length_set]; omega, by have := h.len2; rw [List.length_set]; omega, fun j => ?_, fun j hj => ?_, ?_⟩
  · rw [az_set _ hl]
    split
    · have := h.bd2 i (Nat.le_refl _); omega
    · exact h.bd j
  · rw [az_set _ hl, if_neg (by omega)]; exact h.bd2 j (by omega)
  · rw [ofZ_set _ hl, h.sum, take_at0 hi, ofL_snoc, List.length_take, Nat.min_eq_left (by omega), Int.natCast_add, Int.natCast_mul, ← pow_castI, Int.mul_add]
    have e : az out i + k * (at0 q i : Nat) - az out i = k * (at0 q i : Nat) := by omega
    rw [e, Int.mul_left_comm, Int.add_assoc]
theorem JoinInv.done {p q : List Nat} {k : Int} {out : List Int} (h : JoinInv p q k q.length out) : ofZ out = (ofL 10000 p : Int) + k * (ofL 10000 q : Nat) ∧ (∀ x ∈ out, -1000000000000000 ≤ x ∧ x ≤ 1000000000000000) ∧ out.length ≤ p.length + q.length + 1 := by
  refine ⟨by rw [h.sum, List.take_length], fun x hx => ?_, h.len2⟩
  obtain ⟨j, hj, rfl⟩ := List.getElem_of_mem hx
  have := h.bd j
  have e : az out j = out[j] := by unfold az; rw [List.getD_eq_getElem?_getD, List.getElem?_eq_getElem hj]; rfl
  rw [e] at this
  omega

/-! ### times -/
structure TimI (n i k x : Nat) (q out : List Nat) (v : Nat) : Prop where
  le : k ≤ q.length
  len : out.length = n
  bd : ∀ j, at0 out j ≤ (if j < i + k then i + 1 else i) * 100000000
  sum : ofL 10000 out = v + 10000 ^ i * (x * ofL 10000 (q.take k))
theorem at0_set {l : List Nat} {i : Nat} (y : Nat) (hi : i < l.length) (j : Nat) : at0 (l.set i y) j = if j = i then y else at0 l j := by
  unfold at0
  rw [List.getD_eq_getElem?_getD, List.getD_eq_getElem?_getD]
  by_cases h : j = i
  · subst h; rw [if_pos rfl, List.getElem?_set_self hi]; rfl
  · rw [if_neg h, List.getElem?_set_ne (by omega)]
theorem TimI.step {n i k x v : Nat} {q out : List Nat} (h : TimI n i k x q out v) (hk : k < q.length) (hn : i + k < n) (hx : x < 10000) (hq : ∀ y ∈ q, y < 10000) :
    TimI n i (k + 1) x q (out.set (i + k) (at0 out (i + k) + x * at0 q k)) v := by
  have hl := h.len
  have hy := at0_lt hq hk
  have hm : x * at0 q k ≤ 100000000 := Nat.le_trans (Nat.mul_le_mul (Nat.le_of_lt hx) (Nat.le_of_lt hy)) (by omega)
  refine ⟨hk, by rw [List.length_set]; exact hl, fun j => ?_, ?_⟩
  · rw [at0_set _ (by omega)]
    have h1 := h.bd j
    split
    · subst j
      rw [if_neg (by omega)] at h1
      rw [if_pos (by omega)]; omega
    · by_cases hj : j < i + k
      · rw [if_pos hj] at h1
        rw [if_pos (by omega)]; exact h1
      · rw [if_neg hj] at h1
        rw [if_neg (by omega)]; exact h1
  · have hs := ofL_set (b := 10000) (l := out) (j := i + k) (at0 out (i + k) + x * at0 q k) (by omega)
    have h2 := h.sum
    rw [take_at0 hk, ofL_snoc, List.length_take, Nat.min_eq_left (by omega), Nat.mul_add x, Nat.mul_add (10000 ^ i)]
    have e : 10000 ^ i * (x * (10000 ^ k * at0 q k)) = 10000 ^ (i + k) * (x * at0 q k) := by
      rw [Nat.pow_add, Nat.mul_left_comm x, Nat.mul_assoc]
    rw [e]
    rw [Nat.mul_add] at hs
    omega
theorem TimI.next {n i x v : Nat} {p q out : List Nat} (h : TimI n i q.length x q out v) (hx : x = at0 p i) (hi : i < p.length) (hv : v = ofL 10000 (p.take i) * ofL 10000 q) (y : Nat) :
    TimI n (i + 1) 0 y q out (ofL 10000 (p.take (i + 1)) * ofL 10000 q) := by
  refine ⟨by omega, h.len, fun j => ?_, ?_⟩
  · have h1 := h.bd j
    refine Nat.le_trans h1 (Nat.mul_le_mul_right _ ?_)
    by_cases a : j < i + q.length
    · rw [if_pos a]; by_cases b : j < i + 1 + 0
      · rw [if_pos b]; omega
      · rw [if_neg b]; omega
    · rw [if_neg a]; by_cases b : j < i + 1 + 0
      · rw [if_pos b]; omega
      · rw [if_neg b]; omega
  · rw [h.sum, List.take_length, hv, hx, take_at0 hi, ofL_snoc, List.length_take, Nat.min_eq_left (by omega), Nat.add_mul]
    simp [ofL, Nat.mul_assoc]

/-! ### parts: one digit of a quotient -/
theorem quot_step (X p q B : Nat) (hq : 0 < q) : (B * X + p) / q = B * (X / q) + (B * (X % q) + p) / q ∧ (B * X + p) % q = (B * (X % q) + p) % q := by
  have h := Nat.div_add_mod X q
  have e : B * X + p = (B * (X % q) + p) + q * (B * (X / q)) := by
    conv => lhs; rw [← h, Nat.mul_add, Nat.mul_left_comm]
    omega
  constructor
  · conv => lhs; rw [e]
    rw [Nat.add_mul_div_left _ _ hq]; omega
  · conv => lhs; rw [e]
    rw [Nat.add_mul_mod_self_left]
theorem digit_lt {R p q B : Nat} (hq : 0 < q) (hR : R < q) (hp : p < B) : (B * R + p) / q < B := by
  rw [Nat.div_lt_iff_lt_mul hq]
  calc B * R + p < B * R + B := by omega
    _ = B * (R + 1) := by rw [Nat.mul_add]; simp
    _ ≤ B * q := Nat.mul_le_mul_left _ hR
end Go.Proofs.YtblijhokcjpeeaaGreatDoor
/- The reference of layer 1: magnitudes as rows of ints: plain words and memory. -/
namespace Go.Proofs.YtblijhokcjpeeaaGreatDoor
open Go.RowKit Kl

theorem cell_of_blkZ {W : World} {b o : Nat} {cs : Array Value} {t : TypeId} {fz : Nat × Nat} {v : Value} (h : W.heap[b]? = some (.cells cs t fz)) (hv : cs[o]? = some v) : W.cell? ⟨b, o, none⟩ = some v := by
  unfold World.cell?
  simp [h, hv]
theorem run_append_noneZ {P : Program} (w : World) (base : Nat) (t ty e : TypeId) (i : TypeInfo) (size : Nat) (ht : P.underlying t = some (.slice e)) (hi : P.info? e = some i)
    (v : Value) (n c : Nat) (xs : List Value) (hown : w.ownsRow base e size v n xs) :
    (Builtin.append_ #[t, t] ty #[v, .slice none 0 c]).run P w = .ok v w := by
  rcases hown.2 with ⟨rfl, rfl⟩ | ⟨g, cap, cur, rfl, _, _, hnc, _⟩
  · simp [Builtin.append_, run_underlying ht, sizeOf, typeInfo, hi, Builtin.lenOf, Builtin.firstCells]
  · simp [Builtin.append_, run_underlying ht, sizeOf, typeInfo, hi, Builtin.lenOf, Builtin.firstCells, hnc, storeCells]
/-- v reads as the ints l in w. -/
structure RdZ (w : World) (A : Option Addr) (c : Nat) (l : List Int) : Prop where
  cap : l.length ≤ c
  max : c ≤ 9223372036854775807
  len : l.length ≤ 100000
  ad : 0 < l.length → ∃ b o, A = some ⟨b, o, none⟩ ∧ ∀ j, j < l.length → w.cell? ⟨b, o + j, none⟩ = some (.int .i64 (az l j))
def RZ (w : World) (v : Value) (l : List Int) : Prop := ∃ A c, v = .slice A l.length c ∧ RdZ w A c l
theorem RdZ.ext {w w' : World} {A : Option Addr} {c : Nat} {l : List Int} (h : RdZ w A c l) (hx : Ext w w') : RdZ w' A c l :=
  ⟨h.cap, h.max, h.len, fun h0 => by
    obtain ⟨b, o, e, hc⟩ := h.ad h0
    exact ⟨b, o, e, fun j hj => hx.cellS (hc j hj)⟩⟩
theorem RZ.ext {w w' : World} {v : Value} {l : List Int} (h : RZ w v l) (hx : Ext w w') : RZ w' v l := by
  obtain ⟨A, c, e, h⟩ := h
  exact ⟨A, c, e, h.ext hx⟩
theorem RZ.nil (w : World) : RZ w (.slice none 0 0) (zn []) := ⟨none, 0, rfl, by simp [zn], by omega, by simp [zn], fun h => by simp [zn] at h⟩
theorem RZ.of_own {w : World} {base : Nat} {e : TypeId} {v : Value} {n : Nat} {l : List Int} (h : w.ownsRow base e 1 v n (zs l)) (hn : n = l.length) (hl : l.length ≤ 100000) : RZ w v l := by
  subst hn
  rcases h.2 with ⟨rfl, h0⟩ | ⟨g, cap, cur, rfl, _, _, hn, hm, _, _⟩
  · exact ⟨none, 0, by rw [h0], by omega, by omega, hl, fun h => by omega⟩
  · refine ⟨some ⟨g, 0, none⟩, cap, rfl, hn, hm, hl, fun _ => ⟨g, 0, rfl, fun j hj => ?_⟩⟩
    have := h.cells (g := g) rfl j _ (zs_get hj)
    rwa [Addr.add_lit] at this
theorem RZ.lit (w : World) (l : List Int) (t : TypeId) (hl : l.length ≤ 100000) : RZ (w.alloc (.cells (zs l).toArray t)) (.slice (some ⟨w.heap.size, 0, none⟩) l.length l.length) l :=
  ⟨some ⟨w.heap.size, 0, none⟩, l.length, rfl, Nat.le_refl _, by omega, hl, fun _ => ⟨w.heap.size, 0, rfl, fun j hj => by
    refine cell_of_blkZ (heap_alloc_new w _) ?_
    rw [Nat.zero_add, ← Array.getElem?_toList]
    exact zs_get hj⟩⟩
theorem RdZ.take {w : World} {A : Option Addr} {c : Nat} {l : List Int} (h : RdZ w A c l) {k : Nat} (hk : k ≤ l.length) : RZ w (.slice A k c) (l.take k) := by
  have e : (l.take k).length = k := by rw [List.length_take]; omega
  refine ⟨A, c, by rw [e], by have := h.cap; omega, h.max, by have := h.len; omega, fun h0 => ?_⟩
  obtain ⟨b, o, e1, hc⟩ := h.ad (by omega)
  refine ⟨b, o, e1, fun j hj => ?_⟩
  have : az (l.take k) j = az l j := by
    rw [e] at hj
    simp [az, hj]
  rw [this]
  exact hc j (by omega)
theorem Tryz.infoI : (Tryz.prog.info? 3).map (fun i => (i.zero, i.size, i.bytes)) = some (some (.int .i64 0), 1, 8) := by kernel_rfl
/-- A magnitude is returned: pieces of four digits. -/
def RetP (n : Nat) (w : World) (e : Ending) (w' : World) : Prop := ∃ v, e = .returned v ∧ RZ w' v (zn (pc 10000 n)) ∧ Ext w w'
/-- make([]int, n). -/
theorem mk_intn (n : Nat) (hn : n ≤ 200000) (c : Int) (hc : c = (n : Int)) (W : World) :
    (Instr.makeSlice 178 (.int .i64 c) (.int .i64 c)).run Tryz.prog W = .ok (.slice (some ⟨W.heap.size, 0, none⟩) n n) (W.alloc (.cells (madeCells #[.int .i64 0] n) 3)) := by
  subst hc
  obtain ⟨i0, hi, hz0, hz1, hz2⟩ := info_parts Tryz.infoI
  have h := run_make (P := Tryz.prog) W 178 3 i0 (.int .i64 0) Tryz.underlying178 hi hz0 .i64 .i64 n n (by omega) (by omega) (by rw [hz2]; omega) (by omega)
  rw [hz1, Nat.mul_one] at h
  simp only [Int.toNat_natCast] at h
  exact h
theorem own_intn (W : World) (base n : Nat) (hb : base ≤ W.heap.size) (hn : n ≤ 200000) :
    (W.alloc (.cells (madeCells #[.int .i64 0] n) 3)).ownsRow base 3 1 (.slice (some ⟨W.heap.size, 0, none⟩) n n) n (zs (zn (List.replicate n 0))) := by
  have h := World.ownsRow_lit (w := W) (base := base) (e := 3) (size := 1) (madeCells #[.int .i64 0] n) n hb (by unfold maxLen; omega) (by rw [size_madeCells]; omega)
  rw [toList_madeCells_one] at h
  simpa [zs, zn] using h
theorem own_lit (W : World) (base : Nat) (l : List Int) (hb : base ≤ W.heap.size) (hn : l.length ≤ 200000) :
    (W.alloc (.cells (zs l).toArray 3)).ownsRow base 3 1 (.slice (some ⟨W.heap.size, 0, none⟩) l.length l.length) l.length (zs l) := by
  have h := World.ownsRow_lit (w := W) (base := base) (e := 3) (size := 1) (zs l).toArray l.length hb (by unfold maxLen; omega) (by simp [zs])
  simpa using h
section
variable {ops : Array Oper} {rest : List Oper} {o : Oper} {a : Act} {Q : Exit → Act → World → Prop}
theorem wp_appZ1 {K : Act → World → Prop} (s x : Operand) (ho : o.op = .call { callee := .builtin .append, args := #[s, x], argTypes := #[178, 178] })
    (wr : World) (base : Nat) (v : Value) (n : Nat) (xs : List Int) (hs : a.eval s = v) (hown : wr.ownsRow base 3 1 v n (zs xs)) (hn : n < 200000) (z : Int) (y : Int) (hz : z = y)
    (hx : a.eval x = .slice (some ⟨wr.heap.size, 0, none⟩) 1 1) (hbase : base ≤ wr.heap.size)
    (h : ∀ v' w', w'.ownsRow base 3 1 v' (n + 1) (zs (xs ++ [y])) → (∀ w0, Ext w0 wr → w0.heap.size ≤ base → Ext w0 w') → K (a.put o.dst v') w') :
    o.wp Tryz.prog a (wr.alloc (.cells #[.int .i64 z] 3)) K Q := by
  obtain ⟨i0, hi, hz0, hz1, hz2⟩ := info_parts Tryz.infoI
  subst hz
  refine wp_append_own _ s x 178 ho base 3 i0 (.int .i64 0) 1 8 Tryz.underlying178 hi hz0 hz1 hz2 rfl (by omega) v n (zs xs) hs (hown.alloc _) ⟨wr.heap.size, 0, none⟩ 1 1 [.int .i64 z] hx rfl ?_ ?_ ?_ ?_ ?_ ?_
  · intro j u hu
    match j, hu with
    | 0, hu =>
      simp only [List.getElem?_cons_zero, Option.some.injEq] at hu
      subst hu
      rw [Addr.add_lit, World.cell?_alloc_at _ _ _ _ (by simp)]
      rfl
    | j + 1, hu => simp at hu
  · intro u hu
    simp only [List.mem_singleton] at hu
    subst hu; rfl
  · unfold maxLen; omega
  · omega
  · simp; omega
  · intro v' w' h2 h3 _
    refine h v' w' (by simpa [zs] using h2) fun w0 he hb => ?_
    exact (he.alloc _).grownOwn h3 (hown.alloc _) hb
/-- append of one int, which lies in a block of its own. -/
theorem appZ1 (hgd : o.guard = none) (s x : Operand) (ho : o.op = .call { callee := .builtin .append, args := #[s, x], argTypes := #[178, 178] })
    (wr : World) (base : Nat) (v : Value) (n : Nat) (xs : List Int) (hs : a.eval s = v) (hown : wr.ownsRow base 3 1 v n (zs xs)) (hn : n < 200000) (z : Int) (y : Int) (hz : z = y)
    (hx : a.eval x = .slice (some ⟨wr.heap.size, 0, none⟩) 1 1) (hbase : base ≤ wr.heap.size)
    (h : ∀ v' w', w'.ownsRow base 3 1 v' (n + 1) (zs (xs ++ [y])) → (∀ w0, Ext w0 wr → w0.heap.size ≤ base → Ext w0 w') → wpList Tryz.prog ops Q rest (a.put o.dst v') w') :
    wpList Tryz.prog ops Q (o :: rest) a (wr.alloc (.cells #[.int .i64 z] 3)) :=
  wpList_plain hgd fun _ hK => wp_appZ1 s x ho wr base v n xs hs hown hn z y hz hx hbase fun v' w' h2 h3 => hK _ _ (h v' w' h2 h3)
/-- The same in a region that draws its order. -/
theorem step_appZ1 {K : Act → World → Prop} {E : Prop} (hgd : o.guard = none) (s x : Operand) (ho : o.op = .call { callee := .builtin .append, args := #[s, x], argTypes := #[178, 178] })
    (wr : World) (base : Nat) (v : Value) (n : Nat) (xs : List Int) (hs : a.eval s = v) (hown : wr.ownsRow base 3 1 v n (zs xs)) (hn : n < 200000) (z : Int) (y : Int) (hz : z = y)
    (hx : a.eval x = .slice (some ⟨wr.heap.size, 0, none⟩) 1 1) (hbase : base ≤ wr.heap.size)
    (h : ∀ v' w', w'.ownsRow base 3 1 v' (n + 1) (zs (xs ++ [y])) → (∀ w0, Ext w0 wr → w0.heap.size ≤ base → Ext w0 w') → K (a.put o.dst v') w') :
    if Region.wanted o (yielded ops a.tmps) = true then Oper.wp Tryz.prog o a (wr.alloc (.cells #[.int .i64 z] 3)) K Q else E := by
  have hw : Region.wanted o (yielded ops a.tmps) = true := by simp [Region.wanted, hgd]
  rw [if_pos hw]
  exact wp_appZ1 s x ho wr base v n xs hs hown hn z y hz hx hbase h
/-- append of a list of ints that can be read. -/
theorem applZ (hgd : o.guard = none) (s x : Operand) (ho : o.op = .call { callee := .builtin .append, args := #[s, x], argTypes := #[178, 178] })
    (wr : World) (base : Nat) (v : Value) (n : Nat) (xs : List Int) (hs : a.eval s = v) (hown : wr.ownsRow base 3 1 v n (zs xs)) (l : List Int) (vx : Value) (hx : a.eval x = vx) (hr : RZ wr vx l) (hn : n + l.length < 200000) (hbase : base ≤ wr.heap.size)
    (h : ∀ v' w', w'.ownsRow base 3 1 v' (n + l.length) (zs (xs ++ l)) → (∀ w0, Ext w0 wr → w0.heap.size ≤ base → Ext w0 w') → wpList Tryz.prog ops Q rest (a.put o.dst v') w') :
    wpList Tryz.prog ops Q (o :: rest) a wr := by
  obtain ⟨i0, hi, hz0, hz1, hz2⟩ := info_parts Tryz.infoI
  obtain ⟨A, c, rfl, hra⟩ := hr
  refine wpList_plain hgd fun K hK => ?_
  by_cases h0 : l.length = 0
  · obtain rfl : l = [] := List.length_eq_zero_iff.1 h0
    rw [List.append_nil] at h
    cases A with
    | none =>
      have hrun := run_append_noneZ (P := Tryz.prog) wr base 178 o.type 3 i0 1 Tryz.underlying178 hi v n c (zs xs) hown
      unfold Oper.wp execOp
      simp only [ho, resolve, invoke, builtin, Sem.run_bind, Sem.run_pure, Result.andThen_ok, List.map_toArray, List.map_cons, List.map_nil, hs, hx, List.length_nil, hrun]
      exact hK _ _ (h v wr hown fun w0 he hb => he)
    | some ad =>
      refine wp_append_own _ s x 178 ho base 3 i0 (.int .i64 0) 1 8 Tryz.underlying178 hi hz0 hz1 hz2 rfl (by omega) v n (zs xs) hs hown ad 0 c [] hx rfl (fun j u hu => by simp at hu) (fun u hu => by simp at hu) (by unfold maxLen; omega) (by omega) hbase ?_
      intro v' w' h2 h3 _
      exact hK _ _ (h v' w' (by simpa using h2) fun w0 he hb => he.grownOwn h3 hown hb)
  · obtain ⟨b, off, rfl, hc⟩ := hra.ad (by omega)
    refine wp_append_own _ s x 178 ho base 3 i0 (.int .i64 0) 1 8 Tryz.underlying178 hi hz0 hz1 hz2 rfl (by omega) v n (zs xs) hs hown ⟨b, off, none⟩ l.length c (zs l) hx (by simp [zs]) ?_ ?_ (by unfold maxLen; omega) (by omega) hbase ?_
    · intro j u hu
      have hj : j < l.length := by
        have := (List.getElem?_eq_some_iff.1 hu).1
        simpa [zs] using this
      rw [zs_get hj] at hu
      rw [← Option.some.inj hu, Addr.add_lit]
      exact hc j hj
    · intro u hu
      simp only [zs, List.mem_map] at hu
      obtain ⟨z, _, rfl⟩ := hu
      rfl
    · intro v' w' h2 h3 _
      exact hK _ _ (h v' w' (by simpa [zs] using h2) fun w0 he hb => he.grownOwn h3 hown hb)
end
end Go.Proofs.YtblijhokcjpeeaaGreatDoor
/- The reference of layer 1: cut, take, give, made. -/
namespace Go.Proofs.YtblijhokcjpeeaaGreatDoor
open Go.RowKit Kl

theorem TrimInv.done4 {l : List Nat} {k : Nat} (h : TrimInv l k) (hl : ∀ x ∈ l, x < 10000) (hx : k = 0 ∨ at0 l (k - 1) ≠ 0) : l.take k = pc 10000 (ofL 10000 l) := by
  rw [← h.sum (b := 10000)]
  refine (pc_unique (by omega) (fun x hm => hl x (List.mem_of_mem_take hm)) ?_).symm
  intro hne
  rcases hx with rfl | hx
  · simp at hne
  · have hk := h.1
    have h0 : 0 < k := by
      rcases Nat.eq_zero_or_pos k with rfl | h0
      · simp at hne
      · exact h0
    rw [List.getLast_take]
    have e : l[k - 1]? = some (l[k - 1]'(by omega)) := List.getElem?_eq_getElem (by omega)
    rw [e]
    simp [at0, List.getD, e] at hx ⊢
    exact hx
theorem RdZ.takeN {w : World} {A : Option Addr} {c : Nat} {l : List Nat} (h : RdZ w A c (zn l)) {k : Nat} (hk : k ≤ l.length) : RZ w (.slice A k c) (zn (l.take k)) := by
  rw [← zn_take]; exact h.take (by rw [zn_length]; exact hk)
set_option maxRecDepth 100000 in
set_option maxHeartbeats 1000000 in
theorem refCut_c (l : List Nat) (v : Value) (w : World) (hv : RZ w v (zn l)) (hl : ∀ x ∈ l, x < 10000) :
    Calls Tryz.prog 195 #[v] w (RetP (ofL 10000 l) w) := by
  obtain ⟨A, c, rfl, hr⟩ := hv
  have hcap := hr.cap
  have hmax := hr.max
  have hlen := hr.len
  rw [zn_length] at hcap hlen ⊢
  go_enter Tryz.func195, Tryz.ntmps195
  go_wp2
  go_loop [0] (fun v => ∃ k : Nat, TrimInv l k ∧ v = .slice A k c) (fun v => match v with | .slice _ n _ => n | _ => 0)
  case atStart => exact ⟨l.length, TrimInv.start l, rfl⟩
  case round =>
    obtain ⟨k, hk, rfl⟩ := hrel
    have hkl := hk.1
    by_cases h0 : k = 0
    · subst h0
      go_wp2
      go_ret
      exact ⟨_, rfl, by rw [← hk.done4 hl (.inl rfl)]; exact hr.takeN (by omega), Ext.refl _⟩
    · obtain ⟨b, o, rfl, hc⟩ := hr.ad (by rw [zn_length]; omega)
      have hg := hc (k - 1) (by rw [zn_length]; omega)
      rw [az_zn] at hg
      clear hc
      by_cases hx : at0 l (k - 1) = 0
      · rw [hx] at hg
        go_wp2
        go_round
        case rel => exact ⟨k - 1, hk.step h0 hx, rfl⟩
        case measure => simp; omega
      · have hx' : (((at0 l (k - 1) : Nat) : Int) == 0) = false := by simpa using hx
        go_wp2
        go_ret
        exact ⟨_, rfl, by rw [← hk.done4 hl (.inr hx)]; exact hr.takeN (by omega), Ext.refl _⟩

/-! ### take -/
structure TakeInv (n : Nat) (s : Bs) (e : Nat) (o : List Nat) : Prop where
  le : e ≤ s.length
  lt : ∀ x ∈ o, x < 10000
  len : e + o.length ≤ s.length
  sum : n = val (s.take e) * 10000 ^ o.length + ofL 10000 o
theorem TakeInv.start (s : Bs) : TakeInv (val s) s s.length [] := ⟨Nat.le_refl _, by simp, by simp, by simp [ofL]⟩
theorem val_lt4 {l : Bs} (h : AllD l) (hl : l.length ≤ 4) : val l < 10000 := by
  have h1 := val_lt h
  have h2 : 10 ^ l.length ≤ 10 ^ 4 := Nat.pow_le_pow_right (by omega) hl
  have h3 : (10 : Nat) ^ 4 = 10000 := by decide
  omega
theorem TakeInv.step {n : Nat} {s : Bs} {e : Nat} {o : List Nat} (h : TakeInv n s e o) (ha : AllD s) (h0 : 0 < e) : TakeInv n s (e - 4) (o ++ [val ((s.take e).drop (e - 4))]) := by
  have hd : AllD ((s.take e).drop (e - 4)) := allD_drop (allD_take ha e) _
  have hll : ((s.take e).drop (e - 4)).length = e - (e - 4) := by rw [List.length_drop, List.length_take, Nat.min_eq_left h.le]
  have hv := val_lt4 hd (by omega)
  have hle := h.le
  refine ⟨by omega, ?_, by have := h.len; rw [List.length_append, List.length_singleton]; omega, ?_⟩
  · intro x hx
    rcases List.mem_append.1 hx with hx | hx
    · exact h.lt x hx
    · simp at hx; subst hx; exact hv
  · have hs : val (s.take e) = val (s.take (e - 4)) * 10000 + val ((s.take e).drop (e - 4)) := by
      conv => lhs; rw [← List.take_append_drop (e - 4) (s.take e)]
      rw [val_append, hll, List.take_take, Nat.min_eq_left (by omega)]
      by_cases h4 : 4 ≤ e
      · rw [show e - (e - 4) = 4 by omega]
      · rw [show e - 4 = 0 by omega]; simp [val_nil]
    rw [ofL_snoc, List.length_append, List.length_singleton, Nat.pow_succ]
    have := h.sum
    rw [hs] at this
    rw [this]
    generalize 10000 ^ o.length = p
    generalize val (s.take (e - 4)) = a
    generalize val ((s.take e).drop (e - 4)) = b
    rw [Nat.add_mul, Nat.mul_assoc, Nat.mul_comm 10000 p, Nat.mul_comm b p]
    omega
theorem take_drop_snoc (s : Bs) (b i : Nat) (hb : b ≤ i) (hi : i < s.length) : (s.take (i + 1)).drop b = (s.take i).drop b ++ [s[i]] := by
  rw [List.take_succ_eq_append_getElem hi, List.drop_append_of_le_length (by rw [List.length_take]; omega)]
def TakeRel (s : Bs) (w : World) (p e : Value) (wr : World) : Prop :=
  ∃ (z : Int) (o : List Nat), TakeInv (val s) s z.toNat o ∧ e = .int .i64 z ∧ -4 ≤ z ∧ wr.ownsRow w.heap.size 3 1 p o.length (zs (zn o)) ∧ Ext w wr
theorem Seg.digitT {s : ByteArray} {m : Bs} (h : Seg s 0 m) {b j : Nat} (hb : b ≤ j) (hj : j < m.length) (h4 : j < b + 4) :
    ∃ (c : UInt8) (v : Nat) (hjs : j < s.size), s[j] = c ∧ (48 : Int) ≤ (c.toNat : Int) ∧ (c.toNat : Int) ≤ 57 ∧ v = val ((m.take j).drop b) ∧ (v : Int) ≤ 999 ∧ ((val ((m.take (j + 1)).drop b) : Nat) : Int) = 10 * (v : Int) + (c.toNat : Int) - 48 := by
  have hjs : j < s.size := by have := h.le; omega
  have e := h.at_ j hjs (by omega) (by omega)
  rw [Nat.sub_zero] at e
  have hid := h.all m[j] (List.getElem_mem hj)
  have hd := allD_drop (allD_take h.all j) b
  have hv := val_lt hd
  have h3 : 10 ^ ((m.take j).drop b).length ≤ 10 ^ 3 := Nat.pow_le_pow_right (by omega) (by rw [List.length_drop, List.length_take]; omega)
  have h5 : (10 : Nat) ^ 3 = 1000 := by decide
  have d1 := hid.1
  have d2 := hid.2
  refine ⟨m[j], _, hjs, by rw [e]; simp [List.getD, hj], by omega, by omega, rfl, by omega, ?_⟩
  rw [take_drop_snoc m b j hb hj, val_snoc]
  unfold dv; omega
set_option maxRecDepth 100000 in
set_option maxHeartbeats 2000000 in
theorem refTake_b (s : ByteArray) (m : Bs) (hm : Seg s 0 m) (hs : s.size = m.length) (hl : m.length ≤ 20000) (w : World) : Calls Tryz.prog 139 #[.string s] w (RetP (val m) w) := by
  have HS := Lib.hid hs
  have HM := Lib.hid hm
  have how : w.ownsRow w.heap.size 3 1 (.slice none 0 0) 0 (zs (zn [])) := ⟨rfl, .inl ⟨rfl, rfl⟩⟩
  have hs2 : s.size ≤ 20000 := by omega
  clear hs hm
  go_enter Tryz.func139, Tryz.ntmps139
  go_wp2
  go_loopw [3, 4] (fun p e wr => TakeRel m w p e wr) (fun _ e _ => (intOf e).toNat)
  case atStart => exact ⟨m.length, [], by simpa using TakeInv.start m, by rw [← HS.out], by omega, how, Ext.refl _⟩
  case round =>
    clear how
    obtain ⟨z, o, hT, rfl, hz4, hown, hext⟩ := hrel
    have hle := hT.le
    have hlen := hT.len
    have hsz := hext.size
    by_cases hz0 : 0 < z
    · obtain ⟨k, rfl⟩ := Int.eq_ofNat_of_zero_le (show 0 ≤ z by omega)
      rw [Int.toNat_natCast] at hT hle hlen
      have h0 : 0 < k := by omega
      have hmax : max (0 : Int) ((k : Int) - 4) = ((k - 4 : Nat) : Int) := by omega
      obtain ⟨b, hb⟩ : ∃ b, b = k - 4 := ⟨_, rfl⟩
      rw [← hb] at hmax
      have hbk : b ≤ k := by omega
      have hks : (k : Int) ≤ s.size := by have := HS.out; omega
      have HB := Lib.hid hb
      clear hb
      go_wp2
      all_goals
        clear hmax
        go_loop [5, 6] (fun n i => ∃ j : Nat, b ≤ j ∧ j ≤ k ∧ i = .int .i64 (j : Nat) ∧ n = .int .i64 (val ((m.take j).drop b) : Nat)) (fun _ i => k - (intOf i).toNat)
        case atStart => exact ⟨b, by omega, by omega, by have := HB.out; congr 1 <;> omega, by rw [List.drop_eq_nil_of_le (by rw [List.length_take]; omega)]; rfl⟩
        case round =>
          obtain ⟨j, hj1, hj2, rfl, rfl⟩ := hrel
          by_cases hlt : j < k
          · obtain ⟨c, v, hjs, e, d1, d2, hv, hv9, hn⟩ := HM.out.digitT hj1 (show j < m.length by omega) (by have := HB.out; omega)
            rw [← hv]
            have HN := Lib.hid hn
            clear hv hn
            go_wp2
            go_round
            case rel => exact ⟨j + 1, by omega, by omega, by go_num, by rw [HN.out]⟩
            case measure => simp [intOf]; omega
          · obtain rfl : j = k := by omega
            have hst := hT.step HM.out.all h0
            rw [← HB.out] at hst
            obtain ⟨x, hx⟩ : ∃ x, x = val ((m.take j).drop b) := ⟨_, rfl⟩
            rw [← hx] at hst ⊢
            have HT := Lib.hid hst
            clear hx hst
            go_wp2_with (at_builtin; refine appZ1 rfl _ _ rfl wr w.heap.size u3 o.length (zn o) rfl hown (by omega) _ (x : Int) rfl rfl hsz ?_; intro v1 w1 hown1 hx1)
            go_roundw
            case rel =>
              refine ⟨_, o ++ [x], ?_, rfl, by omega, ?_, hx1 _ hext (Nat.le_refl _)⟩
              · rw [show ((j : Int) - 4).toNat = b by have := HB.out; omega]; exact HT.out
              rw [zn_append]
              simpa [zn] using hown1
            case measure => have := HB.out; simp [intOf]; omega
    · have ht0 : z.toNat = 0 := by omega
      rw [ht0] at hT hle hlen
      clear ht0
      have hsum := hT.sum
      rw [List.take_zero, val_nil, Nat.zero_mul, Nat.zero_add] at hsum
      have HS := Lib.hid hsum
      clear hsum
      go_wp2_with fail
      have hrd : RZ wr u3 (zn o) := RZ.of_own hown (by rw [zn_length]) (by rw [zn_length]; omega)
      ((with_reducible refine (refCut_c o _ _ hrd hT.lt).mono ?_); rintro e w2 ⟨v2, rfl, hv2, hx2⟩)
      go_wp2
      go_ret
      exact ⟨v2, rfl, by rw [HS.out]; exact hv2, hext.trans hx2⟩
theorem refTake_c (l : Bs) (ha : AllD l) (hl : l.length ≤ 20000) (w : World) : Calls Tryz.prog 139 #[S l] w (RetP (val l) w) := by
  have h := seg_mk [] l [] ha
  simp only [List.nil_append, List.append_nil, List.length_nil] at h
  exact refTake_b _ l h (by simp [ByteArray.size]) hl w
theorem refTakeD_c (n : Nat) (hl : (D n).length ≤ 20000) (w : World) : Calls Tryz.prog 139 #[S (D n)] w (RetP n w) := by
  have h := refTake_c (D n) (allD_D n) hl w
  rwa [val_D] at h
end Go.Proofs.YtblijhokcjpeeaaGreatDoor
namespace Go.Proofs.YtblijhokcjpeeaaGreatDoor
open Go.RowKit Kl

theorem ret_b {a b : Bool} (h : a = b) : Ending.returned (.bool a) = .returned (.bool b) := by rw [h]
theorem tmod4 (s : Int) : (s.tmod 10000 = s % 10000 ∧ (0 ≤ s ∨ s % 10000 = 0)) ∨ (s < 0 ∧ s % 10000 ≠ 0 ∧ s.tmod 10000 = s % 10000 - 10000) := by
  have h := Int.tmod_eq_emod (a := s) (b := 10000)
  by_cases h0 : 0 ≤ s ∨ (10000 : Int) ∣ s
  · rw [if_pos h0] at h
    refine .inl ⟨by omega, ?_⟩
    rcases h0 with h0 | h0
    · exact .inl h0
    · right; omega
  · rw [if_neg h0] at h
    exact .inr ⟨by omega, by omega, by rw [h]; rfl⟩
theorem ofL_lt_of_at4 {l m : List Nat} (i : Nat) (hl : ∀ x ∈ l, x < 10000) (hm : ∀ x ∈ m, x < 10000) (he : l.length = m.length) (hi : i < l.length) (hd : l.drop (i + 1) = m.drop (i + 1)) (h : at0 l i < at0 m i) : ofL 10000 l < ofL 10000 m :=
  ofL_lt_of_at (b := 10000) i hl hm he hi hd h
set_option maxRecDepth 100000 in
set_option maxHeartbeats 1000000 in
theorem refLess_l (a b : List Nat) (u v : Value) (w : World) (hu : RZ w u (zn a)) (hv : RZ w v (zn b)) (ha : ∀ x ∈ a, x < 10000) (hb : ∀ x ∈ b, x < 10000) (hta : Trim a) (htb : Trim b) :
    Calls Tryz.prog 142 #[u, v] w (RetB (decide (ofL 10000 a < ofL 10000 b)) w) := by
  obtain ⟨A, ca, rfl, hra⟩ := hu
  obtain ⟨B, cb, rfl, hrb⟩ := hv
  have hca := hra.cap
  have hcb := hrb.cap
  have hma := hra.max
  have hmb := hrb.max
  have hla := hra.len
  have hlb := hrb.len
  rw [zn_length] at hca hcb hla hlb ⊢
  rw [zn_length]
  by_cases hab : a.length = b.length
  · have hne : (((a.length : Nat) : Int) != (b.length : Nat)) = false := by simp [hab]
    go_enter Tryz.func142, Tryz.ntmps142
    have HAB := Lib.hid hab
    clear hab
    go_wp2
    go_loopw [5] (fun i wr => ∃ z : Int, -1 ≤ z ∧ z < a.length ∧ a.drop (z + 1).toNat = b.drop (z + 1).toNat ∧ i = .int .i64 z ∧ Ext w wr) (fun i _ => (intOf i + 1).toNat)
    case atStart => exact ⟨(a.length : Int) - 1, by omega, by omega, by rw [show ((a.length : Int) - 1 + 1).toNat = a.length by omega, List.drop_length, HAB.out, List.drop_length], rfl, Ext.refl w⟩
    case round =>
      obtain ⟨z, hz1, hz2, hd, rfl, hext⟩ := hrel
      have HD := Lib.hid hd
      clear hd
      by_cases h0 : z < 0
      · have e : a = b := by have := HD.out; rw [show (z + 1).toNat = 0 by omega] at this; simpa using this
        have hf : decide (ofL 10000 a < ofL 10000 b) = false := by rw [e]; simp
        have HF := Lib.hid hf
        clear e hf
        go_wp2
        go_ret
        exact ⟨ret_b HF.out.symm, hext⟩
      · obtain ⟨n, rfl⟩ := Int.eq_ofNat_of_zero_le (show 0 ≤ z by omega)
        have hk1 : n < a.length := by omega
        have hk2 : n < b.length := by have := HAB.out; omega
        obtain ⟨ba, oa, rfl, hcella⟩ := hra.ad (by rw [zn_length]; omega)
        have hga := hext.cellS (hcella n (by rw [zn_length]; omega))
        obtain ⟨bb, ob, rfl, hcellb⟩ := hrb.ad (by rw [zn_length]; omega)
        have hgb := hext.cellS (hcellb n (by rw [zn_length]; omega))
        rw [az_zn] at hga hgb
        have hxa := at0_lt ha hk1
        have hxb := at0_lt hb hk2
        have hd2 : a.drop (n + 1) = b.drop (n + 1) := by have := HD.out; rwa [show ((n : Int) + 1).toNat = n + 1 by omega] at this
        have HD2 := Lib.hid hd2
        clear hcella hcellb HD hd2
        rcases Nat.lt_trichotomy (at0 a n) (at0 b n) with hx | hx | hx
        · have h1 : (((at0 a n : Nat) : Int) != (at0 b n : Nat)) = true := by rw [bne_iff_ne]; omega
          have hf : decide (ofL 10000 a < ofL 10000 b) = true := decide_eq_true (ofL_lt_of_at (b := 10000) n ha hb HAB.out hk1 HD2.out hx)
          rw [hf]
          clear hf
          go_wp2_with fail
          go_quiet (fail)
          go_wp2_with fail
          go_quiet (fail)
          go_wp2
          go_ret
          exact ⟨rfl, (hext.drewN _).drewN _⟩
        · have h1 : (((at0 a n : Nat) : Int) != (at0 b n : Nat)) = false := by simp [hx]
          have HX := Lib.hid hx
          clear hx
          go_wp2_with fail
          go_quiet (fail)
          go_wp2
          go_roundw
          case rel =>
            refine ⟨(n : Int) - 1, by omega, by omega, ?_, by go_num, hext.drewN _⟩
            rw [show ((n : Int) - 1 + 1).toNat = n by omega, drop_at0 hk1, drop_at0 hk2, HX.out, HD2.out]
          case measure => simp [intOf]
        · have h1 : (((at0 a n : Nat) : Int) != (at0 b n : Nat)) = true := by rw [bne_iff_ne]; omega
          have hgt := ofL_lt_of_at (b := 10000) n hb ha HAB.out.symm hk2 HD2.out.symm hx
          have hf : decide (ofL 10000 a < ofL 10000 b) = false := decide_eq_false (by omega)
          rw [hf]
          clear hf hgt
          have h2 : decide (at0 a n < at0 b n) = false := decide_eq_false (by omega)
          go_wp2_with fail
          go_quiet (fail)
          go_wp2_with fail
          go_quiet (fail)
          go_wp2
          go_ret
          exact ⟨rfl, (hext.drewN _).drewN _⟩
  · have hne : (((a.length : Nat) : Int) != (b.length : Nat)) = true := by rw [bne_iff_ne]; omega
    by_cases hlt : a.length < b.length
    · have hf : decide (ofL 10000 a < ofL 10000 b) = true := decide_eq_true (ofL_lt_of_length (by omega) ha htb hlt)
      rw [hf]
      clear hf
      go_enter Tryz.func142, Tryz.ntmps142
      go_wp2
      go_ret
      exact ⟨rfl, Ext.refl w⟩
    · have hgt := ofL_lt_of_length (b := 10000) (by omega) hb hta (show b.length < a.length by omega)
      have hf : decide (ofL 10000 a < ofL 10000 b) = false := decide_eq_false (by omega)
      rw [hf]
      clear hf hgt
      have h2 : decide (a.length < b.length) = false := decide_eq_false hlt
      go_enter Tryz.func142, Tryz.ntmps142
      go_wp2
      go_ret
      exact ⟨rfl, Ext.refl w⟩
theorem refLess_c (p q : Nat) (u v : Value) (w : World) (hu : RZ w u (zn (pc 10000 p))) (hv : RZ w v (zn (pc 10000 q))) :
    Calls Tryz.prog 142 #[u, v] w (RetB (decide (p < q)) w) := by
  have h := refLess_l _ _ u v w hu hv (pc_lt (by omega) p) (pc_lt (by omega) q) (trim_pc (by omega) p) (trim_pc (by omega) q)
  rwa [ofL_pc (by omega), ofL_pc (by omega)] at h

/-! ### carry -/
def CarRel (l : List Int) (w : World) (p over i : Value) (wr : World) : Prop :=
  ∃ (k : Nat) (o : List Nat) (z : Int), CarInv l k o z ∧ i = .int .i64 (k : Nat) ∧ over = .int .i64 z ∧ k ≤ 50000 ∧ wr.ownsRow w.heap.size 3 1 p k (zs (zn o)) ∧ Ext w wr
set_option maxRecDepth 100000 in
set_option maxHeartbeats 4000000 in
theorem refCarry_c (l : List Int) (N M : Nat) (hM : M ≤ 50000) (hNM : N < 10000 ^ M) (hN : ofZ l = (N : Int)) (hll : l.length ≤ 50000) (hbd : ∀ x ∈ l, -1000000000000000 ≤ x ∧ x ≤ 1000000000000000) (v : Value) (w : World) (hv : RZ w v l) :
    Calls Tryz.prog 197 #[v] w (RetP N w) := by
  obtain ⟨A, c, rfl, hr⟩ := hv
  have hcap := hr.cap
  have hmax := hr.max
  have hlen := hr.len
  have hNM2 : ofZ l < 10000 ^ M := by rw [hN, pow_castI]; exact Int.ofNat_lt.2 hNM
  have HN := Lib.hid hN
  have HM := Lib.hid hNM2
  have HB := Lib.hid hbd
  clear hN hNM hNM2 hbd
  have how : w.ownsRow w.heap.size 3 1 (.slice none 0 0) 0 (zs (zn [])) := ⟨rfl, .inl ⟨rfl, rfl⟩⟩
  go_enter Tryz.func197, Tryz.ntmps197
  go_wp2
  go_loopw [3, 4, 5] (fun p over i wr => CarRel l w p over i wr) (fun _ over i _ => (l.length - (intOf i).toNat) * 10000000000000000 + (intOf over).toNat)
  case atStart => exact ⟨0, [], 0, CarInv.start l, rfl, rfl, by omega, how, Ext.refl _⟩
  case round =>
    clear how
    obtain ⟨k, o, z, hC, rfl, rfl, hk5, hown, hext⟩ := hrel
    have hlo := hC.lo
    have hhi := hC.hi
    have hsz := hext.size
    by_cases hk : k < l.length
    · obtain ⟨b, off, rfl, hc⟩ := hr.ad (by omega)
      have hg := hext.cellS (hc k hk)
      have haz : az l k = l[k] := by unfold az; rw [List.getD_eq_getElem?_getD, List.getElem?_eq_getElem hk]; rfl
      have hb := HB.out _ (List.getElem_mem hk)
      rw [← haz] at hb
      obtain ⟨b1, b2⟩ := hb
      obtain ⟨x, hx⟩ : ∃ x, x = az l k := ⟨_, rfl⟩
      rw [← hx] at hg b1 b2
      obtain ⟨s, hs⟩ : ∃ s, z + x = s := ⟨_, rfl⟩
      obtain ⟨n, hn⟩ := Int.eq_ofNat_of_zero_le (show 0 ≤ s % 10000 by omega)
      have hst := hC.step (x := x) (s := s) (n := n) (by rw [if_pos hk, hx]) hs.symm b1 b2 hn.symm
      have HST := Lib.hid hst
      have hn1 : n < 10000 := by omega
      have hs1 : -2000000000000000 ≤ s := by omega
      have hs2 : s ≤ 2000000000000000 := by omega
      have hdvd : (10000 : Int) ∣ s - n := by omega
      have hq : (s - n).tdiv 10000 = (s - n) / 10000 := Int.tdiv_eq_ediv_of_dvd hdvd
      have hte := tmod4 s
      obtain ⟨q, hqq⟩ : ∃ q, q = (s - n) / 10000 := ⟨_, rfl⟩
      rw [← hqq] at hq
      have HQ := Lib.hid hqq
      have hql := HST.out.lo
      have hqh := HST.out.hi
      rw [← hqq] at hql hqh
      clear hc haz hx hst hdvd
      by_cases hneg : s.tmod 10000 < 0
      case' pos =>
        obtain ⟨t, ht⟩ : ∃ t, s.tmod 10000 = t := ⟨_, rfl⟩
        have htn : t + 10000 = n := by omega
        have ht0 : t < 0 := by omega
        have ht1 : -10000 < t := by omega
        have hs0 : s < 0 := by omega
        clear hneg hte hn hqq
        go_wp2_with (at_builtin; refine appZ1 rfl _ _ rfl wr w.heap.size u3 k (zn o) rfl hown (by omega) _ (n : Int) (by omega) rfl hsz ?_; intro v1 w1 hown1 hx1)
      case' neg =>
        have hte2 : s.tmod 10000 = n := by omega
        clear hneg hqq
        by_cases hs0 : 0 ≤ s
        case' pos =>
          have hem : s % 10000 = n := by omega
          clear hte hn hte2
          go_wp2_with (at_builtin; refine appZ1 rfl _ _ rfl wr w.heap.size u3 k (zn o) rfl hown (by omega) _ (n : Int) (by omega) rfl hsz ?_; intro v1 w1 hown1 hx1)
        case' neg =>
          clear hte hn
          go_wp2_with (at_builtin; refine appZ1 rfl _ _ rfl wr w.heap.size u3 k (zn o) rfl hown (by omega) _ (n : Int) (by omega) rfl hsz ?_; intro v1 w1 hown1 hx1)
      all_goals
        go_roundw
        case rel =>
          have hst := HST.out
          rw [← HQ.out] at hst
          exact ⟨k + 1, _, _, hst, by go_num, by first | rfl | (congr 1; exact HQ.out.symm) | (rw [HQ.out]), by omega, by rw [zn_append]; exact hown1, hx1 _ hext (Nat.le_refl _)⟩
        case measure => simp [intOf]; omega
    · have hz0 := hC.nonneg (by omega) (by rw [HN.out]; omega)
      by_cases hz : 0 < z
      · have hkM := hC.room (by omega) hz HM.out
        have hne : (z != 0) = true := by rw [bne_iff_ne]; omega
        obtain ⟨n, hn⟩ := Int.eq_ofNat_of_zero_le (show 0 ≤ z % 10000 by omega)
        have hst := hC.step (x := 0) (s := z) (n := n) (by rw [if_neg hk]) (by omega) (by omega) (by omega) hn.symm
        have HST := Lib.hid hst
        have hd : decide (k < l.length) = false := decide_eq_false hk
        have hzn : 0 ≤ z - n := by omega
        clear hst
        go_wp2_with (at_builtin; refine appZ1 rfl _ _ rfl wr w.heap.size u3 k (zn o) rfl hown (by omega) _ (n : Int) (by omega) rfl hsz ?_; intro v1 w1 hown1 hx1)
        go_roundw
        case rel => exact ⟨k + 1, _, _, HST.out, by go_num, rfl, by omega, by rw [zn_append]; exact hown1, hx1 _ hext (Nat.le_refl _)⟩
        case measure => simp [intOf]; omega
      · obtain rfl : z = 0 := by omega
        have hd : decide (k < l.length) = false := decide_eq_false hk
        have hsum := hC.done (by omega) HN.out
        have hol := hC.len
        have HS := Lib.hid hsum
        have HO := Lib.hid hol
        clear hsum hol
        go_wp2_with fail
        have hrd : RZ wr u3 (zn o) := RZ.of_own hown (by rw [zn_length, HO.out]) (by rw [zn_length, HO.out]; omega)
        ((with_reducible refine (refCut_c o _ _ hrd hC.lt).mono ?_); rintro e w2 ⟨v2, rfl, hv2, hx2⟩)
        go_wp2
        go_ret
        exact ⟨v2, rfl, by rw [← HS.out]; exact hv2, hext.trans hx2⟩
end Go.Proofs.YtblijhokcjpeeaaGreatDoor
