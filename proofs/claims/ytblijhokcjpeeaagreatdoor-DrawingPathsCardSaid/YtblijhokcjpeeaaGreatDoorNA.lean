/- klippelaw54.pixel, at a place in the window. -/
import Derived.Test.YtblijhokcjpeeaaGreatDoorED
import Derived.Test.YtblijhokcjpeeaaGreatDoorMP
import Derived.Test.YtblijhokcjpeeaaGreatDoorMQ
/- DrawingLines: the reference's clip and line in plain words. -/
namespace Go.Proofs.YtblijhokcjpeeaaGreatDoor
open Go.RowKit Kl

/-- One side of the window, as the reference takes it: how far both ends are inside. -/
def rstep (v0 v1 : Rat) : Option (Rat × Rat) → Option (Rat × Rat)
  | none => none
  | some (l, h) => if v0 < 0 then (if v1 < 0 then none else some (maxR l (v0 / (v0 - v1)), h)) else if v1 < 0 then some (l, minR h (v0 / (v0 - v1))) else some (l, h)
theorem rstep_eq (v0 v1 l h : Rat) : rstep v0 v1 (some (l, h)) = if v0 < 0 then (if v1 < 0 then none else some (maxR l (v0 / (v0 - v1)), h)) else if v1 < 0 then some (l, minR h (v0 / (v0 - v1))) else some (l, h) := rfl
def endsR (c : Cv) (s : Sg) : List (Rat × Rat) := [(s.a.x - c.low.x, s.b.x - c.low.x), (c.high.x - s.a.x, c.high.x - s.b.x), (s.a.y - c.low.y, s.b.y - c.low.y), (c.high.y - s.a.y, c.high.y - s.b.y)]
def rfold (l : List (Rat × Rat)) : Option (Rat × Rat) := l.foldl (fun o v => rstep v.1 v.2 o) (some (0, 1))
def rclip (c : Cv) (s : Sg) : Option Sg :=
  match rfold (endsR c s) with
  | none => none
  | some (l, h) => if h < l then none else some ⟨atR s l, atR s h⟩
/-- What both states have in common: they agree, or nothing is left. -/
def Alike (r p : Option (Rat × Rat)) : Prop :=
  (∃ l h, r = some (l, h) ∧ p = some (l, h) ∧ 0 ≤ l ∧ h ≤ 1) ∨ (r = none ∧ (p = none ∨ ∃ l h, p = some (l, h) ∧ h < l))
theorem le_maxR (a b : Rat) : a ≤ maxR a b ∧ b ≤ maxR a b := by unfold maxR; split <;> grind
theorem minR_le (a b : Rat) : minR a b ≤ a ∧ minR a b ≤ b := by unfold minR; split <;> grind
theorem dead_step {fr way l h : Rat} (hd : h < l) : bstep fr way (some (l, h)) = none ∨ ∃ l' h', bstep fr way (some (l, h)) = some (l', h') ∧ h' < l' := by
  rw [bstep_eq]
  have h1 := le_maxR l (-fr / way)
  have h2 := minR_le h (-fr / way)
  split
  · split
    · exact .inr ⟨_, _, rfl, hd⟩
    · exact .inl rfl
  · split
    · exact .inr ⟨_, _, rfl, by grind⟩
    · exact .inr ⟨_, _, rfl, by grind⟩
theorem share_eq (fr way : Rat) : fr / (fr - (fr + way)) = -fr / way := by
  rw [show fr - (fr + way) = -way by grind, neg_div_neg']
theorem alike_step {r p : Option (Rat × Rat)} (fr way v1 : Rat) (hv : v1 = fr + way) (h : Alike r p) : Alike (rstep fr v1 r) (bstep fr way p) := by
  subst hv
  rcases h with ⟨l, h, rfl, rfl, h0, h1⟩ | ⟨rfl, rfl | ⟨l, h, rfl, hd⟩⟩
  · rw [rstep_eq, bstep_eq, share_eq]
    have m1 := le_maxR l (-fr / way)
    have m2 := minR_le h (-fr / way)
    by_cases hw : way = 0
    · rw [if_pos hw]
      by_cases hf : fr < 0
      · rw [if_pos hf, if_pos (by grind), if_neg (by grind)]
        exact .inr ⟨rfl, .inl rfl⟩
      · rw [if_neg hf, if_neg (by grind), if_pos (by grind)]
        exact .inl ⟨l, h, rfl, rfl, h0, h1⟩
    · rw [if_neg hw]
      by_cases hp : 0 < way
      · rw [if_pos hp]
        by_cases hf : fr < 0
        · rw [if_pos hf]
          by_cases hg : fr + way < 0
          · rw [if_pos hg]
            refine .inr ⟨rfl, .inr ⟨_, _, rfl, ?_⟩⟩
            have : 1 < -fr / way := by rw [Rat.lt_div_iff hp]; grind
            grind
          · rw [if_neg hg]
            exact .inl ⟨_, _, rfl, rfl, by grind, h1⟩
        · rw [if_neg hf, if_neg (by grind)]
          have : ¬ 0 < -fr / way := by rw [Rat.lt_div_iff hp]; grind
          have e : maxR l (-fr / way) = l := by unfold maxR; rw [if_neg (by grind)]
          rw [e]
          exact .inl ⟨l, h, rfl, rfl, h0, h1⟩
      · rw [if_neg hp]
        have hn : 0 < -way := by grind
        by_cases hf : fr < 0
        · rw [if_pos hf, if_pos (by grind)]
          refine .inr ⟨rfl, .inr ⟨_, _, rfl, ?_⟩⟩
          have : -fr / way < 0 := by rw [neg_div_neg', Rat.div_lt_iff hn]; grind
          grind
        · rw [if_neg hf]
          by_cases hg : fr + way < 0
          · rw [if_pos hg]
            exact .inl ⟨_, _, rfl, rfl, h0, by grind⟩
          · rw [if_neg hg]
            have : ¬ -fr / way < 1 := by rw [neg_div_neg', Rat.div_lt_iff hn]; grind
            have e : minR h (-fr / way) = h := by unfold minR; rw [if_neg (by grind)]
            rw [e]
            exact .inl ⟨l, h, rfl, rfl, h0, h1⟩
  · exact .inr ⟨rfl, .inl rfl⟩
  · refine .inr ⟨rfl, ?_⟩
    rcases dead_step (fr := fr) (way := way) hd with h | h
    · exact .inl h
    · exact .inr h
/-- Both clip alike. -/
theorem rclip_eq (c : Cv) (s : Sg) : rclip c s = clipR c s := by
  have h0 : Alike (some (0, 1)) (some (0, 1)) := .inl ⟨0, 1, rfl, rfl, by decide +kernel, by decide +kernel⟩
  have h1 := alike_step (s.a.x - c.low.x) (s.b.x - s.a.x) (s.b.x - c.low.x) (by grind) h0
  have h2 := alike_step (c.high.x - s.a.x) (-(s.b.x - s.a.x)) (c.high.x - s.b.x) (by grind) h1
  have h3 := alike_step (s.a.y - c.low.y) (s.b.y - s.a.y) (s.b.y - c.low.y) (by grind) h2
  have h4 := alike_step (c.high.y - s.a.y) (-(s.b.y - s.a.y)) (c.high.y - s.b.y) (by grind) h3
  have e1 : rfold (endsR c s) = rstep (c.high.y - s.a.y) (c.high.y - s.b.y) (rstep (s.a.y - c.low.y) (s.b.y - c.low.y) (rstep (c.high.x - s.a.x) (c.high.x - s.b.x) (rstep (s.a.x - c.low.x) (s.b.x - c.low.x) (some (0, 1))))) := rfl
  have e2 : clipLH c s = bstep (c.high.y - s.a.y) (-(s.b.y - s.a.y)) (bstep (s.a.y - c.low.y) (s.b.y - s.a.y) (bstep (c.high.x - s.a.x) (-(s.b.x - s.a.x)) (bstep (s.a.x - c.low.x) (s.b.x - s.a.x) (some (0, 1))))) := rfl
  rw [← e1, ← e2] at h4
  unfold rclip clipR
  rcases h4 with ⟨l, h, er, ep, _, _⟩ | ⟨er, ep | ⟨l, h, ep, hd⟩⟩
  · rw [er, ep]
  · rw [er, ep]
  · rw [er, ep]
    exact (if_pos hd).symm
/-! ### Sizes -/
theorem rstep_sz {v0 v1 : Rat} {m : Nat} {o : Option (Rat × Rat)} (ho : ∀ l h, o = some (l, h) → Sz m l ∧ Sz m h) (hk : Sz m (v0 / (v0 - v1))) : ∀ l h, rstep v0 v1 o = some (l, h) → Sz m l ∧ Sz m h := by
  intro l h e
  match o with
  | none => cases e
  | some (l0, h0) =>
    obtain ⟨z1, z2⟩ := ho l0 h0 rfl
    rw [rstep_eq] at e
    split at e
    · split at e
      · cases e
      · simp only [Option.some.injEq, Prod.mk.injEq] at e
        obtain ⟨rfl, rfl⟩ := e
        refine ⟨?_, z2⟩
        unfold maxR; split
        · exact hk
        · exact z1
    · split at e
      · simp only [Option.some.injEq, Prod.mk.injEq] at e
        obtain ⟨rfl, rfl⟩ := e
        refine ⟨z1, ?_⟩
        unfold minR; split
        · exact hk
        · exact z2
      · simp only [Option.some.injEq, Prod.mk.injEq] at e
        obtain ⟨rfl, rfl⟩ := e
        exact ⟨z1, z2⟩
end Go.Proofs.YtblijhokcjpeeaaGreatDoor
/- klippelaw54: sub, mul, div, toward. -/
namespace Go.Proofs.YtblijhokcjpeeaaGreatDoor
open Go.RowKit Kl

theorem lawSub_c (p q : Rat) {a b : Nat} (hr : Rm a b p q) (w : World) (hw : Okw w) : Calls Tryz.prog 37 #[S (R p), S (R q)] w (RetS (R (p - q)) w) := by
  have sb := refSub_c p q hr
  clear hr
  go_enter Tryz.func37, Tryz.ntmps37
  go_wp2_with fail
  ((with_reducible refine (sb _ hw).mono ?_); rintro e w1 ⟨rfl, hx1⟩)
  go_wp2
  go_ret
  exact ⟨rfl, hx1⟩
theorem lawMul_c (p q : Rat) {a b : Nat} (hr : Rm a b p q) (w : World) (hw : Okw w) : Calls Tryz.prog 88 #[S (R p), S (R q)] w (RetS (R (p * q)) w) := by
  have sb := refMul_c p q hr
  clear hr
  go_enter Tryz.func88, Tryz.ntmps88
  go_wp2_with fail
  ((with_reducible refine (sb _ hw).mono ?_); rintro e w1 ⟨rfl, hx1⟩)
  go_wp2
  go_ret
  exact ⟨rfl, hx1⟩
theorem lawDiv_c (p q : Rat) (hq : q ≠ 0) {a b : Nat} (hr : Rm a b p q) (w : World) (hw : Okw w) : Calls Tryz.prog 39 #[S (R p), S (R q)] w (RetS (R (p / q)) w) := by
  have sb := refDiv_c p q hq hr
  clear hr hq
  go_enter Tryz.func39, Tryz.ntmps39
  go_wp2_with fail
  ((with_reducible refine (sb _ hw).mono ?_); rintro e w1 ⟨rfl, hx1⟩)
  go_wp2
  go_ret
  exact ⟨rfl, hx1⟩
theorem blk2n (w : World) (o1 o2 : Obj) : ∃ W, W = (w.alloc o1).alloc o2 ∧ Ext w W ∧ W.heap[w.heap.size]? = some o1 ∧ W.heap[w.heap.size + 1]? = some o2 := by
  have h2 := heap_alloc_new (w.alloc o1) o2
  rw [World.size_alloc] at h2
  exact ⟨_, rfl, ((Ext.refl _).alloc _).alloc _, (Below.heap_alloc _ _ _ (by simp)).trans (heap_alloc_new w o1), h2⟩
set_option maxRecDepth 100000 in
set_option maxHeartbeats 4000000 in
theorem toward_c (s : Sg) (k : Rat) {i m : Nat} (hs : SzS i s) (hk : Sz m k) (hi : 0 < i) (hm : 0 < m) (him : 3 * i + m ≤ 3900) (w : World) (hw : Okw w) :
    Calls Tryz.prog 41 #[sgV s, S (R k)] w (RetV (ptV (atR s k)) w) := by
  have s1 := lawSub_c s.b.x s.a.x (a := i) (b := i) ⟨hs.b.x, hs.a.x, hi, hi, by omega⟩
  have m1 := lawMul_c k (s.b.x - s.a.x) (a := m) (b := i + i + 1) ⟨hk, hs.b.x.sub hs.a.x, hm, by omega, by omega⟩
  have a1 := refAdd_c s.a.x (k * (s.b.x - s.a.x)) (a := i) (b := m + (i + i + 1)) ⟨hs.a.x, hk.mul (hs.b.x.sub hs.a.x), hi, by omega, by omega⟩
  have s2 := lawSub_c s.b.y s.a.y (a := i) (b := i) ⟨hs.b.y, hs.a.y, hi, hi, by omega⟩
  have m2 := lawMul_c k (s.b.y - s.a.y) (a := m) (b := i + i + 1) ⟨hk, hs.b.y.sub hs.a.y, hm, by omega, by omega⟩
  have a2 := refAdd_c s.a.y (k * (s.b.y - s.a.y)) (a := i) (b := m + (i + i + 1)) ⟨hs.a.y, hk.mul (hs.b.y.sub hs.a.y), hi, by omega, by omega⟩
  have e1 : s.a.x + k * (s.b.x - s.a.x) = stepR s.a.x s.b.x k := rfl
  have e2 : s.a.y + k * (s.b.y - s.a.y) = stepR s.a.y s.b.y k := rfl
  rw [e1] at a1
  rw [e2] at a2
  unfold sgV ptV
  clear hs hk e1 e2
  go_enter Tryz.func41, Tryz.ntmps41
  go_wp2_with fail
  obtain ⟨W, hW, hE, hb1, hb2⟩ := blk2n w (.cells #[S (R s.a.x), S (R s.a.y), S (R s.b.x), S (R s.b.y)] 31) (.cells #[S [], S []] 29)
  rw [show (⟨#[]⟩ : ByteArray) = ⟨([] : Bs).toArray⟩ from rfl, ← hW]
  have k1 : W.cell? ⟨w.heap.size, 0, none⟩ = some (S (R s.a.x)) := cell_of_blk hb1 rfl
  have k2 : W.cell? ⟨w.heap.size, 1, none⟩ = some (S (R s.a.y)) := cell_of_blk hb1 rfl
  have k3 : W.cell? ⟨w.heap.size, 2, none⟩ = some (S (R s.b.x)) := cell_of_blk hb1 rfl
  have k4 : W.cell? ⟨w.heap.size, 3, none⟩ = some (S (R s.b.y)) := cell_of_blk hb1 rfl
  have hbl : w.heap.size + 1 < W.drew.heap.size := lt_of_block hb2
  have hb2d : W.drew.heap[w.heap.size + 1]? = _ := hb2
  have hWd := (Ext.refl W).drew
  have hEd := hE.drew
  clear hW hb1 hb2
  go_region_held3 (fun w' => w'.cell? ⟨w.heap.size, 0, none⟩ = some (S (R s.a.x)) ∧ w'.cell? ⟨w.heap.size, 1, none⟩ = some (S (R s.a.y)) ∧ w'.cell? ⟨w.heap.size, 2, none⟩ = some (S (R s.b.x)) ∧ w'.cell? ⟨w.heap.size, 3, none⟩ = some (S (R s.b.y)))
    (first | go_keep | (refine ⟨?_, ?_, ?_, ?_⟩ <;> (rw [World.cell?_setCell_far _ _ _ _ (by show w.heap.size + 1 ≠ w.heap.size; omega), World.cell?_setCell_far _ _ _ _ (by show w.heap.size + 1 ≠ w.heap.size; omega)]; assumption)))
    (first | ((with_reducible refine (s1 _ (hw.ext hEd)).mono ?_); rintro e w1 ⟨rfl, hx1⟩; have hX := hWd.trans hx1; have r1 := hX.cellS k1; have r2 := hX.cellS k2; have r3 := hX.cellS k3; have r4 := hX.cellS k4) | ((with_reducible refine (m1 _ (hw.ext (hE.trans hX))).mono ?_); rintro e w2 ⟨rfl, hx2⟩; replace hX := hX.trans hx2; have r1 := hX.cellS k1; have r2 := hX.cellS k2; have r3 := hX.cellS k3; have r4 := hX.cellS k4) | ((with_reducible refine (a1 _ (hw.ext (hE.trans hX))).mono ?_); rintro e w3 ⟨rfl, hx3⟩; replace hX := hX.trans hx3; have r1 := hX.cellS k1; have r2 := hX.cellS k2; have r3 := hX.cellS k3; have r4 := hX.cellS k4) | ((with_reducible refine (s2 _ (hw.ext (hE.trans hX))).mono ?_); rintro e w4 ⟨rfl, hx4⟩; replace hX := hX.trans hx4; have r1 := hX.cellS k1; have r2 := hX.cellS k2; have r3 := hX.cellS k3; have r4 := hX.cellS k4) | ((with_reducible refine (m2 _ (hw.ext (hE.trans hX))).mono ?_); rintro e w5 ⟨rfl, hx5⟩; replace hX := hX.trans hx5; have r1 := hX.cellS k1; have r2 := hX.cellS k2; have r3 := hX.cellS k3; have r4 := hX.cellS k4) | ((with_reducible refine (a2 _ (hw.ext (hE.trans hX))).mono ?_); rintro e w6 ⟨rfl, hx6⟩; replace hX := hX.trans hx6; have r1 := hX.cellS k1; have r2 := hX.cellS k2; have r3 := hX.cellS k3; have r4 := hX.cellS k4; have hb4 := (hX.block _ (lt_of_block hb2d)).trans hb2d; have g1 : w6.cell? ⟨w.heap.size + 1, 0, none⟩ = some (S []) := cell_of_blk hb4 rfl; have g2 : w6.cell? ⟨w.heap.size + 1, 1, none⟩ = some (S []) := cell_of_blk hb4 rfl; have g3 : w6.frozen? ⟨w.heap.size + 1, 0, none⟩ = false := free_of_blk hb4; have g4 : w6.frozen? ⟨w.heap.size + 1, 1, none⟩ = false := free_of_blk hb4))
  obtain ⟨e1, e2⟩ := set2 (S (R (stepR s.a.x s.b.x k))) (S (R (stepR s.a.y s.b.y k))) g1 g2
  have hE6 := hE.trans hX
  go_wp2
  refine bodyPost_ret (v := .agg #[S (R (stepR s.a.x s.b.x k)), S (R (stepR s.a.y s.b.y k))]) (by simp [results, Tryz.results41, go_sem, e1, e2]) rfl ?_
  exact ⟨rfl, (hE6.setCell (by show w.heap.size ≤ w.heap.size + 1; omega) _).setCell (by show w.heap.size ≤ w.heap.size + 1; omega) _⟩
end Go.Proofs.YtblijhokcjpeeaaGreatDoor
namespace Go.Proofs.YtblijhokcjpeeaaGreatDoor
open Go.RowKit Kl

theorem run_max4 {P : Program} {w : World} (ts : Array TypeId) (t : TypeId) (k : IntKind) (a b c d : Int) : (Builtin.max_ ts t #[.int k a, .int k b, .int k c, .int k d]).run P w = .ok (.int k (max (max (max a b) c) d)) w := by
  have m : ∀ x y : Int, (if y > x then y else x) = max x y := by intro x y; split <;> omega
  simp only [Builtin.max_, List.foldlM_cons, List.foldlM_nil, Builtin.max2]
  simp [m]
attribute [local go_sem] run_max4
theorem near_eq (part whole : Rat) (n : Nat) : ((n : Rat) * (part / whole) + 1/2).floor = nearR part whole n := by
  unfold nearR
  have e : (n : Rat) * (part / whole) = part * (n : Rat) / whole := by
    rw [Rat.div_def, Rat.div_def, ← Rat.mul_assoc, Rat.mul_comm (n : Rat) part]
  rw [e]
theorem sz_nat {n : Nat} (h : n ≤ 2000) : Sz 4 (n : Rat) := by
  have := Sz.int (k := 4) (z := (n : Int)) (by omega) (by rw [Int.natAbs_natCast]; omega)
  rwa [Rat.intCast_natCast] at this
set_option maxRecDepth 100000 in
set_option maxHeartbeats 8000000 in
theorem lawPixel_c (c : Cv) (p : Pt) (hc : CvS c) {a : Nat} (hp : SzP a p) (ha : 0 < a) (ha2 : a ≤ 3800) (hin : c.In p) (w : World) (hw : Okw w) :
    Calls Tryz.prog 42 #[cvV c, ptV p] w (RetV (.tuple #[dotV (colR c p) (rowR c p), .bool true]) w) := by
  have hl := hc.low
  have hh := hc.high
  have w2000 := hc.ok.w2
  have h2000 := hc.ok.h2
  have cc := colR_in hc.ok hin
  have rr := rowR_in hc.ok hin
  have hx0 : c.high.x - c.low.x ≠ 0 := by have := hc.ok.x; grind
  have hy0 : c.high.y - c.low.y ≠ 0 := by have := hc.ok.y; grind
  have zx1 := hp.x.sub hl.x
  have zx2 := hh.x.sub hl.x
  have zy1 := hh.y.sub hp.y
  have zy2 := hh.y.sub hl.y
  have o1 := refOf1_c (c.W : Int) (by omega)
  have o2 := refOf1_c (c.H : Int) (by omega)
  rw [Rat.intCast_natCast] at o1 o2
  have sx1 := lawSub_c p.x c.low.x (a := a) (b := 3) ⟨hp.x, hl.x, ha, by omega, by omega⟩
  have sx2 := lawSub_c c.high.x c.low.x (a := 3) (b := 3) ⟨hh.x, hl.x, by omega, by omega, by omega⟩
  have dx := lawDiv_c (p.x - c.low.x) (c.high.x - c.low.x) hx0 (a := a + 3 + 1) (b := 3 + 3 + 1) ⟨zx1, zx2, by omega, by omega, by omega⟩
  have zdx := zx1.div (by omega) zx2
  have mx := lawMul_c (c.W : Rat) ((p.x - c.low.x) / (c.high.x - c.low.x)) (a := 4) (b := a + 3 + 1 + (3 + 3 + 1)) ⟨sz_nat w2000, zdx, by omega, by omega, by omega⟩
  have sy1 := lawSub_c c.high.y p.y (a := 3) (b := a) ⟨hh.y, hp.y, by omega, ha, by omega⟩
  have sy2 := lawSub_c c.high.y c.low.y (a := 3) (b := 3) ⟨hh.y, hl.y, by omega, by omega, by omega⟩
  have dy := lawDiv_c (c.high.y - p.y) (c.high.y - c.low.y) hy0 (a := 3 + a + 1) (b := 3 + 3 + 1) ⟨zy1, zy2, by omega, by omega, by omega⟩
  have zdy := zy1.div (by omega) zy2
  have my := lawMul_c (c.H : Rat) ((c.high.y - p.y) / (c.high.y - c.low.y)) (a := 4) (b := 3 + a + 1 + (3 + 3 + 1)) ⟨sz_nat h2000, zdy, by omega, by omega, by omega⟩
  have nx := refNearest_c ((c.W : Rat) * ((p.x - c.low.x) / (c.high.x - c.low.x))) (k := 4 + (a + 3 + 1 + (3 + 3 + 1))) (by omega) (by omega) ((sz_nat w2000).mul zdx)
  have ny := refNearest_c ((c.H : Rat) * ((c.high.y - p.y) / (c.high.y - c.low.y))) (k := 4 + (3 + a + 1 + (3 + 3 + 1))) (by omega) (by omega) ((sz_nat h2000).mul zdy)
  rw [near_eq] at nx ny
  have e1 : nearR (p.x - c.low.x) (c.high.x - c.low.x) c.W = colR c p := rfl
  have e2 : nearR (c.high.y - p.y) (c.high.y - c.low.y) c.H = rowR c p := rfl
  rw [e1] at nx
  rw [e2] at ny
  have ax := atoi_ok (colR c p) (by omega) (by omega)
  have ay := atoi_ok (rowR c p) (by omega) (by omega)
  obtain ⟨col, hcol⟩ : ∃ z, z = colR c p := ⟨_, rfl⟩
  obtain ⟨row, hrow⟩ : ∃ z, z = rowR c p := ⟨_, rfl⟩
  rw [← hcol] at nx ax cc ⊢
  rw [← hrow] at ny ay rr ⊢
  obtain ⟨c1, c2⟩ := cc
  obtain ⟨r1, r2⟩ := rr
  have hmx : max (max (max col (-col)) row) (-row) ≤ 1000000 := by omega
  unfold cvV ptV dotV
  clear hl hh hc hp ha ha2 e1 e2 hcol hrow hx0 hy0 zx1 zx2 zy1 zy2 zdx zdy hin
  go_enter Tryz.func42, Tryz.ntmps42
  go_wp2_with fail
  obtain ⟨W, hW, hE, hb1, hb2, hb3⟩ := blk3 w (.cells #[S (R c.low.x), S (R c.low.y), S (R c.high.x), S (R c.high.y), .int .i64 (c.W : Nat), .int .i64 (c.H : Nat)] 35) (.cells #[S (R p.x), S (R p.y)] 29) (.cells #[.int .i64 0, .int .i64 0] 38)
  rw [← hW]
  have hC := BoxC.of hb1
  have hP : BoxP W (w.heap.size + 1) p := ⟨cell_of_blk hb2 rfl, cell_of_blk hb2 rfl⟩
  obtain ⟨j1, j2, j3, j4, j5, j6⟩ := hC
  obtain ⟨j7, j8⟩ := hP
  have hC := BoxC.of hb1
  have hP : BoxP W (w.heap.size + 1) p := ⟨cell_of_blk hb2 rfl, cell_of_blk hb2 rfl⟩
  have hWd := (Ext.refl W).drew
  clear hW hb1 hb2
  go_region_held3 (fun w' => w'.cell? ⟨w.heap.size, 0, none⟩ = some (S (R c.low.x)) ∧ w'.cell? ⟨w.heap.size, 2, none⟩ = some (S (R c.high.x)) ∧ w'.cell? ⟨w.heap.size, 4, none⟩ = some (.int .i64 (c.W : Nat)) ∧ w'.cell? ⟨w.heap.size + 1, 0, none⟩ = some (S (R p.x)))
    (go_keep)
    (first | ((with_reducible refine (o1 _ (hw.ext (hE.trans hWd))).mono ?_); rintro e w1 ⟨rfl, hx1⟩; have hX := hWd.trans hx1; obtain ⟨q1, q2, q3, q4, q5, q6⟩ := hC.ext hX; obtain ⟨q7, q8⟩ := hP.ext hX) | ((with_reducible refine (sx1 _ (hw.ext (hE.trans hX))).mono ?_); rintro e w2 ⟨rfl, hx2⟩; replace hX := hX.trans hx2; obtain ⟨q1, q2, q3, q4, q5, q6⟩ := hC.ext hX; obtain ⟨q7, q8⟩ := hP.ext hX) | ((with_reducible refine (sx2 _ (hw.ext (hE.trans hX))).mono ?_); rintro e w3 ⟨rfl, hx3⟩; replace hX := hX.trans hx3; obtain ⟨q1, q2, q3, q4, q5, q6⟩ := hC.ext hX; obtain ⟨q7, q8⟩ := hP.ext hX) | ((with_reducible refine (dx _ (hw.ext (hE.trans hX))).mono ?_); rintro e w4 ⟨rfl, hx4⟩; replace hX := hX.trans hx4; obtain ⟨q1, q2, q3, q4, q5, q6⟩ := hC.ext hX; obtain ⟨q7, q8⟩ := hP.ext hX) | ((with_reducible refine (mx _ (hw.ext (hE.trans hX))).mono ?_); rintro e w5 ⟨rfl, hx5⟩; replace hX := hX.trans hx5; obtain ⟨q1, q2, q3, q4, q5, q6⟩ := hC.ext hX; obtain ⟨q7, q8⟩ := hP.ext hX))
  have hE5 := hE.trans hX
  replace hC := hC.ext hX
  replace hP := hP.ext hX
  have hb5 := (hX.block _ (lt_of_block hb3)).trans hb3
  clear hX hWd hE hx1 hx2 hx3 hx4 hx5 j1 j2 j3 j4 j5 j6 j7 j8 q1 q2 q3 q4 q5 q6 q7 q8 o1 sx1 sx2 dx mx hb3
  have hWd := (Ext.refl w5).drew
  go_wp2_with fail
  obtain ⟨j1, j2, j3, j4, j5, j6⟩ := hC
  obtain ⟨j7, j8⟩ := hP
  have hC := BoxC.mk j1 j2 j3 j4 j5 j6
  have hP := BoxP.mk j7 j8
  go_region_held3 (fun w' => w'.cell? ⟨w.heap.size, 1, none⟩ = some (S (R c.low.y)) ∧ w'.cell? ⟨w.heap.size, 3, none⟩ = some (S (R c.high.y)) ∧ w'.cell? ⟨w.heap.size, 5, none⟩ = some (.int .i64 (c.H : Nat)) ∧ w'.cell? ⟨w.heap.size + 1, 1, none⟩ = some (S (R p.y)))
    (go_keep)
    (first | ((with_reducible refine (o2 _ (hw.ext (hE5.trans hWd))).mono ?_); rintro e v1 ⟨rfl, hx1⟩; have hX := hWd.trans hx1; obtain ⟨q1, q2, q3, q4, q5, q6⟩ := hC.ext hX; obtain ⟨q7, q8⟩ := hP.ext hX) | ((with_reducible refine (sy1 _ (hw.ext (hE5.trans hX))).mono ?_); rintro e v2 ⟨rfl, hx2⟩; replace hX := hX.trans hx2; obtain ⟨q1, q2, q3, q4, q5, q6⟩ := hC.ext hX; obtain ⟨q7, q8⟩ := hP.ext hX) | ((with_reducible refine (sy2 _ (hw.ext (hE5.trans hX))).mono ?_); rintro e v3 ⟨rfl, hx3⟩; replace hX := hX.trans hx3; obtain ⟨q1, q2, q3, q4, q5, q6⟩ := hC.ext hX; obtain ⟨q7, q8⟩ := hP.ext hX) | ((with_reducible refine (dy _ (hw.ext (hE5.trans hX))).mono ?_); rintro e v4 ⟨rfl, hx4⟩; replace hX := hX.trans hx4; obtain ⟨q1, q2, q3, q4, q5, q6⟩ := hC.ext hX; obtain ⟨q7, q8⟩ := hP.ext hX) | ((with_reducible refine (my _ (hw.ext (hE5.trans hX))).mono ?_); rintro e v5 ⟨rfl, hx5⟩; replace hX := hX.trans hx5; obtain ⟨q1, q2, q3, q4, q5, q6⟩ := hC.ext hX; obtain ⟨q7, q8⟩ := hP.ext hX))
  have hE6 := hE5.trans hX
  have hb6 := (hX.block _ (lt_of_block hb5)).trans hb5
  clear hX hWd hE5 hx1 hx2 hx3 hx4 hx5 j1 j2 j3 j4 j5 j6 j7 j8 q1 q2 q3 q4 q5 q6 q7 q8 o2 sy1 sy2 dy my hb5 hC hP
  go_wp2_with fail
  ((with_reducible refine (nx _ (hw.ext hE6)).mono ?_); rintro e x1 ⟨rfl, hx1⟩)
  go_wp2_with fail
  ((with_reducible refine (ax _).mono ?_); rintro e x2 ⟨rfl, hx2⟩)
  have hX := hx1.trans hx2
  go_wp2_with fail
  ((with_reducible refine (ny _ (hw.ext (hE6.trans hX))).mono ?_); rintro e x3 ⟨rfl, hx3⟩)
  go_wp2_with fail
  ((with_reducible refine (ay _).mono ?_); rintro e x4 ⟨rfl, hx4⟩)
  replace hX := (hX.trans hx3).trans hx4
  have hE7 := hE6.trans hX
  have hb7 := (hX.block _ (lt_of_block hb6)).trans hb6
  clear hX hx1 hx2 hx3 hx4 hE6 hb6 nx ny ax ay
  have g1 : x4.cell? ⟨w.heap.size + 1 + 1, 0, none⟩ = some (.int .i64 0) := cell_of_blk hb7 rfl
  have g2 : x4.cell? ⟨w.heap.size + 1 + 1, 1, none⟩ = some (.int .i64 0) := cell_of_blk hb7 rfl
  have g3 : x4.frozen? ⟨w.heap.size + 1 + 1, 0, none⟩ = false := free_of_blk hb7
  have g4 : x4.frozen? ⟨w.heap.size + 1 + 1, 1, none⟩ = false := free_of_blk hb7
  obtain ⟨e1, e2⟩ := set2 (.int .i64 col) (.int .i64 row) g1 g2
  go_wp2
  refine bodyPost_ret (v := .tuple #[.agg #[.int .i64 col, .int .i64 row], .bool true]) (by simp [results, Tryz.results42, go_sem, e1, e2]) rfl ?_
  exact ⟨rfl, (hE7.setCell (by show w.heap.size ≤ w.heap.size + 1 + 1; omega) _).setCell (by show w.heap.size ≤ w.heap.size + 1 + 1; omega) _⟩
end Go.Proofs.YtblijhokcjpeeaaGreatDoor
