/- integer.Gcd. -/
import Derived.Test.YtblijhokcjpeeaaGreatDoorMG
import Derived.Deep.LoopGhost
/- integer.Add, Sub. -/
namespace Go.Proofs.YtblijhokcjpeeaaGreatDoor
open Go.RowKit Kl

def RetNs (s : Bool) (n : Nat) (w : World) (e : Ending) (w' : World) : Prop := ∃ A c, e = .returned (.agg #[.bool s, .slice A (pc 1000000000 n).length c]) ∧ RdAt w' A c (pc 1000000000 n) ∧ Ext w w'
theorem open_s (z : Int) (hz : Bnd z) (s : Bool) (hs : s = decide (z < 0)) (w : World) : Calls Tryz.prog 119 #[S (I z)] w (RetNs s z.natAbs w) := by
  subst hs
  refine (open_c z hz w).mono ?_
  rintro e w' ⟨v, rfl, ⟨A, c, rfl, h⟩, hx⟩
  exact ⟨A, c, rfl, h, hx⟩
theorem RdAt.rd {w : World} {A : Option Addr} {c : Nat} {l : List Nat} (h : RdAt w A c l) : Rd w (.slice A l.length c) l := ⟨A, c, rfl, h⟩
theorem pc_len_mono' {a b : Nat} (h : a ≤ b) : (pc 1000000000 a).length ≤ (pc 1000000000 b).length := pc_len_mono h
/-- The pieces of two numbers in two boxes, and their signs. -/
structure Box2 (W : World) (b : Nat) (sx sy : Bool) (v u : Value) : Prop where
  k1 : W.cell? ⟨b, 0, none⟩ = some (.bool sx)
  k2 : W.cell? ⟨b, 1, none⟩ = some v
  k3 : W.cell? ⟨b + 1, 0, none⟩ = some (.bool sy)
  k4 : W.cell? ⟨b + 1, 1, none⟩ = some u
theorem Box2.ext {W W' : World} {b : Nat} {sx sy : Bool} {v u : Value} (h : Box2 W b sx sy v u) (hx : Ext W W') : Box2 W' b sx sy v u :=
  ⟨hx.cellS h.k1, hx.cellS h.k2, hx.cellS h.k3, hx.cellS h.k4⟩
theorem free_of_blk {W : World} {b o : Nat} {cs : Array Value} {t : TypeId} (h : W.heap[b]? = some (.cells cs t)) : W.frozen? ⟨b, o, none⟩ = false := by unfold World.frozen?; simp [h]
/-- A store into a cell that holds no number of 64 bits. -/
structure Kept (w5 V : World) (b : Nat) : Prop where
  ext : ∀ w0, Ext w0 w5 → w0.heap.size ≤ b → Ext w0 V
  rd : ∀ A c l, RdAt w5 A c l → RdAt V A c l
theorem Kept.refl (w : World) (b : Nat) : Kept w w b := ⟨fun _ h _ => h, fun _ _ _ h => h⟩
theorem Kept.set {w5 V : World} {b k o : Nat} (h : Kept w5 V b) (hk : b ≤ k) {v u : Value} (hv : V.cell? ⟨k, o, none⟩ = some v) (hn : ∀ n, v ≠ .int .u64 n) : Kept w5 (V.setCell ⟨k, o, none⟩ u) b :=
  ⟨fun w0 h0 hb => (h.ext w0 h0 hb).setCell (by show w0.heap.size ≤ k; omega) _, fun A c l hr => (h.rd A c l hr).setCell hv hn⟩
theorem swap4 {w : World} {b : Nat} {sx sy : Bool} {A3 A4 : Option Addr} {n3 n4 c3 c4 : Nat} (h : Box2 w b sx sy (.slice A3 n3 c3) (.slice A4 n4 c4)) :
    ∃ V, V = (((w.setCell ⟨b, 0, none⟩ (.bool sy)).setCell ⟨b, 1, none⟩ (.slice A4 n4 c4)).setCell ⟨b + 1, 0, none⟩ (.bool sx)).setCell ⟨b + 1, 1, none⟩ (.slice A3 n3 c3) ∧
      Box2 V b sy sx (.slice A4 n4 c4) (.slice A3 n3 c3) ∧ Kept w V b := by
  obtain ⟨k1, k2, k3, k4⟩ := h
  have e1 := World.cell?_setCell_same w _ (.bool sy) k1
  have e2 : (w.setCell ⟨b, 0, none⟩ (.bool sy)).cell? ⟨b, 1, none⟩ = _ := (World.cell?_setCell_other _ _ _ _ (by simp)).trans k2
  have e3 : (w.setCell ⟨b, 0, none⟩ (.bool sy)).cell? ⟨b + 1, 0, none⟩ = _ := (World.cell?_setCell_other _ _ _ _ (by simp)).trans k3
  have e4 : (w.setCell ⟨b, 0, none⟩ (.bool sy)).cell? ⟨b + 1, 1, none⟩ = _ := (World.cell?_setCell_other _ _ _ _ (by simp)).trans k4
  have z1 := (Kept.refl w b).set (Nat.le_refl b) (u := .bool sy) k1 (by simp)
  have z2 := z1.set (Nat.le_refl b) (u := .slice A4 n4 c4) e2 (by simp)
  have f1 := (World.cell?_setCell_other (w.setCell ⟨b, 0, none⟩ (.bool sy)) ⟨b, 1, none⟩ ⟨b, 0, none⟩ (.slice A4 n4 c4) (by simp)).trans e1
  have f2 := World.cell?_setCell_same (w.setCell ⟨b, 0, none⟩ (.bool sy)) _ (.slice A4 n4 c4) e2
  have f3 := (World.cell?_setCell_other (w.setCell ⟨b, 0, none⟩ (.bool sy)) ⟨b, 1, none⟩ ⟨b + 1, 0, none⟩ (.slice A4 n4 c4) (by simp)).trans e3
  have f4 := (World.cell?_setCell_other (w.setCell ⟨b, 0, none⟩ (.bool sy)) ⟨b, 1, none⟩ ⟨b + 1, 1, none⟩ (.slice A4 n4 c4) (by simp)).trans e4
  generalize (w.setCell ⟨b, 0, none⟩ (.bool sy)).setCell ⟨b, 1, none⟩ (.slice A4 n4 c4) = W at *
  have z3 := z2.set (show b ≤ b + 1 by omega) (u := .bool sx) f3 (by simp)
  have g1 := (World.cell?_setCell_other W ⟨b + 1, 0, none⟩ ⟨b, 0, none⟩ (.bool sx) (by simp)).trans f1
  have g2 := (World.cell?_setCell_other W ⟨b + 1, 0, none⟩ ⟨b, 1, none⟩ (.bool sx) (by simp)).trans f2
  have g3 := World.cell?_setCell_same W _ (.bool sx) f3
  have g4 := (World.cell?_setCell_other W ⟨b + 1, 0, none⟩ ⟨b + 1, 1, none⟩ (.bool sx) (by simp)).trans f4
  generalize W.setCell ⟨b + 1, 0, none⟩ (.bool sx) = X at *
  exact ⟨_, rfl, ⟨(World.cell?_setCell_other X _ _ _ (by simp)).trans g1, (World.cell?_setCell_other X _ _ _ (by simp)).trans g2, (World.cell?_setCell_other X _ _ _ (by simp)).trans g3, World.cell?_setCell_same X _ _ g4⟩, z3.set (by omega) g4 (by simp)⟩
theorem add_same {x y : Int} (h : decide (x < 0) = decide (y < 0)) : (if decide (x < 0) = true then -((x.natAbs + y.natAbs : Nat) : Int) else ((x.natAbs + y.natAbs : Nat) : Int)) = x + y := by
  by_cases hx : x < 0 <;> by_cases hy : y < 0 <;> simp [hx, hy] at h ⊢ <;> omega
theorem add_diff {x y : Int} (h : decide (x < 0) ≠ decide (y < 0)) (hl : y.natAbs ≤ x.natAbs) : (if decide (x < 0) = true then -((x.natAbs - y.natAbs : Nat) : Int) else ((x.natAbs - y.natAbs : Nat) : Int)) = x + y := by
  by_cases hx : x < 0 <;> by_cases hy : y < 0 <;> simp [hx, hy] at h ⊢ <;> omega

set_option maxRecDepth 100000 in
set_option maxHeartbeats 1000000 in
theorem iAdd_quick (x y : Int) (hx : (I x).length ≤ 18) (hy : (I y).length ≤ 18) (w : World) (hw : Okw w) :
    Calls Tryz.prog 61 #[S (I x), S (I y)] w (RetS (I (x + y)) w) := by
  have q1 := quick18_c x
  have q2 := quick18_c y
  rw [quick_yes hx] at q1
  rw [quick_yes hy] at q2
  have b1 := short_lt hx
  have b2 := short_lt hy
  have e18 : (10 : Nat) ^ 18 = 1000000000000000000 := by decide
  rw [e18] at b1 b2
  have hwr : IntKind.i64.wrap (x + y) = x + y := IntWalk.i64_in _ (by omega)
  have ho := fun W hW => iOf_c (x + y) (by omega) (by omega) W hW
  clear hx hy b1 b2 e18
  go_enter Tryz.func61, Tryz.ntmps61
  go_wp2_with fail
  ((with_reducible refine (q1 _).mono ?_); rintro e w1 ⟨rfl, hx1⟩)
  go_wp2_with fail
  ((with_reducible refine (q2 _).mono ?_); rintro e w2 ⟨rfl, hx2⟩)
  have hx12 := hx1.trans hx2
  go_wp2_with fail
  ((with_reducible refine (ho _ (hw.ext hx12)).mono ?_); rintro e w3 ⟨rfl, hx3⟩)
  go_wp2
  go_ret
  exact ⟨rfl, hx12.trans hx3⟩

set_option maxRecDepth 100000 in
set_option maxHeartbeats 4000000 in
theorem iAdd_long (x y : Int) (hx : Bnd x) (hy : Bnd y) (hn : ¬ ((I x).length ≤ 18 ∧ (I y).length ≤ 18)) (w : World) (hw : Okw w) :
    Calls Tryz.prog 61 #[S (I x), S (I y)] w (RetS (I (x + y)) w) := by
  have q1 := quick18_c x
  have q2 := quick18_c y
  have lx := hx.pc
  have ly := hy.pc
  obtain ⟨sx, hsx⟩ : ∃ s, s = decide (x < 0) := ⟨_, rfl⟩
  obtain ⟨sy, hsy⟩ : ∃ s, s = decide (y < 0) := ⟨_, rfl⟩
  have o1 := open_s x hx sx hsx
  have o2 := open_s y hy sy hsy
  have m1 := @add_same x y
  have m2 := @add_diff x y
  have m3 := @add_diff y x
  rw [← hsx, ← hsy] at m1 m2 m3
  rw [Int.add_comm y x] at m3
  clear hx hy hsx hsy
  by_cases h1 : (I x).length ≤ 18
  case' pos =>
    rw [quick_yes h1] at q1
    rw [quick_no fun h => hn ⟨h1, h⟩] at q2
    clear h1 hn
    have M1 := Lib.hid m1
    have M2 := Lib.hid m2
    have M3 := Lib.hid m3
    clear m1 m2 m3
    go_enter Tryz.func61, Tryz.ntmps61
    go_wp2_with fail
    ((with_reducible refine (q1 _).mono ?_); rintro e w1 ⟨rfl, hx1⟩)
    go_wp2_with fail
    ((with_reducible refine (q2 _).mono ?_); rintro e w2 ⟨rfl, hx2⟩)
    have hx := hx1.trans hx2
    clear hx1 hx2
    go_wp2_with fail
  case' neg =>
    rw [quick_no h1] at q1
    clear h1 hn
    have M1 := Lib.hid m1
    have M2 := Lib.hid m2
    have M3 := Lib.hid m3
    clear m1 m2 m3
    go_enter Tryz.func61, Tryz.ntmps61
    go_wp2_with fail
    ((with_reducible refine (q1 _).mono ?_); rintro e w2 ⟨rfl, hx⟩)
    go_wp2_with fail
  all_goals
    clear q1 q2
    ((with_reducible refine (o1 _).mono ?_); rintro e w3 ⟨A3, c3, rfl, hv3, hx3⟩)
    go_wp2_with fail
    ((with_reducible refine (o2 _).mono ?_); rintro e w4 ⟨A4, c4, rfl, hv4, hx4⟩)
    have hx := (hx.trans hx3).trans hx4
    have hv3 := hv3.ext hx4
    clear o1 o2 hx3 hx4
    go_upto_region 7 with fail
    obtain ⟨W, hW, hE, hb1, hb2⟩ := boxes2 w4 (.bool sx) (.slice A3 (pc 1000000000 x.natAbs).length c3) (.bool sy) (.slice A4 (pc 1000000000 y.natAbs).length c4) 161 161
    rw [← hW]
    have hv3 := hv3.ext hE
    have hv4 := hv4.ext hE
    have hxW := hx.trans hE
    have k1 : W.cell? ⟨w4.heap.size, 0, none⟩ = some (.bool sx) := cell_of_blk hb1 rfl
    have k2 : W.cell? ⟨w4.heap.size, 1, none⟩ = some (.slice A3 (pc 1000000000 x.natAbs).length c3) := cell_of_blk hb1 rfl
    have k3 : W.cell? ⟨w4.heap.size + 1, 0, none⟩ = some (.bool sy) := cell_of_blk hb2 rfl
    have k4 : W.cell? ⟨w4.heap.size + 1, 1, none⟩ = some (.slice A4 (pc 1000000000 y.natAbs).length c4) := cell_of_blk hb2 rfl
    have hxs : w.heap.size ≤ w4.heap.size := hx.size
    clear hW hE hx
    by_cases hs : sx = sy
    · subst hs
      have hm := M1.out rfl
      have HM := Lib.hid hm
      clear hm M1 M2 M3
      go_wp2_with fail
      have ht := plus_c (pc 1000000000 x.natAbs) (pc 1000000000 y.natAbs) _ _ W.drew (hv3.ext (Ext.refl W).drew).rd (hv4.ext (Ext.refl W).drew).rd (by omega) (by omega) (pc_lt b9 _) (pc_lt b9 _)
      rw [ofL_pc b9, ofL_pc b9] at ht
      have hc := fun W2 v2 (h : Ext W.drew W2) (h2 : Rd W2 v2 _) => close_c sx (x.natAbs + y.natAbs) v2 W2 (hw.ext (hxW.drew.trans h)) h2
      rw [closeT_of, HM.out] at hc
      go_region_held3 (fun w' => w'.cell? ⟨w4.heap.size, 0, none⟩ = some (.bool sx) ∧ w'.cell? ⟨w4.heap.size, 1, none⟩ = some (.slice A3 (pc 1000000000 x.natAbs).length c3) ∧ w'.cell? ⟨w4.heap.size + 1, 0, none⟩ = some (.bool sx) ∧ w'.cell? ⟨w4.heap.size + 1, 1, none⟩ = some (.slice A4 (pc 1000000000 y.natAbs).length c4))
        (first | go_keep | exact ⟨hx5.cellS k1, hx5.cellS k2, hx5.cellS k3, hx5.cellS k4⟩ | exact ⟨(hx5.trans hx6).cellS k1, (hx5.trans hx6).cellS k2, (hx5.trans hx6).cellS k3, (hx5.trans hx6).cellS k4⟩)
        (first | ((with_reducible refine ht.mono ?_); rintro e w5 ⟨v5, rfl, ⟨A5, c5, rfl, hv5⟩, hx5⟩) | ((with_reducible refine (hc _ _ hx5 hv5.rd).mono ?_); rintro e w6 ⟨rfl, hx6⟩))
      go_wp2
      go_ret
      exact ⟨rfl, (hxW.drew.trans hx5).trans hx6⟩
    · have hsn : (sx == sy) = false := by rw [beq_eq_false_iff_ne]; exact hs
      have M2' := Lib.hid (M2.out hs)
      have M3' := Lib.hid (M3.out (Ne.symm hs))
      clear hs M1 M2 M3
      have ho := order_c (pc 1000000000 x.natAbs) (pc 1000000000 y.natAbs) _ _ W hv3.rd hv4.rd (pc_lt b9 _) (pc_lt b9 _) (trim_pc b9 _) (trim_pc b9 _)
      rw [ofL_pc b9, ofL_pc b9] at ho
      by_cases hl : x.natAbs < y.natAbs
      · rw [cmpN_lt hl] at ho
        have HM := Lib.hid (M3'.out (Nat.le_of_lt hl))
        clear M2' M3'
        go_wp2_with fail
        ((with_reducible refine ho.mono ?_); rintro e w5 ⟨rfl, hx5⟩)
        have g1 := hx5.cellS k1
        have g2 := hx5.cellS k2
        have g3 := hx5.cellS k3
        have g4 := hx5.cellS k4
        have j1 := fun o => free_of_blk (o := o) ((hx5.block _ (lt_of_block hb1)).trans hb1)
        have j2 := fun o => free_of_blk (o := o) ((hx5.block _ (lt_of_block hb2)).trans hb2)
        go_wp2_with fail
        obtain ⟨V, hV, hB, hK⟩ := swap4 (Box2.mk g1 g2 g3 g4)
        rw [← hV]
        have hxV : Ext w V := hK.ext w (hxW.trans hx5) hxs
        have hv3 := hK.rd _ _ _ (hv3.ext hx5)
        have hv4 := hK.rd _ _ _ (hv4.ext hx5)
        have g1 := hB.k1
        have g2 := hB.k2
        have g3 := hB.k3
        have g4 := hB.k4
        clear hV j1 j2 hB hK hx5 hxW k1 k2 k3 k4 hb1 hb2 ho
        have ht := minus_c (pc 1000000000 y.natAbs) (pc 1000000000 x.natAbs) _ _ V.drew (hv4.ext (Ext.refl V).drew).rd (hv3.ext (Ext.refl V).drew).rd (by omega) (pc_lt b9 _) (pc_lt b9 _) (pc_len_mono' (Nat.le_of_lt hl)) (by rw [ofL_pc b9, ofL_pc b9]; exact Nat.le_of_lt hl)
        rw [ofL_pc b9, ofL_pc b9] at ht
        have hc := fun W2 v2 (h : Ext V.drew W2) (h2 : Rd W2 v2 _) => close_c sy (y.natAbs - x.natAbs) v2 W2 (hw.ext (hxV.drew.trans h)) h2
        rw [closeT_of, HM.out] at hc
        go_region_held3 (fun w' => w'.cell? ⟨w4.heap.size, 0, none⟩ = some (.bool sy) ∧ w'.cell? ⟨w4.heap.size, 1, none⟩ = some (.slice A4 (pc 1000000000 y.natAbs).length c4) ∧ w'.cell? ⟨w4.heap.size + 1, 0, none⟩ = some (.bool sx) ∧ w'.cell? ⟨w4.heap.size + 1, 1, none⟩ = some (.slice A3 (pc 1000000000 x.natAbs).length c3))
          (first | go_keep | exact ⟨hx5.cellS g1, hx5.cellS g2, hx5.cellS g3, hx5.cellS g4⟩ | exact ⟨(hx5.trans hx6).cellS g1, (hx5.trans hx6).cellS g2, (hx5.trans hx6).cellS g3, (hx5.trans hx6).cellS g4⟩)
          (first | ((with_reducible refine ht.mono ?_); rintro e w5 ⟨v5, rfl, ⟨A5, c5, rfl, hv5⟩, hx5⟩) | ((with_reducible refine (hc _ _ hx5 hv5.rd).mono ?_); rintro e w6 ⟨rfl, hx6⟩))
        go_wp2
        go_ret
        exact ⟨rfl, (hxV.drew.trans hx5).trans hx6⟩
      · have hge : y.natAbs ≤ x.natAbs := Nat.le_of_not_lt hl
        obtain ⟨s, hs, hs0⟩ : ∃ s : Int, s = cmpN x.natAbs y.natAbs ∧ ¬ s < 0 := by
          rcases Nat.lt_or_eq_of_le hge with h | h
          · exact ⟨_, rfl, by rw [cmpN_gt h]; omega⟩
          · exact ⟨_, rfl, by rw [cmpN_eq h.symm]; omega⟩
        rw [← hs] at ho
        have HM := Lib.hid (M2'.out hge)
        clear M2' M3' hs hl
        go_wp2_with fail
        ((with_reducible refine ho.mono ?_); rintro e w5 ⟨rfl, hx5⟩)
        have g1 := hx5.cellS k1
        have g2 := hx5.cellS k2
        have g3 := hx5.cellS k3
        have g4 := hx5.cellS k4
        go_wp2_with fail
        have hxV := hxW.trans hx5
        have hv3 := hv3.ext hx5
        have hv4 := hv4.ext hx5
        clear hx5 hxW k1 k2 k3 k4 hb1 hb2 ho
        have ht := minus_c (pc 1000000000 x.natAbs) (pc 1000000000 y.natAbs) _ _ w5.drew (hv3.ext (Ext.refl w5).drew).rd (hv4.ext (Ext.refl w5).drew).rd (by omega) (pc_lt b9 _) (pc_lt b9 _) (pc_len_mono' hge) (by rw [ofL_pc b9, ofL_pc b9]; exact hge)
        rw [ofL_pc b9, ofL_pc b9] at ht
        have hc := fun W2 v2 (h : Ext w5.drew W2) (h2 : Rd W2 v2 _) => close_c sx (x.natAbs - y.natAbs) v2 W2 (hw.ext (hxV.drew.trans h)) h2
        rw [closeT_of, HM.out] at hc
        go_region_held3 (fun w' => w'.cell? ⟨w4.heap.size, 0, none⟩ = some (.bool sx) ∧ w'.cell? ⟨w4.heap.size, 1, none⟩ = some (.slice A3 (pc 1000000000 x.natAbs).length c3) ∧ w'.cell? ⟨w4.heap.size + 1, 0, none⟩ = some (.bool sy) ∧ w'.cell? ⟨w4.heap.size + 1, 1, none⟩ = some (.slice A4 (pc 1000000000 y.natAbs).length c4))
          (first | go_keep | exact ⟨hx7.cellS g1, hx7.cellS g2, hx7.cellS g3, hx7.cellS g4⟩ | exact ⟨(hx7.trans hx6).cellS g1, (hx7.trans hx6).cellS g2, (hx7.trans hx6).cellS g3, (hx7.trans hx6).cellS g4⟩)
          (first | ((with_reducible refine ht.mono ?_); rintro e w7 ⟨v5, rfl, ⟨A5, c5, rfl, hv5⟩, hx7⟩) | ((with_reducible refine (hc _ _ hx7 hv5.rd).mono ?_); rintro e w6 ⟨rfl, hx6⟩))
        go_wp2
        go_ret
        exact ⟨rfl, (hxV.drew.trans hx7).trans hx6⟩

/-- The sum. -/
theorem iAdd_c (x y : Int) (hx : Bnd x) (hy : Bnd y) (w : World) (hw : Okw w) : Calls Tryz.prog 61 #[S (I x), S (I y)] w (RetS (I (x + y)) w) := by
  by_cases h : (I x).length ≤ 18 ∧ (I y).length ≤ 18
  · exact iAdd_quick x y h.1 h.2 w hw
  · exact iAdd_long x y hx hy h w hw
end Go.Proofs.YtblijhokcjpeeaaGreatDoor
/- integer.DivMod. -/
namespace Go.Proofs.YtblijhokcjpeeaaGreatDoor
open Go.RowKit Kl

theorem ud (x y : Int) (q r : Int) (hy : y ≠ 0) (h : r + y * q = x) (h0 : 0 ≤ r) (h1 : r < y.natAbs) : x / y = q ∧ x % y = r := by
  rcases Int.lt_or_gt_of_ne hy with hy | hy
  · exact (Int.ediv_emod_unique' hy).2 ⟨h, h0, by omega⟩
  · exact (Int.ediv_emod_unique hy).2 ⟨h, h0, by omega⟩
theorem div_spec (x y : Int) (hy : y ≠ 0) :
    (x < 0 → 0 < x.natAbs % y.natAbs → (if (decide (x < 0) != decide (y < 0)) = true then -((x.natAbs / y.natAbs + 1 : Nat) : Int) else ((x.natAbs / y.natAbs + 1 : Nat) : Int)) = x / y ∧ ((y.natAbs - x.natAbs % y.natAbs : Nat) : Int) = x % y) ∧
    (¬ (x < 0 ∧ 0 < x.natAbs % y.natAbs) → (if (decide (x < 0) != decide (y < 0)) = true then -((x.natAbs / y.natAbs : Nat) : Int) else ((x.natAbs / y.natAbs : Nat) : Int)) = x / y ∧ ((x.natAbs % y.natAbs : Nat) : Int) = x % y) := by
  have hm := Nat.div_add_mod x.natAbs y.natAbs
  have hl := Nat.mod_lt x.natAbs (show 0 < y.natAbs by omega)
  obtain ⟨q, hq⟩ : ∃ q, q = x.natAbs / y.natAbs := ⟨_, rfl⟩
  obtain ⟨m, hmm⟩ : ∃ m, m = x.natAbs % y.natAbs := ⟨_, rfl⟩
  rw [← hq, ← hmm] at hm ⊢
  rw [← hmm] at hl
  obtain ⟨a, ha⟩ := Int.eq_nat_or_neg x
  obtain ⟨b, hb⟩ := Int.eq_nat_or_neg y
  have e : ((y.natAbs * q + m : Nat) : Int) = (x.natAbs : Int) := by rw [hm]
  rw [Int.natCast_add, Int.natCast_mul] at e
  constructor
  · intro h1 h2
    refine (fun h : _ ∧ _ => ⟨h.1.symm, h.2.symm⟩) (ud x y _ _ hy ?_ (by omega) (by omega))
    by_cases hy0 : y < 0
    · simp only [h1, hy0, decide_true, bne_self_eq_false, Bool.false_eq_true, if_false]
      have : (y.natAbs : Int) = -y := by omega
      rw [this] at e
      rw [Int.natCast_add, Int.mul_add]
      rw [Int.neg_mul] at e
      generalize y * (q : Int) = P at *
      omega
    · rw [decide_eq_true h1, decide_eq_false hy0, if_pos (by decide)]
      have : (y.natAbs : Int) = y := by omega
      rw [this] at e
      rw [Int.natCast_add, Int.neg_add, Int.mul_add, Int.mul_neg]
      generalize y * (q : Int) = P at *
      omega
  · intro h1
    refine (fun h : _ ∧ _ => ⟨h.1.symm, h.2.symm⟩) (ud x y _ _ hy ?_ (by omega) (by omega))
    by_cases hx0 : x < 0 <;> by_cases hy0 : y < 0
    · simp only [hx0, hy0, decide_true, bne_self_eq_false, Bool.false_eq_true, if_false]
      have : (y.natAbs : Int) = -y := by omega
      rw [this, Int.neg_mul] at e
      generalize y * (q : Int) = P at *
      omega
    · rw [decide_eq_true hx0, decide_eq_false hy0, if_pos (by decide)]
      have : (y.natAbs : Int) = y := by omega
      rw [this] at e
      rw [Int.mul_neg]
      generalize y * (q : Int) = P at *
      omega
    · rw [decide_eq_false hx0, decide_eq_true hy0, if_pos (by decide)]
      have : (y.natAbs : Int) = -y := by omega
      rw [this, Int.neg_mul] at e
      rw [Int.mul_neg]
      generalize y * (q : Int) = P at *
      omega
    · simp only [hx0, hy0, bne_self_eq_false, Bool.false_eq_true, if_false]
      have : (y.natAbs : Int) = y := by omega
      rw [this] at e
      generalize y * (q : Int) = P at *
      omega

theorem I_nat' (n : Nat) : closeT false n = I (n : Int) := by rw [closeT_of]; rfl
/-- Quotient and remainder. -/
def divModV (x y : Int) : Value := .tuple #[S (I (x / y)), S (I (x % y)), .int .i64 0]

set_option maxRecDepth 100000 in
set_option maxHeartbeats 4000000 in
theorem dm_up (x y : Int) (q m : Nat) (hq : q = x.natAbs / y.natAbs) (hm : m = x.natAbs % y.natAbs) (hxn : x < 0) (hm0 : 0 < m) (hx : Bnd x) (hy : Bnd y) (hy0 : y ≠ 0) (E1 : closeT (decide (x < 0) != decide (y < 0)) (q + 1) = I (x / y)) (E2 : closeT false (y.natAbs - m) = I (x % y)) (w : World) (hw : Okw w) :
    Calls Tryz.prog 125 #[S (I x), S (I y)] w (RetV (divModV x y) w) := by
  have lx := hx.pc
  have ly := hy.pc
  have hys := I_ne0 hy0
  obtain ⟨sx, hsx⟩ : ∃ s, s = decide (x < 0) := ⟨_, rfl⟩
  obtain ⟨sy, hsy⟩ : ∃ s, s = decide (y < 0) := ⟨_, rfl⟩
  have o1 := open_s x hx sx hsx
  have o2 := open_s y hy sy hsy
  have hml : m < y.natAbs := by rw [hm]; exact Nat.mod_lt _ (by omega)
  have hql : (pc 1000000000 q).length ≤ 445 := Nat.le_trans (pc_len_mono' (by rw [hq]; exact Nat.div_le_self _ _)) lx
  have hmn : (pc 1000000000 m).length ≤ (pc 1000000000 y.natAbs).length := pc_len_mono' (Nat.le_of_lt hml)
  have hd := fun u v W hu hv => divide_c x.natAbs y.natAbs (by omega) (by omega) u v W hu hv
  rw [← hq, ← hm] at hd
  rw [← hsx, ← hsy] at E1
  have hsxs := hsx
  rw [decide_eq_true hxn] at hsxs
  subst hsxs
  have hpm : 0 < (pc 1000000000 m).length := List.length_pos_iff.2 fun h => by have := (pc_eq_nil b9).1 h; omega
  clear hsx hsy hq hm hxn
  cases sy
  · change closeT true _ = _ at E1
    have HE1 := Lib.hid E1
    have HE2 := Lib.hid E2
    clear E1 E2
    go_enter Tryz.func125, Tryz.ntmps125
    go_wp2_with fail
    ((with_reducible refine (o1 _).mono ?_); rintro e w3 ⟨A3, c3, rfl, hv3, hx3⟩)
    go_wp2_with fail
    ((with_reducible refine (o2 _).mono ?_); rintro e w4 ⟨A4, c4, rfl, hv4, hx4⟩)
    have hx := hx3.trans hx4
    have hv3 := hv3.ext hx4
    clear o1 o2 hx3 hx4
    go_upto_region 4 with fail
    obtain ⟨W, hW, hE, hb1, hb2⟩ := boxes2 w4 (.bool true) (.slice A3 (pc 1000000000 x.natAbs).length c3) (.bool false) (.slice A4 (pc 1000000000 y.natAbs).length c4) 161 161
    rw [← hW]
    have hv3 := hv3.ext hE
    have hv4 := hv4.ext hE
    have hxW := hx.trans hE
    have k1 : W.cell? ⟨w4.heap.size, 0, none⟩ = some (.bool true) := cell_of_blk hb1 rfl
    have k2 : W.cell? ⟨w4.heap.size, 1, none⟩ = some (.slice A3 (pc 1000000000 x.natAbs).length c3) := cell_of_blk hb1 rfl
    have k3 : W.cell? ⟨w4.heap.size + 1, 0, none⟩ = some (.bool false) := cell_of_blk hb2 rfl
    have k4 : W.cell? ⟨w4.heap.size + 1, 1, none⟩ = some (.slice A4 (pc 1000000000 y.natAbs).length c4) := cell_of_blk hb2 rfl
    clear hW hE hx hb1 hb2
    have hd := hd _ _ W hv3.rd hv4.rd
    go_wp2_with fail
    ((with_reducible refine hd.mono ?_); rintro e w5 ⟨vq, vm, rfl, ⟨A5, c5, rfl, hv5⟩, ⟨A6, c6, rfl, hv6⟩, hx5⟩)
    have k1 := hx5.cellS k1
    have k2 := hx5.cellS k2
    have k3 := hx5.cellS k3
    have k4 := hx5.cellS k4
    have hv4 := hv4.ext hx5
    have hxW := hxW.trans hx5
    clear hd hx5 hv3
    go_wp2_with fail
    have hlit : RdAt (w5.alloc (.cells #[.int .u64 1] 133)) (some ⟨w5.heap.size, 0, none⟩) 1 [1] :=
      ⟨by simp, by omega, by simp, fun _ => ⟨w5.heap.size, 0, rfl, fun j hj => by
        obtain rfl : j = 0 := by simpa using hj
        rw [World.cell?_alloc_at _ _ _ _ (by rfl)]; simp [at0]⟩⟩
    have hxa := (Ext.refl w5).alloc (.cells #[.int .u64 1] 133)
    have ht := plus_c (pc 1000000000 q) [1] _ _ (w5.alloc (.cells #[.int .u64 1] 133)).drew (hv5.ext hxa.drew).rd (hlit.ext (Ext.refl _).drew).rd (by omega) (by simp) (pc_lt b9 _) (by intro z hz; simp only [List.mem_singleton] at hz; omega)
    rw [ofL_pc b9, show ofL 1000000000 [1] = 1 by rfl] at ht
    change Calls Tryz.prog 120 #[_, .slice _ 1 1] _ _ at ht
    have hmi := fun W2 (h : Ext (w5.alloc (.cells #[.int .u64 1] 133)).drew W2) => minus_c (pc 1000000000 y.natAbs) (pc 1000000000 m) _ _ W2 (hv4.ext (hxa.drew.trans h)).rd (hv6.ext (hxa.drew.trans h)).rd (by omega) (pc_lt b9 _) (pc_lt b9 _) hmn (by rw [ofL_pc b9, ofL_pc b9]; exact Nat.le_of_lt hml)
    simp only [ofL_pc b9] at hmi
    go_region_held3 (fun w' => w'.cell? ⟨w4.heap.size + 1, 1, none⟩ = some (.slice A4 (pc 1000000000 y.natAbs).length c4))
      (first | go_keep | exact (hxa.drew.trans hx7).cellS k4 | exact (hxa.drew.trans (hx7.trans hx8)).cellS k4)
      (first | ((with_reducible refine ht.mono ?_); rintro e w7 ⟨v7, rfl, ⟨A7, c7, rfl, hv7⟩, hx7⟩) | ((with_reducible refine (hmi _ hx7).mono ?_); rintro e w8 ⟨v8, rfl, ⟨A8, c8, rfl, hv8⟩, hx8⟩))
    have k1 := (hxa.drew.trans (hx7.trans hx8)).cellS k1
    have k3 := (hxa.drew.trans (hx7.trans hx8)).cellS k3
    have hx9 := hxW.trans (hxa.drew.trans (hx7.trans hx8))
    have hc1 := fun W2 (h : Ext w8 W2) => close_c true (q + 1) _ W2 (hw.ext (hx9.trans h)) (hv7.ext (hx8.trans h)).rd
    have hc2 := fun W2 (h : Ext w8 W2) => close_c false (y.natAbs - m) _ W2 (hw.ext (hx9.trans h)) (hv8.ext h).rd
    rw [HE1.out] at hc1
    rw [HE2.out] at hc2
    clear hx7 hx8 hxa hxW hmi ht hlit hv7 hv8 k2 k4
    go_wp2_with fail
    ((with_reducible refine (hc1 _ (Ext.refl _)).mono ?_); rintro e wa ⟨rfl, hxa⟩)
    go_wp2_with fail
    ((with_reducible refine (hc2 _ hxa).mono ?_); rintro e wb ⟨rfl, hxb⟩)
    go_wp2
    go_ret3
    exact ⟨rfl, hx9.trans (hxa.trans hxb)⟩
  · change closeT false _ = _ at E1
    have HE1 := Lib.hid E1
    have HE2 := Lib.hid E2
    clear E1 E2
    go_enter Tryz.func125, Tryz.ntmps125
    go_wp2_with fail
    ((with_reducible refine (o1 _).mono ?_); rintro e w3 ⟨A3, c3, rfl, hv3, hx3⟩)
    go_wp2_with fail
    ((with_reducible refine (o2 _).mono ?_); rintro e w4 ⟨A4, c4, rfl, hv4, hx4⟩)
    have hx := hx3.trans hx4
    have hv3 := hv3.ext hx4
    clear o1 o2 hx3 hx4
    go_upto_region 4 with fail
    obtain ⟨W, hW, hE, hb1, hb2⟩ := boxes2 w4 (.bool true) (.slice A3 (pc 1000000000 x.natAbs).length c3) (.bool true) (.slice A4 (pc 1000000000 y.natAbs).length c4) 161 161
    rw [← hW]
    have hv3 := hv3.ext hE
    have hv4 := hv4.ext hE
    have hxW := hx.trans hE
    have k1 : W.cell? ⟨w4.heap.size, 0, none⟩ = some (.bool true) := cell_of_blk hb1 rfl
    have k2 : W.cell? ⟨w4.heap.size, 1, none⟩ = some (.slice A3 (pc 1000000000 x.natAbs).length c3) := cell_of_blk hb1 rfl
    have k3 : W.cell? ⟨w4.heap.size + 1, 0, none⟩ = some (.bool true) := cell_of_blk hb2 rfl
    have k4 : W.cell? ⟨w4.heap.size + 1, 1, none⟩ = some (.slice A4 (pc 1000000000 y.natAbs).length c4) := cell_of_blk hb2 rfl
    clear hW hE hx hb1 hb2
    have hd := hd _ _ W hv3.rd hv4.rd
    go_wp2_with fail
    ((with_reducible refine hd.mono ?_); rintro e w5 ⟨vq, vm, rfl, ⟨A5, c5, rfl, hv5⟩, ⟨A6, c6, rfl, hv6⟩, hx5⟩)
    have k1 := hx5.cellS k1
    have k2 := hx5.cellS k2
    have k3 := hx5.cellS k3
    have k4 := hx5.cellS k4
    have hv4 := hv4.ext hx5
    have hxW := hxW.trans hx5
    clear hd hx5 hv3
    go_wp2_with fail
    have hlit : RdAt (w5.alloc (.cells #[.int .u64 1] 133)) (some ⟨w5.heap.size, 0, none⟩) 1 [1] :=
      ⟨by simp, by omega, by simp, fun _ => ⟨w5.heap.size, 0, rfl, fun j hj => by
        obtain rfl : j = 0 := by simpa using hj
        rw [World.cell?_alloc_at _ _ _ _ (by rfl)]; simp [at0]⟩⟩
    have hxa := (Ext.refl w5).alloc (.cells #[.int .u64 1] 133)
    have ht := plus_c (pc 1000000000 q) [1] _ _ (w5.alloc (.cells #[.int .u64 1] 133)).drew (hv5.ext hxa.drew).rd (hlit.ext (Ext.refl _).drew).rd (by omega) (by simp) (pc_lt b9 _) (by intro z hz; simp only [List.mem_singleton] at hz; omega)
    rw [ofL_pc b9, show ofL 1000000000 [1] = 1 by rfl] at ht
    change Calls Tryz.prog 120 #[_, .slice _ 1 1] _ _ at ht
    have hmi := fun W2 (h : Ext (w5.alloc (.cells #[.int .u64 1] 133)).drew W2) => minus_c (pc 1000000000 y.natAbs) (pc 1000000000 m) _ _ W2 (hv4.ext (hxa.drew.trans h)).rd (hv6.ext (hxa.drew.trans h)).rd (by omega) (pc_lt b9 _) (pc_lt b9 _) hmn (by rw [ofL_pc b9, ofL_pc b9]; exact Nat.le_of_lt hml)
    simp only [ofL_pc b9] at hmi
    go_region_held3 (fun w' => w'.cell? ⟨w4.heap.size + 1, 1, none⟩ = some (.slice A4 (pc 1000000000 y.natAbs).length c4))
      (first | go_keep | exact (hxa.drew.trans hx7).cellS k4 | exact (hxa.drew.trans (hx7.trans hx8)).cellS k4)
      (first | ((with_reducible refine ht.mono ?_); rintro e w7 ⟨v7, rfl, ⟨A7, c7, rfl, hv7⟩, hx7⟩) | ((with_reducible refine (hmi _ hx7).mono ?_); rintro e w8 ⟨v8, rfl, ⟨A8, c8, rfl, hv8⟩, hx8⟩))
    have k1 := (hxa.drew.trans (hx7.trans hx8)).cellS k1
    have k3 := (hxa.drew.trans (hx7.trans hx8)).cellS k3
    have hx9 := hxW.trans (hxa.drew.trans (hx7.trans hx8))
    have hc1 := fun W2 (h : Ext w8 W2) => close_c false (q + 1) _ W2 (hw.ext (hx9.trans h)) (hv7.ext (hx8.trans h)).rd
    have hc2 := fun W2 (h : Ext w8 W2) => close_c false (y.natAbs - m) _ W2 (hw.ext (hx9.trans h)) (hv8.ext h).rd
    rw [HE1.out] at hc1
    rw [HE2.out] at hc2
    clear hx7 hx8 hxa hxW hmi ht hlit hv7 hv8 k2 k4
    go_wp2_with fail
    ((with_reducible refine (hc1 _ (Ext.refl _)).mono ?_); rintro e wa ⟨rfl, hxa⟩)
    go_wp2_with fail
    ((with_reducible refine (hc2 _ hxa).mono ?_); rintro e wb ⟨rfl, hxb⟩)
    go_wp2
    go_ret3
    exact ⟨rfl, hx9.trans (hxa.trans hxb)⟩
set_option maxRecDepth 100000 in
set_option maxHeartbeats 4000000 in
theorem dm_neg0 (x y : Int) (q m : Nat) (hq : q = x.natAbs / y.natAbs) (hm : m = x.natAbs % y.natAbs) (hxn : x < 0) (hm0 : m = 0) (hx : Bnd x) (hy : Bnd y) (hy0 : y ≠ 0) (E1 : closeT (decide (x < 0) != decide (y < 0)) q = I (x / y)) (E2 : closeT false m = I (x % y)) (w : World) (hw : Okw w) :
    Calls Tryz.prog 125 #[S (I x), S (I y)] w (RetV (divModV x y) w) := by
  have lx := hx.pc
  have ly := hy.pc
  have hys := I_ne0 hy0
  obtain ⟨sx, hsx⟩ : ∃ s, s = decide (x < 0) := ⟨_, rfl⟩
  obtain ⟨sy, hsy⟩ : ∃ s, s = decide (y < 0) := ⟨_, rfl⟩
  have o1 := open_s x hx sx hsx
  have o2 := open_s y hy sy hsy
  have hml : m < y.natAbs := by rw [hm]; exact Nat.mod_lt _ (by omega)
  have hql : (pc 1000000000 q).length ≤ 445 := Nat.le_trans (pc_len_mono' (by rw [hq]; exact Nat.div_le_self _ _)) lx
  have hmn : (pc 1000000000 m).length ≤ (pc 1000000000 y.natAbs).length := pc_len_mono' (Nat.le_of_lt hml)
  have hd := fun u v W hu hv => divide_c x.natAbs y.natAbs (by omega) (by omega) u v W hu hv
  rw [← hq, ← hm] at hd
  rw [← hsx, ← hsy] at E1
  have hsxs := hsx
  rw [decide_eq_true hxn] at hsxs
  subst hsxs
  have hpm : (pc 1000000000 m).length = 0 := by rw [hm0, pc_zero]; rfl
  have hpm2 : decide (0 < (pc 1000000000 m).length) = false := by rw [hpm]; rfl
  clear hpm hm0
  clear hsx hsy hq hm hxn
  cases sy
  · change closeT true _ = _ at E1
    have HE1 := Lib.hid E1
    have HE2 := Lib.hid E2
    clear E1 E2
    go_enter Tryz.func125, Tryz.ntmps125
    go_wp2_with fail
    ((with_reducible refine (o1 _).mono ?_); rintro e w3 ⟨A3, c3, rfl, hv3, hx3⟩)
    go_wp2_with fail
    ((with_reducible refine (o2 _).mono ?_); rintro e w4 ⟨A4, c4, rfl, hv4, hx4⟩)
    have hx := hx3.trans hx4
    have hv3 := hv3.ext hx4
    clear o1 o2 hx3 hx4
    go_upto_region 4 with fail
    obtain ⟨W, hW, hE, hb1, hb2⟩ := boxes2 w4 (.bool true) (.slice A3 (pc 1000000000 x.natAbs).length c3) (.bool false) (.slice A4 (pc 1000000000 y.natAbs).length c4) 161 161
    rw [← hW]
    have hv3 := hv3.ext hE
    have hv4 := hv4.ext hE
    have hxW := hx.trans hE
    have k1 : W.cell? ⟨w4.heap.size, 0, none⟩ = some (.bool true) := cell_of_blk hb1 rfl
    have k2 : W.cell? ⟨w4.heap.size, 1, none⟩ = some (.slice A3 (pc 1000000000 x.natAbs).length c3) := cell_of_blk hb1 rfl
    have k3 : W.cell? ⟨w4.heap.size + 1, 0, none⟩ = some (.bool false) := cell_of_blk hb2 rfl
    have k4 : W.cell? ⟨w4.heap.size + 1, 1, none⟩ = some (.slice A4 (pc 1000000000 y.natAbs).length c4) := cell_of_blk hb2 rfl
    clear hW hE hx hb1 hb2
    have hd := hd _ _ W hv3.rd hv4.rd
    go_wp2_with fail
    ((with_reducible refine hd.mono ?_); rintro e w5 ⟨vq, vm, rfl, ⟨A5, c5, rfl, hv5⟩, ⟨A6, c6, rfl, hv6⟩, hx5⟩)
    have k1 := hx5.cellS k1
    have k2 := hx5.cellS k2
    have k3 := hx5.cellS k3
    have k4 := hx5.cellS k4
    have hv4 := hv4.ext hx5
    have hxW := hxW.trans hx5
    clear hd hx5 hv3
    have hc1 := fun W2 (h : Ext w5 W2) => close_c true q _ W2 (hw.ext (hxW.trans h)) (hv5.ext h).rd
    have hc2 := fun W2 (h : Ext w5 W2) => close_c false m _ W2 (hw.ext (hxW.trans h)) (hv6.ext h).rd
    rw [HE1.out] at hc1
    rw [HE2.out] at hc2
    clear k2 k4 hv4 hv5 hv6
    go_wp2_with fail
    ((with_reducible refine (hc1 _ (Ext.refl _)).mono ?_); rintro e wa ⟨rfl, hxa⟩)
    go_wp2_with fail
    ((with_reducible refine (hc2 _ hxa).mono ?_); rintro e wb ⟨rfl, hxb⟩)
    go_wp2
    go_ret3
    exact ⟨rfl, hxW.trans (hxa.trans hxb)⟩
  · change closeT false _ = _ at E1
    have HE1 := Lib.hid E1
    have HE2 := Lib.hid E2
    clear E1 E2
    go_enter Tryz.func125, Tryz.ntmps125
    go_wp2_with fail
    ((with_reducible refine (o1 _).mono ?_); rintro e w3 ⟨A3, c3, rfl, hv3, hx3⟩)
    go_wp2_with fail
    ((with_reducible refine (o2 _).mono ?_); rintro e w4 ⟨A4, c4, rfl, hv4, hx4⟩)
    have hx := hx3.trans hx4
    have hv3 := hv3.ext hx4
    clear o1 o2 hx3 hx4
    go_upto_region 4 with fail
    obtain ⟨W, hW, hE, hb1, hb2⟩ := boxes2 w4 (.bool true) (.slice A3 (pc 1000000000 x.natAbs).length c3) (.bool true) (.slice A4 (pc 1000000000 y.natAbs).length c4) 161 161
    rw [← hW]
    have hv3 := hv3.ext hE
    have hv4 := hv4.ext hE
    have hxW := hx.trans hE
    have k1 : W.cell? ⟨w4.heap.size, 0, none⟩ = some (.bool true) := cell_of_blk hb1 rfl
    have k2 : W.cell? ⟨w4.heap.size, 1, none⟩ = some (.slice A3 (pc 1000000000 x.natAbs).length c3) := cell_of_blk hb1 rfl
    have k3 : W.cell? ⟨w4.heap.size + 1, 0, none⟩ = some (.bool true) := cell_of_blk hb2 rfl
    have k4 : W.cell? ⟨w4.heap.size + 1, 1, none⟩ = some (.slice A4 (pc 1000000000 y.natAbs).length c4) := cell_of_blk hb2 rfl
    clear hW hE hx hb1 hb2
    have hd := hd _ _ W hv3.rd hv4.rd
    go_wp2_with fail
    ((with_reducible refine hd.mono ?_); rintro e w5 ⟨vq, vm, rfl, ⟨A5, c5, rfl, hv5⟩, ⟨A6, c6, rfl, hv6⟩, hx5⟩)
    have k1 := hx5.cellS k1
    have k2 := hx5.cellS k2
    have k3 := hx5.cellS k3
    have k4 := hx5.cellS k4
    have hv4 := hv4.ext hx5
    have hxW := hxW.trans hx5
    clear hd hx5 hv3
    have hc1 := fun W2 (h : Ext w5 W2) => close_c false q _ W2 (hw.ext (hxW.trans h)) (hv5.ext h).rd
    have hc2 := fun W2 (h : Ext w5 W2) => close_c false m _ W2 (hw.ext (hxW.trans h)) (hv6.ext h).rd
    rw [HE1.out] at hc1
    rw [HE2.out] at hc2
    clear k2 k4 hv4 hv5 hv6
    go_wp2_with fail
    ((with_reducible refine (hc1 _ (Ext.refl _)).mono ?_); rintro e wa ⟨rfl, hxa⟩)
    go_wp2_with fail
    ((with_reducible refine (hc2 _ hxa).mono ?_); rintro e wb ⟨rfl, hxb⟩)
    go_wp2
    go_ret3
    exact ⟨rfl, hxW.trans (hxa.trans hxb)⟩
set_option maxRecDepth 100000 in
set_option maxHeartbeats 4000000 in
theorem dm_pos (x y : Int) (q m : Nat) (hq : q = x.natAbs / y.natAbs) (hm : m = x.natAbs % y.natAbs) (hxn : ¬ x < 0) (hx : Bnd x) (hy : Bnd y) (hy0 : y ≠ 0) (E1 : closeT (decide (x < 0) != decide (y < 0)) q = I (x / y)) (E2 : closeT false m = I (x % y)) (w : World) (hw : Okw w) :
    Calls Tryz.prog 125 #[S (I x), S (I y)] w (RetV (divModV x y) w) := by
  have lx := hx.pc
  have ly := hy.pc
  have hys := I_ne0 hy0
  obtain ⟨sx, hsx⟩ : ∃ s, s = decide (x < 0) := ⟨_, rfl⟩
  obtain ⟨sy, hsy⟩ : ∃ s, s = decide (y < 0) := ⟨_, rfl⟩
  have o1 := open_s x hx sx hsx
  have o2 := open_s y hy sy hsy
  have hml : m < y.natAbs := by rw [hm]; exact Nat.mod_lt _ (by omega)
  have hql : (pc 1000000000 q).length ≤ 445 := Nat.le_trans (pc_len_mono' (by rw [hq]; exact Nat.div_le_self _ _)) lx
  have hmn : (pc 1000000000 m).length ≤ (pc 1000000000 y.natAbs).length := pc_len_mono' (Nat.le_of_lt hml)
  have hd := fun u v W hu hv => divide_c x.natAbs y.natAbs (by omega) (by omega) u v W hu hv
  rw [← hq, ← hm] at hd
  rw [← hsx, ← hsy] at E1
  have hsxs := hsx
  rw [decide_eq_false hxn] at hsxs
  subst hsxs
  clear hsx hsy hq hm hxn
  cases sy
  · change closeT false _ = _ at E1
    have HE1 := Lib.hid E1
    have HE2 := Lib.hid E2
    clear E1 E2
    go_enter Tryz.func125, Tryz.ntmps125
    go_wp2_with fail
    ((with_reducible refine (o1 _).mono ?_); rintro e w3 ⟨A3, c3, rfl, hv3, hx3⟩)
    go_wp2_with fail
    ((with_reducible refine (o2 _).mono ?_); rintro e w4 ⟨A4, c4, rfl, hv4, hx4⟩)
    have hx := hx3.trans hx4
    have hv3 := hv3.ext hx4
    clear o1 o2 hx3 hx4
    go_upto_region 4 with fail
    obtain ⟨W, hW, hE, hb1, hb2⟩ := boxes2 w4 (.bool false) (.slice A3 (pc 1000000000 x.natAbs).length c3) (.bool false) (.slice A4 (pc 1000000000 y.natAbs).length c4) 161 161
    rw [← hW]
    have hv3 := hv3.ext hE
    have hv4 := hv4.ext hE
    have hxW := hx.trans hE
    have k1 : W.cell? ⟨w4.heap.size, 0, none⟩ = some (.bool false) := cell_of_blk hb1 rfl
    have k2 : W.cell? ⟨w4.heap.size, 1, none⟩ = some (.slice A3 (pc 1000000000 x.natAbs).length c3) := cell_of_blk hb1 rfl
    have k3 : W.cell? ⟨w4.heap.size + 1, 0, none⟩ = some (.bool false) := cell_of_blk hb2 rfl
    have k4 : W.cell? ⟨w4.heap.size + 1, 1, none⟩ = some (.slice A4 (pc 1000000000 y.natAbs).length c4) := cell_of_blk hb2 rfl
    clear hW hE hx hb1 hb2
    have hd := hd _ _ W hv3.rd hv4.rd
    go_wp2_with fail
    ((with_reducible refine hd.mono ?_); rintro e w5 ⟨vq, vm, rfl, ⟨A5, c5, rfl, hv5⟩, ⟨A6, c6, rfl, hv6⟩, hx5⟩)
    have k1 := hx5.cellS k1
    have k2 := hx5.cellS k2
    have k3 := hx5.cellS k3
    have k4 := hx5.cellS k4
    have hv4 := hv4.ext hx5
    have hxW := hxW.trans hx5
    clear hd hx5 hv3
    have hc1 := fun W2 (h : Ext w5 W2) => close_c false q _ W2 (hw.ext (hxW.trans h)) (hv5.ext h).rd
    have hc2 := fun W2 (h : Ext w5 W2) => close_c false m _ W2 (hw.ext (hxW.trans h)) (hv6.ext h).rd
    rw [HE1.out] at hc1
    rw [HE2.out] at hc2
    clear k2 k4 hv4 hv5 hv6
    go_wp2_with fail
    ((with_reducible refine (hc1 _ (Ext.refl _)).mono ?_); rintro e wa ⟨rfl, hxa⟩)
    go_wp2_with fail
    ((with_reducible refine (hc2 _ hxa).mono ?_); rintro e wb ⟨rfl, hxb⟩)
    go_wp2
    go_ret3
    exact ⟨rfl, hxW.trans (hxa.trans hxb)⟩
  · change closeT true _ = _ at E1
    have HE1 := Lib.hid E1
    have HE2 := Lib.hid E2
    clear E1 E2
    go_enter Tryz.func125, Tryz.ntmps125
    go_wp2_with fail
    ((with_reducible refine (o1 _).mono ?_); rintro e w3 ⟨A3, c3, rfl, hv3, hx3⟩)
    go_wp2_with fail
    ((with_reducible refine (o2 _).mono ?_); rintro e w4 ⟨A4, c4, rfl, hv4, hx4⟩)
    have hx := hx3.trans hx4
    have hv3 := hv3.ext hx4
    clear o1 o2 hx3 hx4
    go_upto_region 4 with fail
    obtain ⟨W, hW, hE, hb1, hb2⟩ := boxes2 w4 (.bool false) (.slice A3 (pc 1000000000 x.natAbs).length c3) (.bool true) (.slice A4 (pc 1000000000 y.natAbs).length c4) 161 161
    rw [← hW]
    have hv3 := hv3.ext hE
    have hv4 := hv4.ext hE
    have hxW := hx.trans hE
    have k1 : W.cell? ⟨w4.heap.size, 0, none⟩ = some (.bool false) := cell_of_blk hb1 rfl
    have k2 : W.cell? ⟨w4.heap.size, 1, none⟩ = some (.slice A3 (pc 1000000000 x.natAbs).length c3) := cell_of_blk hb1 rfl
    have k3 : W.cell? ⟨w4.heap.size + 1, 0, none⟩ = some (.bool true) := cell_of_blk hb2 rfl
    have k4 : W.cell? ⟨w4.heap.size + 1, 1, none⟩ = some (.slice A4 (pc 1000000000 y.natAbs).length c4) := cell_of_blk hb2 rfl
    clear hW hE hx hb1 hb2
    have hd := hd _ _ W hv3.rd hv4.rd
    go_wp2_with fail
    ((with_reducible refine hd.mono ?_); rintro e w5 ⟨vq, vm, rfl, ⟨A5, c5, rfl, hv5⟩, ⟨A6, c6, rfl, hv6⟩, hx5⟩)
    have k1 := hx5.cellS k1
    have k2 := hx5.cellS k2
    have k3 := hx5.cellS k3
    have k4 := hx5.cellS k4
    have hv4 := hv4.ext hx5
    have hxW := hxW.trans hx5
    clear hd hx5 hv3
    have hc1 := fun W2 (h : Ext w5 W2) => close_c true q _ W2 (hw.ext (hxW.trans h)) (hv5.ext h).rd
    have hc2 := fun W2 (h : Ext w5 W2) => close_c false m _ W2 (hw.ext (hxW.trans h)) (hv6.ext h).rd
    rw [HE1.out] at hc1
    rw [HE2.out] at hc2
    clear k2 k4 hv4 hv5 hv6
    go_wp2_with fail
    ((with_reducible refine (hc1 _ (Ext.refl _)).mono ?_); rintro e wa ⟨rfl, hxa⟩)
    go_wp2_with fail
    ((with_reducible refine (hc2 _ hxa).mono ?_); rintro e wb ⟨rfl, hxb⟩)
    go_wp2
    go_ret3
    exact ⟨rfl, hxW.trans (hxa.trans hxb)⟩
/-- Quotient and remainder. -/
theorem iDivMod_c (x y : Int) (hx : Bnd x) (hy : Bnd y) (hy0 : y ≠ 0) (w : World) (hw : Okw w) : Calls Tryz.prog 125 #[S (I x), S (I y)] w (RetV (divModV x y) w) := by
  obtain ⟨hB, hA⟩ := div_spec x y hy0
  by_cases hxn : x < 0
  · rcases Nat.eq_zero_or_pos (x.natAbs % y.natAbs) with h | h
    · obtain ⟨e1, e2⟩ := hA (by omega)
      exact dm_neg0 x y _ _ rfl rfl hxn h hx hy hy0 (by rw [closeT_of, e1]) (by rw [I_nat', e2]) w hw
    · obtain ⟨e1, e2⟩ := hB hxn h
      exact dm_up x y _ _ rfl rfl hxn h hx hy hy0 (by rw [closeT_of, e1]) (by rw [I_nat', e2]) w hw
  · obtain ⟨e1, e2⟩ := hA (by omega)
    exact dm_pos x y _ _ rfl rfl hxn hx hy hy0 (by rw [closeT_of, e1]) (by rw [I_nat', e2]) w hw
end Go.Proofs.YtblijhokcjpeeaaGreatDoor
namespace Go.Proofs.YtblijhokcjpeeaaGreatDoor
open Go.RowKit Kl

theorem field_number (s : Bool) (A : Option Addr) (n c : Nat) (W : World) : (Instr.field 161 (.agg #[.bool s, .slice A n c]) 1).run Tryz.prog W = .ok (.slice A n c) W := by
  simp [Instr.field, run_underlying Tryz.underlying161, asAgg, part]
attribute [local go_sem] field_number
theorem gcd_tmod (a b : Int) : Int.gcd b (a.tmod b) = Int.gcd a b := by
  unfold Int.gcd
  rw [Int.natAbs_tmod, Nat.gcd_comm b.natAbs, ← Nat.gcd_rec, Nat.gcd_comm]
theorem natAbs_tmod_lt (a : Int) {b : Int} (h : b ≠ 0) : (a.tmod b).natAbs < b.natAbs := by
  rw [Int.natAbs_tmod]; exact Nat.mod_lt _ (by omega)

set_option maxRecDepth 100000 in
set_option maxHeartbeats 2000000 in
theorem iGcd_quick (x y : Int) (hx : (I x).length ≤ 18) (hy : (I y).length ≤ 18) (w : World) (hw : Okw w) :
    Calls Tryz.prog 111 #[S (I x), S (I y)] w (RetS (D (Int.gcd x y)) w) := by
  have q1 := quick18_c x
  have q2 := quick18_c y
  rw [quick_yes hx] at q1
  rw [quick_yes hy] at q2
  have b1 := short_lt hx
  have b2 := short_lt hy
  have e18 : (10 : Nat) ^ 18 = 1000000000000000000 := by decide
  rw [e18] at b1 b2
  obtain ⟨g, hg⟩ : ∃ g, g = Int.gcd x y := ⟨_, rfl⟩
  rw [← hg]
  have HG := Lib.hid hg.symm
  clear hx hy e18 hg
  go_enter Tryz.func111, Tryz.ntmps111
  go_wp2_with fail
  ((with_reducible refine (q1 _).mono ?_); rintro e w1 ⟨rfl, hx1⟩)
  go_wp2_with fail
  ((with_reducible refine (q2 _).mono ?_); rintro e w2 ⟨rfl, hx2⟩)
  have hx := hx1.trans hx2
  clear hx1 hx2 q1 q2
  go_wp2
  go_loopw [5, 7] (fun u v wr => ∃ a b : Int, u = .int .i64 a ∧ v = .int .i64 b ∧ Int.gcd a b = g ∧ a.natAbs < 1000000000000000000 ∧ b.natAbs < 1000000000000000000 ∧ Ext w wr) (fun _ v _ => (intOf v).natAbs)
  case atStart => exact ⟨x, y, rfl, rfl, HG.out, b1, b2, hx⟩
  case round =>
    obtain ⟨a, b, rfl, rfl, hgab, ha, hb, hext⟩ := hrel
    by_cases hb0 : b = 0
    · subst hb0
      have hga : a.natAbs = g := by rw [← hgab]; simp
      have hmx : max a (-a) = (g : Int) := by omega
      have ho := fun W hW => iOf_c (g : Int) (by omega) (by omega) W hW
      have hbb : ((0 : Int) != 0) = false := by rfl
      clear hga hgab
      rw [I_nat] at ho
      have hneg : IntKind.i64.wrap (-a) = -a := IntWalk.i64_in _ (by omega)
      go_wp2_with fail
      ((with_reducible refine (ho _ (hw.ext hext)).mono ?_); rintro e w3 ⟨rfl, hx3⟩)
      go_wp2
      go_ret
      exact ⟨rfl, hext.trans hx3⟩
    · have hlt := natAbs_tmod_lt a hb0
      have hlt' : (a.tmod b).natAbs < 1000000000000000000 := Nat.lt_trans hlt hb
      have hgt := gcd_tmod a b
      have hbne : (b != 0) = true := by rw [bne_iff_ne]; exact hb0
      have hbe : (b == 0) = false := by rw [beq_eq_false_iff_ne]; exact hb0
      have HGT := Lib.hid (hgt.trans hgab)
      clear hgt hgab
      go_wp2_with fail
      go_quiet (fail)
      go_wp2
      go_roundw
      case rel => exact ⟨b, a.tmod b, rfl, rfl, HGT.out, hb, hlt', hext.drewN _⟩
      case measure => exact hlt

set_option maxRecDepth 100000 in
set_option maxHeartbeats 4000000 in
theorem iGcd_long (x y : Int) (hx : Bnd x) (hy : Bnd y) (hn : ¬ ((I x).length ≤ 18 ∧ (I y).length ≤ 18)) (w : World) (hw : Okw w) :
    Calls Tryz.prog 111 #[S (I x), S (I y)] w (RetS (D (Int.gcd x y)) w) := by
  have q1 := quick18_c x
  have q2 := quick18_c y
  have lx := hx.pc
  have ly := hy.pc
  have o1 := open_s x hx _ rfl
  have o2 := open_s y hy _ rfl
  obtain ⟨g, hg⟩ : ∃ g, g = Int.gcd x y := ⟨_, rfl⟩
  rw [← hg]
  have HG := Lib.hid hg.symm
  clear hx hy hg
  by_cases h1 : (I x).length ≤ 18
  case' pos =>
    rw [quick_yes h1] at q1
    rw [quick_no fun h => hn ⟨h1, h⟩] at q2
    clear h1 hn
    go_enter Tryz.func111, Tryz.ntmps111
    go_wp2_with fail
    ((with_reducible refine (q1 _).mono ?_); rintro e w1 ⟨rfl, hx1⟩)
    go_wp2_with fail
    ((with_reducible refine (q2 _).mono ?_); rintro e w2 ⟨rfl, hx2⟩)
    have hx := hx1.trans hx2
    clear hx1 hx2
    go_wp2_with fail
  case' neg =>
    rw [quick_no h1] at q1
    clear h1 hn
    go_enter Tryz.func111, Tryz.ntmps111
    go_wp2_with fail
    ((with_reducible refine (q1 _).mono ?_); rintro e w2 ⟨rfl, hx⟩)
    go_wp2_with fail
  all_goals
    clear q1 q2
    ((with_reducible refine (o1 _).mono ?_); rintro e w3 ⟨A3, c3, rfl, hv3, hx3⟩)
    go_wp2_with fail
    ((with_reducible refine (o2 _).mono ?_); rintro e w4 ⟨A4, c4, rfl, hv4, hx4⟩)
    have hx := (hx.trans hx3).trans hx4
    have hv3 := hv3.ext hx4
    clear o1 o2 hx3 hx4
    go_wp2
    go_loopg [9, 10] y.natAbs (fun k u v wr => ∃ a : Nat, Rd wr u (pc 1000000000 a) ∧ Rd wr v (pc 1000000000 k) ∧ Nat.gcd a k = g ∧ (pc 1000000000 a).length ≤ 445 ∧ (pc 1000000000 k).length ≤ 445 ∧ Ext w wr)
    case atStart => exact ⟨x.natAbs, hv3.rd, hv4.rd, HG.out, lx, ly, hx⟩
    case round =>
      obtain ⟨a, ha, ⟨B, cb, rfl, hb⟩, hg, hla, hlb, hext⟩ := hrel
      obtain ⟨b, rfl⟩ : ∃ b, b = gk := ⟨_, rfl⟩
      have HG2 := Lib.hid hg
      clear hg hx hv3 hv4 lx ly
      by_cases hb0 : b = 0
      · subst hb0
        have hga : a = g := by rw [← HG2.out]; simp
        subst hga
        have hl0 : (pc 1000000000 0).length = 0 := by rw [pc_zero]; rfl
        have hl : decide (0 < (pc 1000000000 0).length) = false := by rw [hl0]; rfl
        have hl' : ¬ 0 < (pc 1000000000 0).length := by omega
        obtain ⟨A, ca, rfl, ha⟩ := ha
        have hc := close_c false a _ _ (hw.ext hext) ha.rd
        rw [I_nat', I_nat] at hc
        clear hl0
        go_wp2_with fail
        ((with_reducible refine hc.mono ?_); rintro e w5 ⟨rfl, hx5⟩)
        go_wp2
        go_ret
        exact ⟨rfl, hext.trans hx5⟩
      · have hp : 0 < (pc 1000000000 b).length := List.length_pos_iff.2 fun h => by have := (pc_eq_nil b9).1 h; omega
        have hd := divide_c a b (by omega) (by omega) _ _ _ ha hb.rd
        have hb := hb
        go_wp2_with fail
        ((with_reducible refine hd.mono ?_); rintro e w5 ⟨vq, vr, rfl, hq, hr, hx5⟩)
        go_wp2
        go_roundg (a % b)
        case measure => exact Nat.mod_lt _ (by omega)
        case rel => exact ⟨b, (hb.ext hx5).rd, hr, by rw [← HG2.out, Nat.gcd_comm b, ← Nat.gcd_rec, Nat.gcd_comm], hlb, Nat.le_trans (pc_len_mono' (Nat.le_of_lt (Nat.mod_lt _ (by omega)))) hlb, hext.trans hx5⟩

/-- The greatest common divisor. -/
theorem iGcd_c (x y : Int) (hx : Bnd x) (hy : Bnd y) (w : World) (hw : Okw w) : Calls Tryz.prog 111 #[S (I x), S (I y)] w (RetS (D (Int.gcd x y)) w) := by
  by_cases h : (I x).length ≤ 18 ∧ (I y).length ≤ 18
  · exact iGcd_quick x y h.1 h.2 w hw
  · exact iGcd_long x y hx hy h w hw
end Go.Proofs.YtblijhokcjpeeaaGreatDoor
