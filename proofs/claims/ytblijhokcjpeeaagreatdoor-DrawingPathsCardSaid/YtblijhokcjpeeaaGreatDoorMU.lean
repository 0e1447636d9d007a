/- klippelaw54.known: the walk. -/
import Derived.Test.YtblijhokcjpeeaaGreatDoorMT
/- drawing.Hatch at the one square. -/
namespace Go.Proofs.YtblijhokcjpeeaaGreatDoor
open Go.RowKit Kl

instance decPt (p q : Pt) : Decidable (p = q) := decidable_of_iff (p.x = q.x ∧ p.y = q.y) (by cases p; cases q; simp)
instance decSg (p q : Sg) : Decidable (p = q) := decidable_of_iff (p.a = q.a ∧ p.b = q.b) (by cases p; cases q; simp)
def sqP : List Pt := [⟨0, 0⟩, ⟨4, 0⟩, ⟨4, 4⟩, ⟨0, 4⟩]
theorem four {i : Nat} (h : i < 4) : i = 0 ∨ i = 1 ∨ i = 2 ∨ i = 3 := by omega
theorem sq_poly : PolyOk sqP where
  n3 := by decide
  n60 := by decide
  turn := by
    intro i n hi hn h1 h2
    rcases four hi with rfl | rfl | rfl | rfl <;> rcases four hn with rfl | rfl | rfl | rfl <;> (first | (exact absurd rfl h1) | (exact absurd rfl h2) | (clear h1 h2; decide +kernel +revert))
  less := by
    intro n h
    have : n < 4 := by have : n + 1 < 4 := h; omega
    rcases four this with rfl | rfl | rfl | rfl <;> (first | (exact absurd h (by decide)) | decide +kernel +revert)
theorem sq_dots : dotsR ⟨1, 0⟩ 1 sqP = [0, 4, 4, 0] := by decide +kernel
theorem sq_low : lowR [0, 4, 4, 0] = 1 := by decide +kernel
theorem sq_high : highR [0, 4, 4, 0] = 3 := by decide +kernel
theorem sz2 {q : Rat} (h : q.num.natAbs < 10 ^ 2 ∧ q.den < 10 ^ 2) : Sz 2 q := ⟨h.1, h.2⟩
theorem sq_on (k : Int) (h1 : 1 ≤ k) (h3 : k ≤ 3) : onR sqP (byK [0, 4, 4, 0] k) sqP.length = [⟨k, 0⟩, ⟨k, 4⟩] := by
  have : k = 1 ∨ k = 2 ∨ k = 3 := by omega
  rcases this with rfl | rfl | rfl <;> decide +kernel
theorem sq_line (k : Int) (h1 : 1 ≤ k) (h3 : k ≤ 3) : LineOk sqP (byK [0, 4, 4, 0] k) 2 2 2 2 := by
  have hk : k = 1 ∨ k = 2 ∨ k = 3 := by omega
  have hon := sq_on k h1 h3
  refine ⟨?_, ?_, ?_, by rw [hon]; simp, ?_⟩
  · intro q hq
    refine sz2 ?_
    revert q
    rcases hk with rfl | rfl | rfl <;> decide +kernel
  · intro i hi
    refine sz2 ?_
    rcases hk with rfl | rfl | rfl <;> rcases four hi with rfl | rfl | rfl | rfl <;> decide +kernel
  · intro i hi
    refine sz2 ?_
    rcases hk with rfl | rfl | rfl <;> rcases four hi with rfl | rfl | rfl | rfl <;> decide +kernel
  · rw [hon]
    intro q hq
    simp only [List.mem_cons, List.not_mem_nil, or_false] at hq
    rcases hk with rfl | rfl | rfl <;> rcases hq with rfl | rfl <;> exact ⟨sz2 (by decide +kernel), sz2 (by decide +kernel)⟩
theorem sq_hatch : HatchOk sqP ⟨1, 0⟩ 1 2 2 2 2 2 where
  poly := sq_poly
  zp := by
    intro q hq
    unfold sqP at hq
    simp only [List.mem_cons, List.not_mem_nil, or_false] at hq
    rcases hq with rfl | rfl | rfl | rfl <;> exact ⟨sz2 (by decide +kernel), sz2 (by decide +kernel)⟩
  zn := ⟨sz2 (by decide +kernel), sz2 (by decide +kernel)⟩
  zs := sz2 (by decide +kernel)
  st0 := by decide +kernel
  nz := .inl (by decide +kernel)
  lo := by rw [sq_dots, sq_low]; omega
  lo' := by rw [sq_dots, sq_low]; omega
  hi := by rw [sq_dots, sq_high]; omega
  hi' := by rw [sq_dots, sq_high]; omega
  cnt := by rw [sq_dots, sq_low, sq_high]; omega
  line := by rw [sq_dots, sq_low, sq_high]; exact sq_line
  kz0 := by omega
  kz1 := by omega
  kb0 := by omega
  kb1 := by omega
  kd0 := by omega
  kd1 := by omega
  km0 := by omega
  km1 := by omega
  ko0 := by omega
  ko1 := by omega
theorem sq_segs : segsR sqP (dotsR ⟨1, 0⟩ 1 sqP) (lowR (dotsR ⟨1, 0⟩ 1 sqP)) (highR (dotsR ⟨1, 0⟩ 1 sqP) - lowR (dotsR ⟨1, 0⟩ 1 sqP) + 1).toNat = [⟨⟨1, 0⟩, ⟨1, 4⟩⟩, ⟨⟨2, 0⟩, ⟨2, 4⟩⟩, ⟨⟨3, 0⟩, ⟨3, 4⟩⟩] := by
  rw [sq_dots, sq_low, sq_high]
  decide +kernel
end Go.Proofs.YtblijhokcjpeeaaGreatDoor
/- klippelaw54.known: its values. -/
namespace Go.Proofs.YtblijhokcjpeeaaGreatDoor
open Go.RowKit Kl

def cv8 : Cv := ⟨⟨0, 0⟩, ⟨4, 4⟩, 8, 8⟩
def ln8 : Sg := ⟨⟨-4, 2⟩, ⟨4, 2⟩⟩
def pt8 : Sg := ⟨⟨0, 2⟩, ⟨4, 2⟩⟩
theorem cv8_s : CvS cv8 := ⟨⟨by decide +kernel, by decide +kernel, by decide, by decide, by decide, by decide⟩, ⟨⟨by decide +kernel, by decide +kernel⟩, ⟨by decide +kernel, by decide +kernel⟩⟩, ⟨⟨by decide +kernel, by decide +kernel⟩, ⟨by decide +kernel, by decide +kernel⟩⟩⟩
theorem col8 : colR cv8 ⟨1, 1⟩ = 2 := by decide +kernel
theorem row8 : rowR cv8 ⟨1, 1⟩ = 6 := by decide +kernel
theorem clip8 : clipR cv8 ln8 = some pt8 := by decide +kernel
theorem dots8 : dots cv8 pt8 = [(0, 4), (1, 4), (2, 4), (3, 4), (4, 4), (5, 4), (6, 4), (7, 4), (8, 4)] := by decide +kernel
theorem ln8_s : SzS 2 ln8 := ⟨⟨sz2 (by decide +kernel), sz2 (by decide +kernel)⟩, ⟨sz2 (by decide +kernel), sz2 (by decide +kernel)⟩⟩
end Go.Proofs.YtblijhokcjpeeaaGreatDoor
namespace Go.Proofs.YtblijhokcjpeeaaGreatDoor
open Go.RowKit Kl

theorem at_lit (x y : Int) (hx : x.natAbs < 10000000) (hy : y.natAbs < 10000000) (p : Pt) (hp : (⟨(x : Rat), (y : Rat)⟩ : Pt) = p) (w : World) (hw : Okw w) :
    Calls Tryz.prog 21 #[.int .i64 x, .int .i64 y] w (RetV (.agg #[S (R p.x), S (R p.y)]) w) := by
  subst hp
  exact lawAt_c x y hx hy w hw
set_option maxRecDepth 100000 in
set_option maxHeartbeats 16000000 in
theorem known_c (w : World) (hw : Okw w) : Calls Tryz.prog 7 #[] w (RetB true w) := by
  have a00 := at_lit 0 0 (by decide) (by decide) ⟨0, 0⟩ (by decide +kernel)
  have a44 := at_lit 4 4 (by decide) (by decide) ⟨4, 4⟩ (by decide +kernel)
  have a11 := at_lit 1 1 (by decide) (by decide) ⟨1, 1⟩ (by decide +kernel)
  have am42 := at_lit (-4) 2 (by decide) (by decide) ⟨-4, 2⟩ (by decide +kernel)
  have a42 := at_lit 4 2 (by decide) (by decide) ⟨4, 2⟩ (by decide +kernel)
  have a40 := at_lit 4 0 (by decide) (by decide) ⟨4, 0⟩ (by decide +kernel)
  have a04 := at_lit 0 4 (by decide) (by decide) ⟨0, 4⟩ (by decide +kernel)
  have a10 := at_lit 1 0 (by decide) (by decide) ⟨1, 0⟩ (by decide +kernel)
  have a20 := at_lit 2 0 (by decide) (by decide) ⟨2, 0⟩ (by decide +kernel)
  have a24 := at_lit 2 4 (by decide) (by decide) ⟨2, 4⟩ (by decide +kernel)
  have px := Pixel_ok cv8 ⟨1, 1⟩ cv8_s (a := 2) ⟨sz2 (by decide +kernel), sz2 (by decide +kernel)⟩ (by omega) (by omega) (by rw [col8]; omega) (by rw [col8]; omega) (by rw [row8]; omega) (by rw [row8]; omega)
  rw [col8, row8] at px
  have ln := Line_some cv8 cv8_s ln8 ln8_s (by omega) (by omega) pt8 clip8
  rw [dots8] at ln
  have ht : ∀ (A : Option Addr) (c : Nat) (w : World), Okw w → RdC w A [S (R 0), S (R 0), S (R 4), S (R 0), S (R 4), S (R 4), S (R 0), S (R 4)] → 4 ≤ c → c ≤ 9223372036854775807 → Calls Tryz.prog 24 #[.slice A 4 c, ptV ⟨1, 0⟩, S (R 1)] w (RetSegs [⟨⟨1, 0⟩, ⟨1, 4⟩⟩, ⟨⟨2, 0⟩, ⟨2, 4⟩⟩, ⟨⟨3, 0⟩, ⟨3, 4⟩⟩] w) := by
    intro A c w hw hr hc hcm
    have h := Hatch_ok sqP ⟨1, 0⟩ 1 sq_hatch A c w hw hr hc hcm
    rw [sq_segs] at h
    exact h
  have hR1 : R 1 = [49] := by have := R_int 1; rw [I_one'] at this; exact this
  unfold cvV ptV dotV at px
  unfold cvV sgV at ln
  unfold ptV at ht
  unfold cv8 at px ln
  unfold ln8 at ln
  dsimp only at a00 a44 a11 am42 a42 a40 a04 a10 a20 a24 px ln ht
  rw [show ((8 : Nat) : Int) = 8 from rfl] at px ln
  generalize hr0 : R 0 = r0 at *
  have Hr0 := Lib.hid hr0
  clear hr0
  rw [hR1] at ht a11 px a10
  clear hR1
  generalize hr2 : R 2 = r2 at *
  have Hr2 := Lib.hid hr2
  clear hr2
  generalize hr4 : R 4 = r4 at *
  have Hr4 := Lib.hid hr4
  clear hr4
  generalize R (-4) = rm4 at *
  go_enter Tryz.func7, Tryz.ntmps7
  go_wp2_with fail
  ((with_reducible refine (a00 _ hw).mono ?_); rintro e w1 ⟨rfl, hx1⟩)
  go_wp2_with fail
  ((with_reducible refine (a44 _ (hw.ext hx1)).mono ?_); rintro e w2 ⟨rfl, hx2⟩)
  have hx2' := hx1.trans hx2
  have hb := heap_alloc_new w2 (.cells #[S r0, S r0, S r4, S r4, .int .i64 8, .int .i64 8] 35)
  have hxV := hx2'.alloc (.cells #[S r0, S r0, S r4, S r4, .int .i64 8, .int .i64 8] 35)
  go_upto_region 2 with fail
  generalize w2.alloc (.cells #[S r0, S r0, S r4, S r4, .int .i64 8, .int .i64 8] 35) = V at *
  obtain ⟨bc, hbce⟩ : ∃ g, g = w2.heap.size := ⟨_, rfl⟩
  rw [← hbce] at hb ⊢
  have hwV := hw.ext hxV
  clear hbce hx1 hx2 hx2'
  have q1 := cell_of_blk (o := 0) hb rfl
  have q2 := cell_of_blk (o := 1) hb rfl
  have q3 := cell_of_blk (o := 2) hb rfl
  have q4 := cell_of_blk (o := 3) hb rfl
  have q5 := cell_of_blk (o := 4) hb rfl
  have q6 := cell_of_blk (o := 5) hb rfl
  have hs1 : bc < V.heap.size := World.block_lt_of_cell? V _ q1
  have HB := Lib.hid hb
  clear hb
  go_cut [2, 3] (fun v2 v3 wx => ∃ b, v2 = .pointer (some ⟨b, 0, none⟩) ∧ v3 = .int .i64 0 ∧ wx.heap[b]? = some (.cells #[.int .i64 2, .int .i64 6] 38) ∧ Ext V wx)
  case first =>
    go_region_held3 (fun w' => w'.cell? ⟨bc, 0, none⟩ = some (S r0) ∧ w'.cell? ⟨bc, 1, none⟩ = some (S r0) ∧ w'.cell? ⟨bc, 2, none⟩ = some (S r4) ∧ w'.cell? ⟨bc, 3, none⟩ = some (S r4) ∧ w'.cell? ⟨bc, 4, none⟩ = some (.int .i64 8) ∧ w'.cell? ⟨bc, 5, none⟩ = some (.int .i64 8))
      (first | go_keep | (refine ⟨?_, ?_, ?_, ?_, ?_, ?_⟩ <;> (rw [World.cell?_setCell_far _ _ _ _ (by simp only [ne_eq]; omega), World.cell?_setCell_far _ _ _ _ (by simp only [ne_eq]; omega)]; assumption)))
      (first | ((with_reducible refine (a11 _ ?_).mono ?_); (exact hwV.ext (by first | exact (Ext.refl _).drew | exact ((Ext.refl _).alloc _).drew)); rintro e w6 ⟨rfl, hx6⟩; have X6 : Ext V w6 := (by first | exact (Ext.refl _).drew.trans hx6 | exact ((Ext.refl _).alloc _).drew.trans hx6); have g1 := X6.cellS q1; have g2 := X6.cellS q2; have g3 := X6.cellS q3; have g4 := X6.cellS q4; have g5 := X6.cellS q5; have g6 := X6.cellS q6; have s6 := X6.size; (first | (have Z6 : w6.heap[V.heap.size]? = some (.cells #[.int .i64 0, .int .i64 0] 38) := (hx6.block _ (by simp)).trans (heap_alloc_new V _)) | skip)) | ((with_reducible refine (px _ ?_).mono ?_); (exact hwV.ext (by first | exact X6 | exact X6.alloc _)); rintro e w7 ⟨rfl, hx7⟩; have X7 : Ext V w7 := (by first | exact X6.trans hx7 | exact (X6.alloc _).trans hx7); have i1 := X7.cellS q1; have i2 := X7.cellS q2; have i3 := X7.cellS q3; have i4 := X7.cellS q4; have i5 := X7.cellS q5; have i6 := X7.cellS q6; have s7 := X7.size; (first | (have Z7 : w7.heap[V.heap.size]? = some (.cells #[.int .i64 0, .int .i64 0] 38) := (hx7.block _ (lt_of_block Z6)).trans Z6; have y1 := cell_of_blk (o := 0) Z7 rfl; have y2 := cell_of_blk (o := 1) Z7 rfl; have y3 := free_of_blk (o := 0) Z7; have y4 := free_of_blk (o := 1) Z7) | (have Z7 : w7.heap[w6.heap.size]? = some (.cells #[.int .i64 0, .int .i64 0] 38) := (hx7.block _ (by simp)).trans (heap_alloc_new w6 _); have y1 := cell_of_blk (o := 0) Z7 rfl; have y2 := cell_of_blk (o := 1) Z7 rfl; have y3 := free_of_blk (o := 0) Z7; have y4 := free_of_blk (o := 1) Z7) | skip)))
    all_goals go_wp2
    all_goals go_meet
    all_goals first
      | exact ⟨_, rfl, rfl, heap_alloc_new w7 _, X7.alloc _⟩
      | exact ⟨_, rfl, rfl, blk2_set _ _ Z7, (X7.setCell (by simp only []; omega) _).setCell (by simp only []; omega) _⟩
      | exact ⟨_, rfl, rfl, blk2_set _ _ Z7, (X7.setCell (Nat.le_refl _) _).setCell (Nat.le_refl _) _⟩
  case rest =>
    obtain ⟨bd, rfl, rfl, hbd, hxc⟩ := hcut
    have HBD := Lib.hid hbd
    have hwc := hwV.ext hxc
    have j1 := hxc.cellS q1
    have j2 := hxc.cellS q2
    have j3 := hxc.cellS q3
    have j4 := hxc.cellS q4
    have j5 := hxc.cellS q5
    have j6 := hxc.cellS q6
    clear hbd a11 px q1 q2 q3 q4 q5 q6
    go_upto_region 3 with fail
    go_region_held3 (fun w' => w'.cell? ⟨bc, 0, none⟩ = some (S r0) ∧ w'.cell? ⟨bc, 1, none⟩ = some (S r0) ∧ w'.cell? ⟨bc, 2, none⟩ = some (S r4) ∧ w'.cell? ⟨bc, 3, none⟩ = some (S r4) ∧ w'.cell? ⟨bc, 4, none⟩ = some (.int .i64 8) ∧ w'.cell? ⟨bc, 5, none⟩ = some (.int .i64 8))
      (go_keep)
      (first | ((with_reducible refine (am42 _ (hwc.ext (Ext.refl wc).drew)).mono ?_); rintro e w6 ⟨rfl, hx6⟩; have X6 : Ext wc w6 := (Ext.refl wc).drew.trans hx6; have g1 := X6.cellS j1; have g2 := X6.cellS j2; have g3 := X6.cellS j3; have g4 := X6.cellS j4; have g5 := X6.cellS j5; have g6 := X6.cellS j6) | ((with_reducible refine (a42 _ (hwc.ext X6)).mono ?_); rintro e w7 ⟨rfl, hx7⟩; have X7 : Ext wc w7 := X6.trans hx7; have i1 := X7.cellS j1; have i2 := X7.cellS j2; have i3 := X7.cellS j3; have i4 := X7.cellS j4; have i5 := X7.cellS j5; have i6 := X7.cellS j6) | ((with_reducible refine (ln _ (hwc.ext X7)).mono ?_); rintro e w8 ⟨A8, c8, rfl, hrd8, hc8, hc8', hx8⟩; have X8 : Ext wc w8 := X7.trans hx8; have l1 := X8.cellS j1; have l2 := X8.cellS j2; have l3 := X8.cellS j3; have l4 := X8.cellS j4; have l5 := X8.cellS j5; have l6 := X8.cellS j6))
    have hw8 := hwc.ext X8
    clear g1 g2 g3 g4 g5 g6 i1 i2 i3 i4 i5 i6 l1 l2 l3 l4 l5 l6 hx6 hx7 hx8 X6 X7
    go_wp2_with fail
    ((with_reducible refine (a00 _ hw8).mono ?_); rintro e w9 ⟨rfl, hx9⟩)
    have hw9 := hw8.ext hx9
    go_wp2_with fail
    ((with_reducible refine (a40 _ hw9).mono ?_); rintro e w10 ⟨rfl, hx10⟩)
    have hw10 := hw9.ext hx10
    go_wp2_with fail
    ((with_reducible refine (a44 _ hw10).mono ?_); rintro e w11 ⟨rfl, hx11⟩)
    have hw11 := hw10.ext hx11
    go_wp2_with fail
    ((with_reducible refine (a04 _ hw11).mono ?_); rintro e w12 ⟨rfl, hx12⟩)
    have hw12 := hw11.ext hx12
    have hrl := RdC.lit w12 #[S r0, S r0, S r4, S r0, S r4, S r4, S r0, S r4] 29
    have hxl := (Ext.refl w12).alloc (.cells #[S r0, S r0, S r4, S r0, S r4, S r4, S r0, S r4] 29)
    go_wp2_with fail
    ((with_reducible refine (a10 _ (hw12.ext hxl)).mono ?_); rintro e w13 ⟨rfl, hx13⟩)
    have hw13 := (hw12.ext hxl).ext hx13
    have ht1 := ht _ 4 w13 hw13 (hrl.ext hx13) (by omega) (by omega)
    go_wp2_with fail
    ((with_reducible refine ht1.mono ?_); rintro e w14 ⟨A14, c14, rfl, hrd14, hc14, hc14', hx14⟩)
    have hE14 : Ext w8 w14 := (((((hx9.trans hx10).trans hx11).trans hx12).trans hxl).trans hx13).trans hx14
    have hw14 := hw13.ext hx14
    clear hrl hxl ht ht1 hx9 hx10 hx11 hx12 hx13 hx14 hw9 hw10 hw11 hw12 hw13
    obtain ⟨b8, o8, rfl, hv8⟩ := hrd8.ad (by decide)
    obtain ⟨b14, o14, rfl, hv14⟩ := hrd14.ad (by decide)
    have e1 := hE14.cellS (hv8 16 (by decide))
    have e2 := hE14.cellS (hv8 17 (by decide))
    have e3 := hv14 4 (by decide)
    have e4 := hv14 5 (by decide)
    have e5 := hv14 6 (by decide)
    have e6 := hv14 7 (by decide)
    replace e1 : w14.cell? ⟨b8, o8 + 16, none⟩ = some (.int .i64 8) := e1
    replace e2 : w14.cell? ⟨b8, o8 + 17, none⟩ = some (.int .i64 4) := e2
    replace e3 : w14.cell? ⟨b14, o14 + 4, none⟩ = some (S (R 2)) := e3
    replace e4 : w14.cell? ⟨b14, o14 + 5, none⟩ = some (S (R 0)) := e4
    replace e5 : w14.cell? ⟨b14, o14 + 6, none⟩ = some (S (R 2)) := e5
    replace e6 : w14.cell? ⟨b14, o14 + 7, none⟩ = some (S (R 4)) := e6
    rw [Hr2.out] at e3 e5
    rw [Hr0.out] at e4
    rw [Hr4.out] at e6
    have hbd8 := ((X8.trans hE14).block _ (lt_of_block HBD.out)).trans HBD.out
    have e7 := cell_of_blk (o := 0) hbd8 rfl
    have e8 := cell_of_blk (o := 1) hbd8 rfl
    have HE := Lib.hid (hxV.trans (hxc.trans (X8.trans hE14)))
    clear hbd8 hv8 hv14 hrd8 hrd14 X8
    go_upto_region 5 with fail
    go_region_held3 (fun w' => w'.cell? ⟨b8, o8 + 16, none⟩ = some (.int .i64 8) ∧ w'.cell? ⟨b8, o8 + 17, none⟩ = some (.int .i64 4) ∧ w'.cell? ⟨b14, o14 + 4, none⟩ = some (S r2) ∧ w'.cell? ⟨b14, o14 + 5, none⟩ = some (S r0) ∧ w'.cell? ⟨b14, o14 + 6, none⟩ = some (S r2) ∧ w'.cell? ⟨b14, o14 + 7, none⟩ = some (S r4) ∧ w'.cell? ⟨bd, 0, none⟩ = some (.int .i64 2) ∧ w'.cell? ⟨bd, 1, none⟩ = some (.int .i64 6))
      (go_keep)
      (first | ((with_reducible refine (a20 _ (hw14.ext (Ext.refl w14).drew)).mono ?_); rintro e w15 ⟨rfl, hx15⟩; have X15 : Ext w14 w15 := (Ext.refl w14).drew.trans hx15; have g1 := X15.cellS e1; have g2 := X15.cellS e2; have g3 := X15.cellS e3; have g4 := X15.cellS e4; have g5 := X15.cellS e5; have g6 := X15.cellS e6; have g7 := X15.cellS e7; have g8 := X15.cellS e8) | ((with_reducible refine (a24 _ (hw14.ext X15)).mono ?_); rintro e w16 ⟨rfl, hx16⟩; have X16 : Ext w14 w16 := X15.trans hx16; have i1 := X16.cellS e1; have i2 := X16.cellS e2; have i3 := X16.cellS e3; have i4 := X16.cellS e4; have i5 := X16.cellS e5; have i6 := X16.cellS e6; have i7 := X16.cellS e7; have i8 := X16.cellS e8))
    go_wp2
    go_ret
    exact ⟨rfl, HE.out.trans X16⟩
end Go.Proofs.YtblijhokcjpeeaaGreatDoor
