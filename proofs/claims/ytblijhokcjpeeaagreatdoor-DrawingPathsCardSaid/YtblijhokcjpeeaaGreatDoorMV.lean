/- DrawingTurns: the walk. -/
import Derived.Test.YtblijhokcjpeeaaGreatDoorMU
/- DrawingTurns: the plain law. -/
namespace Go.Proofs.YtblijhokcjpeeaaGreatDoor
open Go.RowKit Kl

theorem col_low {c : Cv} : colR c c.low = 0 := by unfold colR; rw [Rat.sub_self, nearR_zero]
theorem row_high {c : Cv} : rowR c c.high = 0 := by unfold rowR; rw [Rat.sub_self, nearR_zero]
theorem col_high {c : Cv} (h : c.Ok) : colR c c.high = c.W := by unfold colR; exact nearR_full (by have := h.x; grind) _
theorem row_low {c : Cv} (h : c.Ok) : rowR c c.low = c.H := by unfold rowR; exact nearR_full (by have := h.y; grind) _
theorem steps_pos (c : Cv) (p : Sg) : 1 ≤ steps c p := by unfold steps; omega
theorem dots_length (c : Cv) (p : Sg) : (dots c p).length = steps c p + 1 := by unfold dots; simp
theorem dots_get (c : Cv) (p : Sg) (k : Nat) (h : k < (dots c p).length) : (dots c p)[k] = dotAt c p (steps c p) k := by
  have : (dots c p)[k]? = some (dotAt c p (steps c p) k) := by
    have hk : k < steps c p + 1 := by rw [dots_length] at h; exact h
    unfold dots
    rw [List.getElem?_map, List.getElem?_range hk]
    rfl
  rw [List.getElem?_eq_getElem h] at this
  exact Option.some.inj this
theorem near_dots (c : Cv) (p : Sg) (k : Nat) (h : k + 1 < (dots c p).length) :
    (dots c p)[k].1 - (dots c p)[k + 1].1 ≤ 1 ∧ (dots c p)[k + 1].1 - (dots c p)[k].1 ≤ 1 ∧ (dots c p)[k].2 - (dots c p)[k + 1].2 ≤ 1 ∧ (dots c p)[k + 1].2 - (dots c p)[k].2 ≤ 1 := by
  have hk : k < steps c p := by rw [dots_length] at h; omega
  rw [dots_get, dots_get]
  have e1 : mkRat (k : Int) (steps c p) = (k : Rat) / (steps c p : Rat) := by rw [Rat.mkRat_eq_div]; rfl
  have e2 : mkRat ((k + 1 : Nat) : Int) (steps c p) = ((k + 1 : Nat) : Rat) / (steps c p : Rat) := by rw [Rat.mkRat_eq_div]; rfl
  have hc := col_steps (c := c) (s := p) (n := steps c p) hk (by unfold steps; omega) (by unfold steps; omega)
  have hr := row_steps (c := c) (s := p) (n := steps c p) hk (by unfold steps; omega) (by unfold steps; omega)
  unfold dotAt
  rw [e1, e2]
  dsimp only
  omega
end Go.Proofs.YtblijhokcjpeeaaGreatDoor
/- DrawingTurns: the walk (under way). -/
namespace Go.Proofs.YtblijhokcjpeeaaGreatDoor
open Go.RowKit Kl

theorem okR_short {l : Bs} (h : OkR l) (hl : l.length ≤ 20) : ∃ q, l = R q ∧ Sz 20 q := by
  obtain ⟨q, rfl, _, _⟩ := h
  rcases R_parts_short hl with ⟨h1, h2⟩ | h
  · exact ⟨q, rfl, h1, h2⟩
  · omega
theorem longP_no {p : Bs × Bs} (h : longP p = false) : p.1.length ≤ 20 ∧ p.2.length ≤ 20 := by
  unfold longP at h
  simp only [Bool.or_eq_false_iff, decide_eq_false_iff_not] at h
  omega
/-- A segment of right, short numbers. -/
theorem seg_of {t : SgT} (h : okPts t.pts) (hb : ∀ p ∈ t.pts, longP p = false) : ∃ s : Sg, SzS 20 s ∧ t = sgT s := by
  obtain ⟨fx, fy, tx, ty⟩ := t
  have h1 := h (fx, fy) (by simp [SgT.pts])
  have h2 := h (tx, ty) (by simp [SgT.pts])
  have b1 := longP_no (hb (fx, fy) (by simp [SgT.pts]))
  have b2 := longP_no (hb (tx, ty) (by simp [SgT.pts]))
  obtain ⟨q1, e1, z1⟩ := okR_short h1.1 b1.1
  obtain ⟨q2, e2, z2⟩ := okR_short h1.2 b1.2
  obtain ⟨q3, e3, z3⟩ := okR_short h2.1 b2.1
  obtain ⟨q4, e4, z4⟩ := okR_short h2.2 b2.2
  dsimp only at e1 e2 e3 e4
  subst e1 e2 e3 e4
  exact ⟨⟨⟨q1, q2⟩, ⟨q3, q4⟩⟩, ⟨⟨z1, z2⟩, ⟨z3, z4⟩⟩, rfl⟩
theorem short_of {t : SgT} (hb : ∀ p ∈ t.pts, longP p = false) : shortPts t.pts := fun p hp => by have := longP_no (hb p hp); omega
theorem dcells_get : ∀ (l : List (Int × Int)) (j : Nat) (h : j < l.length), (dcells l)[j * 2]? = some (.int .i64 l[j].1) ∧ (dcells l)[j * 2 + 1]? = some (.int .i64 l[j].2)
  | p :: l, 0, _ => ⟨rfl, rfl⟩
  | p :: l, j + 1, h => by
    have ih := dcells_get l j (by simpa using h)
    have e : dcells (p :: l) = .int .i64 p.1 :: .int .i64 p.2 :: dcells l := rfl
    rw [e]
    have e1 : (j + 1) * 2 = j * 2 + 1 + 1 := by omega
    rw [e1]
    simpa using ih
theorem rdC_dot {w : World} {A : Option Addr} {l : List (Int × Int)} (hr : RdC w A (dcells l)) {j : Nat} (h : j < l.length) : ∃ b o, A = some ⟨b, o, none⟩ ∧ w.cell? ⟨b, o + j * 2, none⟩ = some (.int .i64 l[j].1) ∧ w.cell? ⟨b, o + j * 2 + 1, none⟩ = some (.int .i64 l[j].2) := by
  obtain ⟨b, o, e, hcs⟩ := hr.ad (by rw [dcells_length]; omega)
  obtain ⟨f1, f2⟩ := dcells_get l j h
  have hg1 := hcs (j * 2) (by rw [dcells_length]; omega)
  have hg2 := hcs (j * 2 + 1) (by rw [dcells_length]; omega)
  rw [List.getElem?_eq_getElem (by rw [dcells_length]; omega), Option.some.injEq] at f1 f2
  rw [f1] at hg1
  rw [f2, ← Nat.add_assoc] at hg2
  exact ⟨b, o, e, hg1, hg2⟩
end Go.Proofs.YtblijhokcjpeeaaGreatDoor
namespace Go.Proofs.YtblijhokcjpeeaaGreatDoor
open Go.RowKit Kl

theorem run_max_int4 {P : Program} {w : World} (ts : Array TypeId) (t : TypeId) (k : IntKind) (a b c d : Int) : (Builtin.max_ ts t #[.int k a, .int k b, .int k c, .int k d]).run P w = .ok (.int k (max (max (max a b) c) d)) w := by
  have m : ∀ x y : Int, (if y > x then y else x) = max x y := by intro x y; split <;> omega
  simp only [Builtin.max_, List.foldlM_cons, List.foldlM_nil, Builtin.max2]
  simp [m]
attribute [local go_sem] run_max_int4
open Classical in
set_option maxRecDepth 100000 in
set_option maxHeartbeats 16000000 in
theorem law_c (f : Fr) (hf : f.Ok) (t : SgT) (w : World) (hw : Okw w) : Calls Tryz.prog 3 #[frV f, stV t] w (RetB true w) := by
  have mk := make_c f hf
  have hc := frCv_ok f
  obtain ⟨bb, hbb⟩ : ∃ b : Bool, b = true ↔ ∀ p ∈ t.pts, longP p = false := ⟨decide (∀ p ∈ t.pts, longP p = false), decide_eq_true_iff⟩
  have br := brief_c t.pts bb hbb
  have hpl : t.pts.length = 2 := rfl
  have hfl : flat t.pts = [S t.fx, S t.fy, S t.tx, S t.ty] := rfl
  rw [hpl, hfl] at br
  have HBB := Lib.hid hbb
  have HF := Lib.hid hf
  have hA := heap_alloc_new w (.cells #[.int .i8 f.a, .int .i8 f.b, .int .u8 f.s, .int .u8 f.t, .int .u8 f.u, .int .u8 f.v] 26)
  have hB := heap_alloc_new (w.alloc (.cells #[.int .i8 f.a, .int .i8 f.b, .int .u8 f.s, .int .u8 f.t, .int .u8 f.u, .int .u8 f.v] 26)) (.cells #[S t.fx, S t.fy, S t.tx, S t.ty] 31)
  replace hA := (((Ext.refl _).alloc (.cells #[S t.fx, S t.fy, S t.tx, S t.ty] 31)).block _ (lt_of_block hA)).trans hA
  have hE := ((Ext.refl w).alloc (.cells #[.int .i8 f.a, .int .i8 f.b, .int .u8 f.s, .int .u8 f.t, .int .u8 f.u, .int .u8 f.v] 26)).alloc (.cells #[S t.fx, S t.fy, S t.tx, S t.ty] 31)
  rw [World.size_alloc] at hB
  unfold frV at mk
  unfold frV stV
  clear hbb hf hpl hfl
  go_enter Tryz.func3, Tryz.ntmps3
  go_upto_region 1 with fail
  generalize (w.alloc (.cells #[.int .i8 f.a, .int .i8 f.b, .int .u8 f.s, .int .u8 f.t, .int .u8 f.u, .int .u8 f.v] 26)).alloc (.cells #[S t.fx, S t.fy, S t.tx, S t.ty] 31) = V at *
  obtain ⟨bf, hbf⟩ : ∃ g, g = w.heap.size := ⟨_, rfl⟩
  rw [← hbf] at hA hB ⊢
  have hV := hw.ext hE
  clear hbf
  have kn := known_c V hV
  go_wp2_with fail
  ((with_reducible refine kn.mono ?_); rintro e w1 ⟨rfl, hx1⟩)
  have hA1 := (hx1.block _ (lt_of_block hA)).trans hA
  have hB1 := (hx1.block _ (lt_of_block hB)).trans hB
  have k1 := cell_of_blk (o := 0) hB1 rfl
  have k2 := cell_of_blk (o := 1) hB1 rfl
  have k3 := cell_of_blk (o := 2) hB1 rfl
  have k4 := cell_of_blk (o := 3) hB1 rfl
  have hE1 := hE.trans hx1
  have br1 := br (some ⟨w1.heap.size, 0, none⟩) 2 (w1.alloc (.cells #[S t.fx, S t.fy, S t.tx, S t.ty] 29)) (RdC.lit w1 #[S t.fx, S t.fy, S t.tx, S t.ty] 29) (by omega) (by omega)
  have hx1a := (Ext.refl w1).alloc (.cells #[S t.fx, S t.fy, S t.tx, S t.ty] 29)
  clear hA hB kn hx1 br
  go_wp2_with fail
  ((with_reducible refine br1.mono ?_); rintro e w2 ⟨rfl, hx2⟩)
  have hx12 := hx1a.trans hx2
  have hA2 := (hx12.block _ (lt_of_block hA1)).trans hA1
  have hB2 := (hx12.block _ (lt_of_block hB1)).trans hB1
  have hE2 := hE1.trans hx12
  clear hA1 hB1 k1 k2 k3 k4 br1 hx2 hx1a hx12 hE1
  have hw2 := hw.ext hE2
  cases bb with
  | false =>
    have kn2 := known_c w2 hw2
    go_wp2_with fail
    ((with_reducible refine kn2.mono ?_); rintro e w3 ⟨rfl, hx3⟩)
    go_wp2
    go_ret
    exact ⟨rfl, hE2.trans hx3⟩
  | true =>
    have hok := hc.ok
    have w2' := hok.w2
    have h2' := hok.h2
    have px1 := Pixel_ok (frCv f) (frCv f).low hc hc.low (by omega) (by omega) (by rw [col_low]; omega) (by rw [col_low]; omega) (by rw [row_low hok]; omega) (by rw [row_low hok]; omega)
    have px2 := Pixel_ok (frCv f) (frCv f).high hc hc.high (by omega) (by omega) (by rw [col_high hok]; omega) (by rw [col_high hok]; omega) (by rw [row_high]; omega) (by rw [row_high]; omega)
    rw [col_low, row_low hok] at px1
    rw [col_high hok, row_high] at px2
    generalize frCv f = c at *
    unfold cvV at mk
    have HOK := Lib.hid hok
    have k1 := cell_of_blk (o := 0) hA2 rfl
    have k2 := cell_of_blk (o := 1) hA2 rfl
    have k3 := cell_of_blk (o := 2) hA2 rfl
    have k4 := cell_of_blk (o := 3) hA2 rfl
    have k5 := cell_of_blk (o := 4) hA2 rfl
    have k6 := cell_of_blk (o := 5) hA2 rfl
    clear hok
    go_wp2_with fail
    ((with_reducible refine (mk _ hw2).mono ?_); rintro e w3 ⟨rfl, hx3⟩)
    have hE3 := hE2.trans hx3
    have hB3 := (hx3.block _ (lt_of_block hB2)).trans hB2
    have hC := heap_alloc_new w3 (.cells #[S (R c.low.x), S (R c.low.y), S (R c.high.x), S (R c.high.y), .int .i64 (c.W : Nat), .int .i64 (c.H : Nat)] 35)
    have hx3a := (Ext.refl w3).alloc (.cells #[S (R c.low.x), S (R c.low.y), S (R c.high.x), S (R c.high.y), .int .i64 (c.W : Nat), .int .i64 (c.H : Nat)] 35)
    have hB4 := (hx3a.block _ (lt_of_block hB3)).trans hB3
    have hE4 := hE3.trans hx3a
    clear k1 k2 k3 k4 k5 k6 hx3 hA2 hB2 hB3 hE2 hE3 mk
    go_upto_region 4 with fail
    generalize w3.alloc (.cells #[S (R c.low.x), S (R c.low.y), S (R c.high.x), S (R c.high.y), .int .i64 (c.W : Nat), .int .i64 (c.H : Nat)] 35) = w4 at *
    obtain ⟨bc, hbc⟩ : ∃ g, g = w3.heap.size := ⟨_, rfl⟩
    rw [← hbc] at hC ⊢
    clear hbc hx3a
    have hC4 := BoxC.of hC
    obtain ⟨q1, q2, q3, q4, q5, q6⟩ := hC4
    have hw4 := hw.ext hE4
    unfold cvV ptV dotV at px1 px2
    go_wp2_with fail
    ((with_reducible refine (px1 _ hw4).mono ?_); rintro e w5 ⟨rfl, hx5⟩)
    have hw5 := hw4.ext hx5
    have hD := heap_alloc_new w5 (.cells #[.int .i64 0, .int .i64 (c.H : Nat)] 38)
    have hx6 := hx5.alloc (.cells #[.int .i64 0, .int .i64 (c.H : Nat)] 38)
    have hC6 := (hx6.block _ (lt_of_block hC)).trans hC
    have hB6 := (hx6.block _ (lt_of_block hB4)).trans hB4
    have hE6 := hE4.trans hx6
    clear q1 q2 q3 q4 q5 q6 hC hB4 hE4 hx5 hx6 px1
    go_upto_region 5 with fail
    generalize w5.alloc (.cells #[.int .i64 0, .int .i64 (c.H : Nat)] 38) = w6 at *
    obtain ⟨bd, hbd⟩ : ∃ g, g = w5.heap.size := ⟨_, rfl⟩
    rw [← hbd] at hD ⊢
    clear hbd
    obtain ⟨q1, q2, q3, q4, q5, q6⟩ := BoxC.of hC6
    have hw6 := hw.ext hE6
    go_wp2_with fail
    ((with_reducible refine (px2 _ hw6).mono ?_); rintro e w7 ⟨rfl, hx7⟩)
    have hG := heap_alloc_new w7 (.cells #[.int .i64 (c.W : Nat), .int .i64 0] 38)
    have hx8 := hx7.alloc (.cells #[.int .i64 (c.W : Nat), .int .i64 0] 38)
    have hC8 := (hx8.block _ (lt_of_block hC6)).trans hC6
    have hB8 := (hx8.block _ (lt_of_block hB6)).trans hB6
    have hD8 := (hx8.block _ (lt_of_block hD)).trans hD
    have hE8 := hE6.trans hx8
    clear q1 q2 q3 q4 q5 q6 hC6 hB6 hD hE6 hx7 hx8 px2
    go_upto_region 6 with fail
    generalize w7.alloc (.cells #[.int .i64 (c.W : Nat), .int .i64 0] 38) = w8 at *
    obtain ⟨bg, hbg⟩ : ∃ g, g = w7.heap.size := ⟨_, rfl⟩
    rw [← hbg] at hG ⊢
    clear hbg
    obtain ⟨q1, q2, q3, q4, q5, q6⟩ := BoxC.of hC8
    have y1 := cell_of_blk (o := 0) hD8 rfl
    have y2 := cell_of_blk (o := 1) hD8 rfl
    have y3 := cell_of_blk (o := 0) hG rfl
    have y4 := cell_of_blk (o := 1) hG rfl
    go_upto_region 8 with fail
    have hw8 := hw.ext hE8
    have k1 := cell_of_blk (o := 0) hB8 rfl
    have k2 := cell_of_blk (o := 1) hB8 rfl
    have k3 := cell_of_blk (o := 2) hB8 rfl
    have k4 := cell_of_blk (o := 3) hB8 rfl
    clear y1 y2 y3 y4 hD8 hG hV
    have hlong := HBB.out.1 (by trivial)
    by_cases hp : okPts t.pts
    · obtain ⟨s, hs, rfl⟩ := seg_of hp hlong
      unfold sgT at *
      dsimp only at *
      clear hlong hp
      have hs127 := fun p h => clip_sz (p := p) hc hs h
      cases hcl : clipR c s with
      | none =>
        have cb := Clip_none c hc s hs (by omega) (by omega) hcl
        have lb := Line_none c hc s hs (by omega) (by omega) hcl
        unfold cvV sgV at cb lb
        clear hcl hs127
        go_wp2_with fail
        ((with_reducible refine (cb _ hw8).mono ?_); rintro e w9 ⟨rfl, hx9⟩)
        have hw9 := hw8.ext hx9
        have hx10 := hx9.alloc (.cells #[S [], S [], S [], S []] 31)
        have hB9 := (hx10.block _ (lt_of_block hB8)).trans hB8
        have hC9 := (hx10.block _ (lt_of_block hC8)).trans hC8
        obtain ⟨z1, z2, z3, z4, z5, z6⟩ := BoxC.of hC9
        have j1 := cell_of_blk (o := 0) hB9 rfl
        have j2 := cell_of_blk (o := 1) hB9 rfl
        have j3 := cell_of_blk (o := 2) hB9 rfl
        have j4 := cell_of_blk (o := 3) hB9 rfl
        have hw10 := hw8.ext hx10
        have hE10 := hE8.trans hx10
        clear q1 q2 q3 q4 q5 q6 k1 k2 k3 k4 cb
        go_wp2_with fail
        ((with_reducible refine (lb _ hw10).mono ?_); rintro e w11 ⟨A11, c11, rfl, _, _, _, hx11⟩)
        go_wp2
        go_ret
        exact ⟨rfl, hE10.trans hx11⟩
      | some p =>
        have hps := hs127 p hcl
        have hps2 : SzS 200 p := ⟨⟨hps.a.x.mono (by omega), hps.a.y.mono (by omega)⟩, ⟨hps.b.x.mono (by omega), hps.b.y.mono (by omega)⟩⟩
        have hin := clipR_in hcl
        have hself := clipR_self hin.1 hin.2
        have cb := Clip_some c hc s p hs (by omega) (by omega) hcl hps2
        have lb := Line_some c hc s hs (by omega) (by omega) p hcl
        have cb2 := Clip_some c hc p p hps2 (by omega) (by omega) hself hps2
        have hdl := dots_length c p
        have hst := steps_pos c p
        obtain ⟨L, hL⟩ : ∃ L, L = dots c p := ⟨_, rfl⟩
        have hnd : ∀ (k : Nat) (h : k + 1 < L.length), L[k].1 - L[k + 1].1 ≤ 1 ∧ L[k + 1].1 - L[k].1 ≤ 1 ∧ L[k].2 - L[k + 1].2 ≤ 1 ∧ L[k + 1].2 - L[k].2 ≤ 1 := by subst hL; exact near_dots c p
        rw [← hL] at lb hdl
        have hL2 : (2 : Int) ≤ (L.length : Int) := by omega
        clear hL hdl hst
        have HND := Lib.hid hnd
        unfold cvV sgV at cb lb cb2
        clear hcl hs127 hps hps2 hin hself hnd
        go_wp2_with fail
        ((with_reducible refine (cb _ hw8).mono ?_); rintro e w9 ⟨rfl, hx9⟩)
        have hw9 := hw8.ext hx9
        have hP := heap_alloc_new w9 (.cells #[S (R p.a.x), S (R p.a.y), S (R p.b.x), S (R p.b.y)] 31)
        have hx10 := hx9.alloc (.cells #[S (R p.a.x), S (R p.a.y), S (R p.b.x), S (R p.b.y)] 31)
        have hB9 := (hx10.block _ (lt_of_block hB8)).trans hB8
        have hC9 := (hx10.block _ (lt_of_block hC8)).trans hC8
        obtain ⟨z1, z2, z3, z4, z5, z6⟩ := BoxC.of hC9
        have j1 := cell_of_blk (o := 0) hB9 rfl
        have j2 := cell_of_blk (o := 1) hB9 rfl
        have j3 := cell_of_blk (o := 2) hB9 rfl
        have j4 := cell_of_blk (o := 3) hB9 rfl
        have hw10 := hw8.ext hx10
        have hE10 := hE8.trans hx10
        clear q1 q2 q3 q4 q5 q6 k1 k2 k3 k4 cb
        go_wp2_with fail
        ((with_reducible refine (lb _ hw10).mono ?_); rintro e w11 ⟨A11, c11, rfl, hrd, hc1, hc2, hx11⟩)
        have hE11 := hE10.trans hx11
        have hP11 := (hx11.block _ (lt_of_block hP)).trans hP
        have hC11 := (hx11.block _ (lt_of_block hC9)).trans hC9
        obtain ⟨bp, hbp⟩ : ∃ g, g = w9.heap.size := ⟨_, rfl⟩
        rw [← hbp] at hP11 ⊢
        have hw11 := hw.ext hE11
        clear hbp hP z1 z2 z3 z4 z5 z6 j1 j2 j3 j4 hB9 hB8 hC8 hC9 lb hx10 hx9 hw10 hw9
        obtain ⟨z1, z2, z3, z4, z5, z6⟩ := BoxC.of hC11
        have j1 := cell_of_blk (o := 0) hP11 rfl
        have j2 := cell_of_blk (o := 1) hP11 rfl
        have j3 := cell_of_blk (o := 2) hP11 rfl
        have j4 := cell_of_blk (o := 3) hP11 rfl
        go_upto_region 14 with fail
        go_wp2_with fail
        ((with_reducible refine (cb2 _ hw11).mono ?_); rintro e w12 ⟨rfl, hx12⟩)
        have hQ := heap_alloc_new w12 (.cells #[S (R p.a.x), S (R p.a.y), S (R p.b.x), S (R p.b.y)] 31)
        have hx13 := hx12.alloc (.cells #[S (R p.a.x), S (R p.a.y), S (R p.b.x), S (R p.b.y)] 31)
        have hP13 := (hx13.block _ (lt_of_block hP11)).trans hP11
        have hE13 := hE11.trans hx13
        have hrd13 := hrd.ext hx13
        clear z1 z2 z3 z4 z5 z6 j1 j2 j3 j4 hC11 hP11 hx12 hx13 cb2
        go_upto_region 15 with fail
        generalize w12.alloc (.cells #[S (R p.a.x), S (R p.a.y), S (R p.b.x), S (R p.b.y)] 31) = w13 at *
        obtain ⟨bq, hbq⟩ : ∃ g, g = w12.heap.size := ⟨_, rfl⟩
        rw [← hbq] at hQ ⊢
        have hw13 := hw.ext hE13
        clear hbq hE11 hw11 hx11 hE10
        have j1 := cell_of_blk (o := 0) hP13 rfl
        have j2 := cell_of_blk (o := 1) hP13 rfl
        have j3 := cell_of_blk (o := 2) hP13 rfl
        have j4 := cell_of_blk (o := 3) hP13 rfl
        have k1 := cell_of_blk (o := 0) hQ rfl
        have k2 := cell_of_blk (o := 1) hQ rfl
        have k3 := cell_of_blk (o := 2) hQ rfl
        have k4 := cell_of_blk (o := 3) hQ rfl
        go_wp2_with fail
        clear j1 j2 j3 j4 k1 k2 k3 k4 hP13 hQ
        go_loopw [18] (fun i wr => ∃ n : Nat, i = .int .i64 ((n : Int) + 1) ∧ n + 1 ≤ L.length ∧ Ext w13 wr) (fun i _ => L.length - (intOf i).toNat)
        case atStart => exact ⟨0, rfl, by omega, Ext.refl _⟩
        case round =>
          obtain ⟨n, rfl, hn, hext⟩ := hrel
          by_cases hlt : n + 1 < L.length
          · have hX := hE13.trans hext
            obtain ⟨b, o, rfl, hg1, hg2⟩ := rdC_dot (hrd13.ext hext) (j := n) (by omega)
            obtain ⟨_, _, e1, hg3, hg4⟩ := rdC_dot (hrd13.ext hext) hlt
            simp only [Option.some.injEq, Addr.mk.injEq, and_true] at e1
            obtain ⟨rfl, rfl⟩ := e1
            have hnd := HND.out n hlt
            obtain ⟨a1, ha1⟩ : ∃ a, a = L[n].1 := ⟨_, rfl⟩
            obtain ⟨a2, ha2⟩ : ∃ a, a = L[n].2 := ⟨_, rfl⟩
            obtain ⟨b1, hb1⟩ : ∃ a, a = L[n + 1].1 := ⟨_, rfl⟩
            obtain ⟨b2, hb2⟩ : ∃ a, a = L[n + 1].2 := ⟨_, rfl⟩
            rw [← ha1] at hg1 hnd
            rw [← ha2] at hg2 hnd
            rw [← hb1] at hg3 hnd
            rw [← hb2] at hg4 hnd
            obtain ⟨n1, n2, n3, n4⟩ := hnd
            have hw1 : ((n : Int) + 1) - 1 = (n : Int) := by omega
            have hw2 : ((n : Int) + 1).toNat = n + 1 := by omega
            have hl1 : (n : Int) + 1 < (L.length : Int) := by omega
            have hl2 : (n : Int) < (L.length : Int) := by omega
            have hl0 : (0 : Int) ≤ (n : Int) := by omega
            have hl3 : (0 : Int) ≤ (n : Int) + 1 := by omega
            have hbl : b < wr.heap.size := World.block_lt_of_cell? wr _ hg1
            have hv0 : IntKind.i64.wrap (n : Int) = n := IntWalk.i64_in _ (by omega)
            have hv1 : IntKind.i64.wrap ((n : Int) + 1) = (n : Int) + 1 := IntWalk.i64_in _ (by omega)
            clear ha1 ha2 hb1 hb2 hlt
            go_upto_region 20 with fail
            go_region
            all_goals
              have hmx : max (max (max (a1 - b1) (b1 - a1)) (a2 - b2)) (b2 - a2) ≤ 1 := by omega
              go_upto_region 21 with fail
              go_wp2
              go_roundw
              case rel => exact ⟨n + 1, by go_num, by omega, ((hext.alloc _).alloc _).drew⟩
              case measure => simp [intOf]; omega
          · have hle : (L.length : Int) ≤ (n : Int) + 1 := by omega
            clear hlt
            go_wp2
            go_ret
            exact ⟨rfl, hE13.trans hext⟩
    · have cb := Clip_bad c hc t hp (short_of hlong)
      have lb := Line_bad c hc t hp (short_of hlong)
      unfold cvV stV at cb lb
      clear hlong hp
      go_wp2_with fail
      ((with_reducible refine (cb _ hw8).mono ?_); rintro e w9 ⟨rfl, hx9⟩)
      have hw9 := hw8.ext hx9
      have hx10 := hx9.alloc (.cells #[S [], S [], S [], S []] 31)
      have hB9 := (hx10.block _ (lt_of_block hB8)).trans hB8
      have hC9 := (hx10.block _ (lt_of_block hC8)).trans hC8
      obtain ⟨z1, z2, z3, z4, z5, z6⟩ := BoxC.of hC9
      have j1 := cell_of_blk (o := 0) hB9 rfl
      have j2 := cell_of_blk (o := 1) hB9 rfl
      have j3 := cell_of_blk (o := 2) hB9 rfl
      have j4 := cell_of_blk (o := 3) hB9 rfl
      have hw10 := hw8.ext hx10
      have hE10 := hE8.trans hx10
      clear q1 q2 q3 q4 q5 q6 k1 k2 k3 k4 cb
      go_wp2_with fail
      ((with_reducible refine (lb _ hw10).mono ?_); rintro e w11 ⟨rfl, hx11⟩)
      go_wp2
      go_ret
      exact ⟨rfl, hE10.trans hx11⟩
end Go.Proofs.YtblijhokcjpeeaaGreatDoor
