/- DrawingLines: the walk. -/
import Derived.Test.YtblijhokcjpeeaaGreatDoorNB
import Derived.Test.YtblijhokcjpeeaaGreatDoorMW
namespace Go.Proofs.YtblijhokcjpeeaaGreatDoor
open Go.RowKit Kl

open Classical in
set_option maxRecDepth 100000 in
set_option maxHeartbeats 16000000 in
theorem lines_c (f : Fr) (hf : f.Ok) (t : SgT) (w : World) (hw : Okw w) : Calls Tryz.prog 4 #[frV f, stV t] w (RetB true w) := by
  have mk := make_c f hf
  have hc := frCv_ok f
  obtain ⟨bb, hbb⟩ : ∃ b : Bool, b = true ↔ ∀ p ∈ t.pts, longP p = false := ⟨decide (∀ p ∈ t.pts, longP p = false), decide_eq_true_iff⟩
  obtain ⟨rr, hrr⟩ : ∃ b : Bool, b = true ↔ ∀ p ∈ t.pts, badP p = false := ⟨decide (∀ p ∈ t.pts, badP p = false), decide_eq_true_iff⟩
  have br := brief_c t.pts bb hbb
  have rt := right_c t.pts rr hrr
  have hpl : t.pts.length = 2 := rfl
  have hfl : flat t.pts = [S t.fx, S t.fy, S t.tx, S t.ty] := rfl
  rw [hpl, hfl] at br rt
  have hrk : rr = true ↔ okPts t.pts := by
    rw [hrr]
    exact ⟨fun h p hp => by have := h p hp; unfold badP at this; simpa using this, fun h p hp => by unfold badP; simpa using h p hp⟩
  have HRK := Lib.hid hrk
  have HBB := Lib.hid hbb
  have HF := Lib.hid hf
  have hA := heap_alloc_new w (.cells #[.int .i8 f.a, .int .i8 f.b, .int .u8 f.s, .int .u8 f.t, .int .u8 f.u, .int .u8 f.v] 26)
  have hB := heap_alloc_new (w.alloc (.cells #[.int .i8 f.a, .int .i8 f.b, .int .u8 f.s, .int .u8 f.t, .int .u8 f.u, .int .u8 f.v] 26)) (.cells #[S t.fx, S t.fy, S t.tx, S t.ty] 31)
  replace hA := (((Ext.refl _).alloc (.cells #[S t.fx, S t.fy, S t.tx, S t.ty] 31)).block _ (lt_of_block hA)).trans hA
  have hE := ((Ext.refl w).alloc (.cells #[.int .i8 f.a, .int .i8 f.b, .int .u8 f.s, .int .u8 f.t, .int .u8 f.u, .int .u8 f.v] 26)).alloc (.cells #[S t.fx, S t.fy, S t.tx, S t.ty] 31)
  rw [World.size_alloc] at hB
  unfold frV at mk
  unfold frV stV
  clear hbb hf hpl hfl hrr hrk
  go_enter Tryz.func4, Tryz.ntmps4
  go_upto_region 1 with fail
  generalize (w.alloc (.cells #[.int .i8 f.a, .int .i8 f.b, .int .u8 f.s, .int .u8 f.t, .int .u8 f.u, .int .u8 f.v] 26)).alloc (.cells #[S t.fx, S t.fy, S t.tx, S t.ty] 31) = V at *
  obtain ⟨bf, hbf⟩ : ∃ g, g = w.heap.size := ⟨_, rfl⟩
  rw [← hbf] at hA hB ⊢
  have hV := hw.ext hE
  clear hbf
  have kn := known_c V hV
  go_wp2_with fail
  ((with_reducible refine kn.mono ?_); rintro e w1 ⟨rfl, hx1⟩)
  have hA1 := (hx1.block _ (lt_of_block hA)).trans hA
  have hB1 := (hx1.block _ (lt_of_block hB)).trans hB
  have k1 := cell_of_blk (o := 0) hB1 rfl
  have k2 := cell_of_blk (o := 1) hB1 rfl
  have k3 := cell_of_blk (o := 2) hB1 rfl
  have k4 := cell_of_blk (o := 3) hB1 rfl
  have hE1 := hE.trans hx1
  have br1 := br (some ⟨w1.heap.size, 0, none⟩) 2 (w1.alloc (.cells #[S t.fx, S t.fy, S t.tx, S t.ty] 29)) (RdC.lit w1 #[S t.fx, S t.fy, S t.tx, S t.ty] 29) (by omega) (by omega)
  have hx1a := (Ext.refl w1).alloc (.cells #[S t.fx, S t.fy, S t.tx, S t.ty] 29)
  clear hA hB kn hx1 br
  go_wp2_with fail
  ((with_reducible refine br1.mono ?_); rintro e w2 ⟨rfl, hx2⟩)
  have hx12 := hx1a.trans hx2
  have hA2 := (hx12.block _ (lt_of_block hA1)).trans hA1
  have hB2 := (hx12.block _ (lt_of_block hB1)).trans hB1
  have hE2 := hE1.trans hx12
  clear hA1 hB1 k1 k2 k3 k4 br1 hx2 hx1a hx12 hE1
  have hw2 := hw.ext hE2
  cases bb with
  | false =>
    have kn2 := known_c w2 hw2
    clear rt
    go_wp2_with fail
    ((with_reducible refine kn2.mono ?_); rintro e w3 ⟨rfl, hx3⟩)
    go_wp2
    go_ret
    exact ⟨rfl, hE2.trans hx3⟩
  | true =>
    have hlong := HBB.out.1 (by trivial)
    generalize frCv f = c at *
    unfold cvV at mk
    have k1 := cell_of_blk (o := 0) hA2 rfl
    have k2 := cell_of_blk (o := 1) hA2 rfl
    have k3 := cell_of_blk (o := 2) hA2 rfl
    have k4 := cell_of_blk (o := 3) hA2 rfl
    have k5 := cell_of_blk (o := 4) hA2 rfl
    have k6 := cell_of_blk (o := 5) hA2 rfl
    replace rt := rt (short_of hlong)
    go_wp2_with fail
    ((with_reducible refine (mk _ hw2).mono ?_); rintro e w3 ⟨rfl, hx3⟩)
    have hE3 := hE2.trans hx3
    have hB3 := (hx3.block _ (lt_of_block hB2)).trans hB2
    have hC := heap_alloc_new w3 (.cells #[S (R c.low.x), S (R c.low.y), S (R c.high.x), S (R c.high.y), .int .i64 (c.W : Nat), .int .i64 (c.H : Nat)] 35)
    have hx3a := (Ext.refl w3).alloc (.cells #[S (R c.low.x), S (R c.low.y), S (R c.high.x), S (R c.high.y), .int .i64 (c.W : Nat), .int .i64 (c.H : Nat)] 35)
    have hB8 := (hx3a.block _ (lt_of_block hB3)).trans hB3
    have hE8 := hE3.trans hx3a
    clear k1 k2 k3 k4 k5 k6 hx3 hA2 hB2 hB3 hE2 hE3 mk
    go_upto_region 4 with fail
    generalize w3.alloc (.cells #[S (R c.low.x), S (R c.low.y), S (R c.high.x), S (R c.high.y), .int .i64 (c.W : Nat), .int .i64 (c.H : Nat)] 35) = w8 at *
    obtain ⟨bc, hbc⟩ : ∃ g, g = w3.heap.size := ⟨_, rfl⟩
    rw [← hbc] at hC ⊢
    clear hbc hx3a
    have hC8 := hC
    obtain ⟨q1, q2, q3, q4, q5, q6⟩ := BoxC.of hC
    have hw8 := hw.ext hE8
    have k1 := cell_of_blk (o := 0) hB8 rfl
    have k2 := cell_of_blk (o := 1) hB8 rfl
    have k3 := cell_of_blk (o := 2) hB8 rfl
    have k4 := cell_of_blk (o := 3) hB8 rfl
    clear hC
    by_cases hp : okPts t.pts
    · have hrr : rr = true := HRK.out.2 hp
      subst hrr
      obtain ⟨s, hs, rfl⟩ := seg_of hp hlong
      unfold sgT at *
      dsimp only at *
      clear hlong hp HRK
      have hs127 := fun p h => clip_sz (p := p) hc hs h
      cases hcl : clipR c s with
      | none =>
        have cb := Clip_none c hc s hs (by omega) (by omega) hcl
        have lb := Line_none c hc s hs (by omega) (by omega) hcl
        have lc := lawClip_c c s hc hs (by omega) (by omega)
        rw [clipLV_none (by rw [rclip_eq]; exact hcl)] at lc
        have ll := lawLine_none c hc s hs (by omega) (by omega) hcl
        unfold cvV sgV at cb lb lc ll
        clear hcl hs127
        go_wp2_with fail
        ((with_reducible refine (cb _ hw8).mono ?_); rintro e w9 ⟨rfl, hx9⟩)
        have hP := heap_alloc_new w9 (.cells #[S [], S [], S [], S []] 31)
        have hx10 := hx9.alloc (.cells #[S [], S [], S [], S []] 31)
        have hB9 := (hx10.block _ (lt_of_block hB8)).trans hB8
        have hC9 := (hx10.block _ (lt_of_block hC8)).trans hC8
        obtain ⟨z1, z2, z3, z4, z5, z6⟩ := BoxC.of hC9
        have j1 := cell_of_blk (o := 0) hB9 rfl
        have j2 := cell_of_blk (o := 1) hB9 rfl
        have j3 := cell_of_blk (o := 2) hB9 rfl
        have j4 := cell_of_blk (o := 3) hB9 rfl
        have hw10 := hw8.ext hx10
        have hE10 := hE8.trans hx10
        clear q1 q2 q3 q4 q5 q6 k1 k2 k3 k4 cb hx9 hB8 hC8
        go_upto_region 5 with fail
        obtain ⟨bp, hbp⟩ : ∃ g, g = w9.heap.size := ⟨_, rfl⟩
        rw [show (⟨#[]⟩ : ByteArray) = ⟨([] : Bs).toArray⟩ from rfl] at *
        generalize w9.alloc (.cells #[S [], S [], S [], S []] 31) = w10 at *
        rw [← hbp] at hP ⊢
        clear hbp
        go_wp2_with fail
        ((with_reducible refine (lb _ hw10).mono ?_); rintro e w11 ⟨A11, c11, rfl, hrd, hc1, hc2, hx11⟩)
        have hE11 := hE10.trans hx11
        have hP11 := (hx11.block _ (lt_of_block hP)).trans hP
        have hB11 := (hx11.block _ (lt_of_block hB9)).trans hB9
        have hC11 := (hx11.block _ (lt_of_block hC9)).trans hC9
        have hw11 := hw.ext hE11
        clear z1 z2 z3 z4 z5 z6 j1 j2 j3 j4 hP hB9 hC9 lb hx10 hw10 hE10 hE8 hw8
        have j1 := cell_of_blk (o := 0) hB11 rfl
        have j2 := cell_of_blk (o := 1) hB11 rfl
        have j3 := cell_of_blk (o := 2) hB11 rfl
        have j4 := cell_of_blk (o := 3) hB11 rfl
        have hx11a := (Ext.refl w11).alloc (.cells #[S (R s.a.x), S (R s.a.y), S (R s.b.x), S (R s.b.y)] 29)
        have rt1 := rt (some ⟨w11.heap.size, 0, none⟩) 2 (w11.alloc (.cells #[S (R s.a.x), S (R s.a.y), S (R s.b.x), S (R s.b.y)] 29)) (hw11.ext hx11a) (RdC.lit w11 #[S (R s.a.x), S (R s.a.y), S (R s.b.x), S (R s.b.y)] 29) (by omega) (by omega)
        clear rt
        go_wp2_with fail
        ((with_reducible refine rt1.mono ?_); rintro e w12 ⟨rfl, hx12⟩)
        replace hx12 := hx11a.trans hx12
        have hE12 := hE11.trans hx12
        have hP12 := (hx12.block _ (lt_of_block hP11)).trans hP11
        have hB12 := (hx12.block _ (lt_of_block hB11)).trans hB11
        have hC12 := (hx12.block _ (lt_of_block hC11)).trans hC11
        replace hrd := hrd.ext hx12
        have hw12 := hw.ext hE12
        clear hx11a rt1 j1 j2 j3 j4 hP11 hB11 hC11 hx11 hw11 hE11 hx12
        obtain ⟨q1, q2, q3, q4, q5, q6⟩ := BoxC.of hC12
        have k1 := cell_of_blk (o := 0) hB12 rfl
        have k2 := cell_of_blk (o := 1) hB12 rfl
        have k3 := cell_of_blk (o := 2) hB12 rfl
        have k4 := cell_of_blk (o := 3) hB12 rfl
        go_wp2_with fail
        ((with_reducible refine (lc _ hw12).mono ?_); rintro e w13 ⟨rfl, hx13⟩)
        have hQ := heap_alloc_new w13 (.cells #[S [], S [], S [], S []] 31)
        replace hx13 := hx13.alloc (.cells #[S [], S [], S [], S []] 31)
        have hE14 := hE12.trans hx13
        have hP14 := (hx13.block _ (lt_of_block hP12)).trans hP12
        have hB14 := (hx13.block _ (lt_of_block hB12)).trans hB12
        have hC14 := (hx13.block _ (lt_of_block hC12)).trans hC12
        replace hrd := hrd.ext hx13
        clear q1 q2 q3 q4 q5 q6 k1 k2 k3 k4 hP12 hB12 hC12 hx13 hw12 hE12 lc
        go_upto_region 9 with fail
        obtain ⟨bq, hbq⟩ : ∃ g, g = w13.heap.size := ⟨_, rfl⟩
        rw [show (⟨#[]⟩ : ByteArray) = ⟨([] : Bs).toArray⟩ from rfl] at *
        generalize w13.alloc (.cells #[S [], S [], S [], S []] 31) = w14 at *
        rw [← hbq] at hQ ⊢
        clear hbq
        have hw14 := hw.ext hE14
        obtain ⟨q1, q2, q3, q4, q5, q6⟩ := BoxC.of hC14
        have k1 := cell_of_blk (o := 0) hB14 rfl
        have k2 := cell_of_blk (o := 1) hB14 rfl
        have k3 := cell_of_blk (o := 2) hB14 rfl
        have k4 := cell_of_blk (o := 3) hB14 rfl
        have y1 := cell_of_blk (o := 0) hP14 rfl
        have y2 := cell_of_blk (o := 1) hP14 rfl
        have y3 := cell_of_blk (o := 2) hP14 rfl
        have y4 := cell_of_blk (o := 3) hP14 rfl
        have x1 := cell_of_blk (o := 0) hQ rfl
        have x2 := cell_of_blk (o := 1) hQ rfl
        have x3 := cell_of_blk (o := 2) hQ rfl
        have x4 := cell_of_blk (o := 3) hQ rfl
        go_wp2_with fail
        ((with_reducible refine (ll _ hw14).mono ?_); rintro e w15 ⟨A15, c15, rfl, hrd5, hc51, hc52, hx15⟩)
        have eq := equal_dots [] A11 A15 c11 c15 w15 (hrd.ext hx15) hrd5 hc1 hc2 hc51 hc52
        rw [List.length_nil] at eq
        go_wp2_with fail
        ((with_reducible refine eq.mono ?_); rintro e w16 ⟨rfl, hx16⟩)
        go_wp2
        go_ret
        exact ⟨rfl, (hE14.trans hx15).trans hx16⟩
      | some p =>
        have hps := hs127 p hcl
        have hps2 : SzS 200 p := ⟨⟨hps.a.x.mono (by omega), hps.a.y.mono (by omega)⟩, ⟨hps.b.x.mono (by omega), hps.b.y.mono (by omega)⟩⟩
        have cb := Clip_some c hc s p hs (by omega) (by omega) hcl hps2
        have lb := Line_some c hc s hs (by omega) (by omega) p hcl
        have lc := lawClip_c c s hc hs (by omega) (by omega)
        rw [clipLV_some (by rw [rclip_eq]; exact hcl)] at lc
        have ll := lawLine_some c hc s p hs (by omega) (by omega) hcl
        obtain ⟨L, hL⟩ : ∃ L, L = dots c p := ⟨_, rfl⟩
        rw [← hL] at lb ll
        unfold cvV sgV at cb lb lc ll
        clear hcl hs127 hps hps2 hL
        go_wp2_with fail
        ((with_reducible refine (cb _ hw8).mono ?_); rintro e w9 ⟨rfl, hx9⟩)
        have hP := heap_alloc_new w9 (.cells #[S (R p.a.x), S (R p.a.y), S (R p.b.x), S (R p.b.y)] 31)
        have hx10 := hx9.alloc (.cells #[S (R p.a.x), S (R p.a.y), S (R p.b.x), S (R p.b.y)] 31)
        have hB9 := (hx10.block _ (lt_of_block hB8)).trans hB8
        have hC9 := (hx10.block _ (lt_of_block hC8)).trans hC8
        obtain ⟨z1, z2, z3, z4, z5, z6⟩ := BoxC.of hC9
        have j1 := cell_of_blk (o := 0) hB9 rfl
        have j2 := cell_of_blk (o := 1) hB9 rfl
        have j3 := cell_of_blk (o := 2) hB9 rfl
        have j4 := cell_of_blk (o := 3) hB9 rfl
        have hw10 := hw8.ext hx10
        have hE10 := hE8.trans hx10
        clear q1 q2 q3 q4 q5 q6 k1 k2 k3 k4 cb hx9 hB8 hC8
        go_upto_region 5 with fail
        obtain ⟨bp, hbp⟩ : ∃ g, g = w9.heap.size := ⟨_, rfl⟩
        generalize w9.alloc (.cells #[S (R p.a.x), S (R p.a.y), S (R p.b.x), S (R p.b.y)] 31) = w10 at *
        rw [← hbp] at hP ⊢
        clear hbp
        go_wp2_with fail
        ((with_reducible refine (lb _ hw10).mono ?_); rintro e w11 ⟨A11, c11, rfl, hrd, hc1, hc2, hx11⟩)
        have hE11 := hE10.trans hx11
        have hP11 := (hx11.block _ (lt_of_block hP)).trans hP
        have hB11 := (hx11.block _ (lt_of_block hB9)).trans hB9
        have hC11 := (hx11.block _ (lt_of_block hC9)).trans hC9
        have hw11 := hw.ext hE11
        clear z1 z2 z3 z4 z5 z6 j1 j2 j3 j4 hP hB9 hC9 lb hx10 hw10 hE10 hE8 hw8
        have j1 := cell_of_blk (o := 0) hB11 rfl
        have j2 := cell_of_blk (o := 1) hB11 rfl
        have j3 := cell_of_blk (o := 2) hB11 rfl
        have j4 := cell_of_blk (o := 3) hB11 rfl
        have hx11a := (Ext.refl w11).alloc (.cells #[S (R s.a.x), S (R s.a.y), S (R s.b.x), S (R s.b.y)] 29)
        have rt1 := rt (some ⟨w11.heap.size, 0, none⟩) 2 (w11.alloc (.cells #[S (R s.a.x), S (R s.a.y), S (R s.b.x), S (R s.b.y)] 29)) (hw11.ext hx11a) (RdC.lit w11 #[S (R s.a.x), S (R s.a.y), S (R s.b.x), S (R s.b.y)] 29) (by omega) (by omega)
        clear rt
        go_wp2_with fail
        ((with_reducible refine rt1.mono ?_); rintro e w12 ⟨rfl, hx12⟩)
        replace hx12 := hx11a.trans hx12
        have hE12 := hE11.trans hx12
        have hP12 := (hx12.block _ (lt_of_block hP11)).trans hP11
        have hB12 := (hx12.block _ (lt_of_block hB11)).trans hB11
        have hC12 := (hx12.block _ (lt_of_block hC11)).trans hC11
        replace hrd := hrd.ext hx12
        have hw12 := hw.ext hE12
        clear hx11a rt1 j1 j2 j3 j4 hP11 hB11 hC11 hx11 hw11 hE11 hx12
        obtain ⟨q1, q2, q3, q4, q5, q6⟩ := BoxC.of hC12
        have k1 := cell_of_blk (o := 0) hB12 rfl
        have k2 := cell_of_blk (o := 1) hB12 rfl
        have k3 := cell_of_blk (o := 2) hB12 rfl
        have k4 := cell_of_blk (o := 3) hB12 rfl
        go_wp2_with fail
        ((with_reducible refine (lc _ hw12).mono ?_); rintro e w13 ⟨rfl, hx13⟩)
        have hQ := heap_alloc_new w13 (.cells #[S (R p.a.x), S (R p.a.y), S (R p.b.x), S (R p.b.y)] 31)
        replace hx13 := hx13.alloc (.cells #[S (R p.a.x), S (R p.a.y), S (R p.b.x), S (R p.b.y)] 31)
        have hE14 := hE12.trans hx13
        have hP14 := (hx13.block _ (lt_of_block hP12)).trans hP12
        have hB14 := (hx13.block _ (lt_of_block hB12)).trans hB12
        have hC14 := (hx13.block _ (lt_of_block hC12)).trans hC12
        replace hrd := hrd.ext hx13
        clear q1 q2 q3 q4 q5 q6 k1 k2 k3 k4 hP12 hB12 hC12 hx13 hw12 hE12 lc
        go_upto_region 9 with fail
        obtain ⟨bq, hbq⟩ : ∃ g, g = w13.heap.size := ⟨_, rfl⟩
        generalize w13.alloc (.cells #[S (R p.a.x), S (R p.a.y), S (R p.b.x), S (R p.b.y)] 31) = w14 at *
        rw [← hbq] at hQ ⊢
        clear hbq
        have hw14 := hw.ext hE14
        obtain ⟨q1, q2, q3, q4, q5, q6⟩ := BoxC.of hC14
        have k1 := cell_of_blk (o := 0) hB14 rfl
        have k2 := cell_of_blk (o := 1) hB14 rfl
        have k3 := cell_of_blk (o := 2) hB14 rfl
        have k4 := cell_of_blk (o := 3) hB14 rfl
        have y1 := cell_of_blk (o := 0) hP14 rfl
        have y2 := cell_of_blk (o := 1) hP14 rfl
        have y3 := cell_of_blk (o := 2) hP14 rfl
        have y4 := cell_of_blk (o := 3) hP14 rfl
        have x1 := cell_of_blk (o := 0) hQ rfl
        have x2 := cell_of_blk (o := 1) hQ rfl
        have x3 := cell_of_blk (o := 2) hQ rfl
        have x4 := cell_of_blk (o := 3) hQ rfl
        go_wp2_with fail
        ((with_reducible refine (ll _ hw14).mono ?_); rintro e w15 ⟨A15, c15, rfl, hrd5, hc51, hc52, hx15⟩)
        have eq := equal_dots L A11 A15 c11 c15 w15 (hrd.ext hx15) hrd5 hc1 hc2 hc51 hc52
        go_wp2_with fail
        ((with_reducible refine eq.mono ?_); rintro e w16 ⟨rfl, hx16⟩)
        go_wp2
        go_ret
        exact ⟨rfl, (hE14.trans hx15).trans hx16⟩
    · have hrr : rr = false := by cases rr with | false => rfl | true => exact absurd (HRK.out.1 rfl) hp
      subst hrr
      have cb := Clip_bad c hc t hp (short_of hlong)
      have lb := Line_bad c hc t hp (short_of hlong)
      unfold cvV stV at cb lb
      clear hlong hp HRK
      go_wp2_with fail
      ((with_reducible refine (cb _ hw8).mono ?_); rintro e w9 ⟨rfl, hx9⟩)
      have hP := heap_alloc_new w9 (.cells #[S [], S [], S [], S []] 31)
      have hx10 := hx9.alloc (.cells #[S [], S [], S [], S []] 31)
      have hB9 := (hx10.block _ (lt_of_block hB8)).trans hB8
      have hC9 := (hx10.block _ (lt_of_block hC8)).trans hC8
      obtain ⟨z1, z2, z3, z4, z5, z6⟩ := BoxC.of hC9
      have j1 := cell_of_blk (o := 0) hB9 rfl
      have j2 := cell_of_blk (o := 1) hB9 rfl
      have j3 := cell_of_blk (o := 2) hB9 rfl
      have j4 := cell_of_blk (o := 3) hB9 rfl
      have hw10 := hw8.ext hx10
      have hE10 := hE8.trans hx10
      clear q1 q2 q3 q4 q5 q6 k1 k2 k3 k4 cb hx9 hB8 hC8
      go_upto_region 5 with fail
      obtain ⟨bp, hbp⟩ : ∃ g, g = w9.heap.size := ⟨_, rfl⟩
      rw [show (⟨#[]⟩ : ByteArray) = ⟨([] : Bs).toArray⟩ from rfl] at *
      generalize w9.alloc (.cells #[S [], S [], S [], S []] 31) = w10 at *
      rw [← hbp] at hP ⊢
      clear hbp
      go_wp2_with fail
      ((with_reducible refine (lb _ hw10).mono ?_); rintro e w11 ⟨rfl, hx11⟩)
      have hE11 := hE10.trans hx11
      have hP11 := (hx11.block _ (lt_of_block hP)).trans hP
      have hB11 := (hx11.block _ (lt_of_block hB9)).trans hB9
      have hC11 := (hx11.block _ (lt_of_block hC9)).trans hC9
      have hw11 := hw.ext hE11
      clear z1 z2 z3 z4 z5 z6 j1 j2 j3 j4 hP hB9 hC9 lb hx10 hw10 hE10 hE8 hw8
      have j1 := cell_of_blk (o := 0) hB11 rfl
      have j2 := cell_of_blk (o := 1) hB11 rfl
      have j3 := cell_of_blk (o := 2) hB11 rfl
      have j4 := cell_of_blk (o := 3) hB11 rfl
      have hx11a := (Ext.refl w11).alloc (.cells #[S t.fx, S t.fy, S t.tx, S t.ty] 29)
      have rt1 := rt (some ⟨w11.heap.size, 0, none⟩) 2 (w11.alloc (.cells #[S t.fx, S t.fy, S t.tx, S t.ty] 29)) (hw11.ext hx11a) (RdC.lit w11 #[S t.fx, S t.fy, S t.tx, S t.ty] 29) (by omega) (by omega)
      clear rt
      go_wp2_with fail
      ((with_reducible refine rt1.mono ?_); rintro e w12 ⟨rfl, hx12⟩)
      replace hx12 := hx11a.trans hx12
      have hE12 := hE11.trans hx12
      have hP12 := (hx12.block _ (lt_of_block hP11)).trans hP11
      have hB12 := (hx12.block _ (lt_of_block hB11)).trans hB11
      have hC12 := (hx12.block _ (lt_of_block hC11)).trans hC11
      have hw12 := hw.ext hE12
      clear hx11a rt1 j1 j2 j3 j4 hP11 hB11 hC11 hx11 hw11 hE11 hx12
      have y1 := cell_of_blk (o := 0) hP12 rfl
      have y2 := cell_of_blk (o := 1) hP12 rfl
      have y3 := cell_of_blk (o := 2) hP12 rfl
      have y4 := cell_of_blk (o := 3) hP12 rfl
      go_wp2
      go_ret
      exact ⟨rfl, hE12⟩
end Go.Proofs.YtblijhokcjpeeaaGreatDoor
