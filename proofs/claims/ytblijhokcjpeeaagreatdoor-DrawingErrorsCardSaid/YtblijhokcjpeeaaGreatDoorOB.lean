/- DrawingErrors: for every canvas the law answers true, and the argument reads behind the call as it read before; the listed library variables are tied to the program's text. -/
import Derived.Test.YtblijhokcjpeeaaGreatDoorOA
import Derived.Test.YtblijhokcjpeeaaGreatDoorMW
import Derived.Test.YtblijhokcjpeeaaGreatDoorMU
import Derived.Test.YtblijhokcjpeeaaGreatDoorMX
import Derived.Test.YtblijhokcjpeeaaGreatDoorTie
import Derived.Test.YtblijhokcjpeeaaGreatDoorCards
import Derived.SevenTiedAt
/- DrawingErrors: the walk. -/
namespace Go.Proofs.YtblijhokcjpeeaaGreatDoor
open Go.RowKit Kl

theorem lCheck_any {c : CvT} {e : Int} (h : CanvasE c e) (hs : shortPts c.pts) : ckL e c := by
  cases h with
  | number h => exact lCheck_number c h hs
  | orderX n h => exact lCheck_orderX c n h
  | orderY n h1 h2 => exact lCheck_orderY c n h1 h2
  | side n h1 h2 h => have := lCheck_side c n h1 h2; rw [h] at this; exact this
  | ok n h1 h2 h => have := lCheck_side c n h1 h2; rw [h] at this; exact this
open Classical in
set_option maxRecDepth 100000 in
set_option maxHeartbeats 16000000 in
theorem errors_c (c : CvT) (w : World) (hw : Okw w) : Calls Tryz.prog 6 #[ctV c] w (RetB true w) := by
  obtain ⟨bb, hbb⟩ : ∃ b : Bool, b = true ↔ ∀ p ∈ c.pts, longP p = false := ⟨decide (∀ p ∈ c.pts, longP p = false), decide_eq_true_iff⟩
  have br := brief_c c.pts bb hbb
  have hpl : c.pts.length = 2 := rfl
  have hfl : flat c.pts = [S c.lx, S c.ly, S c.hx, S c.hy] := rfl
  rw [hpl, hfl] at br
  have HBB := Lib.hid hbb
  have hA := heap_alloc_new w (.cells #[S c.lx, S c.ly, S c.hx, S c.hy, .int .i64 c.W, .int .i64 c.H] 35)
  have hE := (Ext.refl w).alloc (.cells #[S c.lx, S c.ly, S c.hx, S c.hy, .int .i64 c.W, .int .i64 c.H] 35)
  unfold ctV
  clear hbb hpl hfl
  go_enter Tryz.func6, Tryz.ntmps6
  go_upto_region 1 with fail
  generalize w.alloc (.cells #[S c.lx, S c.ly, S c.hx, S c.hy, .int .i64 c.W, .int .i64 c.H] 35) = V at *
  obtain ⟨bc, hbc⟩ : ∃ g, g = w.heap.size := ⟨_, rfl⟩
  rw [← hbc] at hA ⊢
  have hV := hw.ext hE
  clear hbc
  have kn := known_c V hV
  go_wp2_with fail
  ((with_reducible refine kn.mono ?_); rintro e w1 ⟨rfl, hx1⟩)
  have hA1 := (hx1.block _ (lt_of_block hA)).trans hA
  obtain ⟨k1, k2, k3, k4, k5, k6⟩ := BoxT.of hA1
  have hE1 := hE.trans hx1
  have br1 := br (some ⟨w1.heap.size, 0, none⟩) 2 (w1.alloc (.cells #[S c.lx, S c.ly, S c.hx, S c.hy] 29)) (RdC.lit w1 #[S c.lx, S c.ly, S c.hx, S c.hy] 29) (by omega) (by omega)
  have hx1a := (Ext.refl w1).alloc (.cells #[S c.lx, S c.ly, S c.hx, S c.hy] 29)
  clear hA kn hx1 br
  go_wp2_with fail
  ((with_reducible refine br1.mono ?_); rintro e w2 ⟨rfl, hx2⟩)
  have hx12 := hx1a.trans hx2
  have hA2 := (hx12.block _ (lt_of_block hA1)).trans hA1
  have hE2 := hE1.trans hx12
  clear hA1 k1 k2 k3 k4 k5 k6 br1 hx2 hx1a hx12 hE1
  have hw2 := hw.ext hE2
  cases bb with
  | false =>
    have kn2 := known_c w2 hw2
    go_wp2_with fail
    ((with_reducible refine kn2.mono ?_); rintro e w3 ⟨rfl, hx3⟩)
    go_wp2
    go_ret
    exact ⟨rfl, hE2.trans hx3⟩
  | true =>
    have hlong := HBB.out.1 (by trivial)
    obtain ⟨z, hz⟩ := canvasE_of c hlong
    have ckc := dCheck_any hz (shortT hlong)
    have ckl := lCheck_any hz (shortT hlong) w2 hw2
    clear hz hlong
    obtain ⟨k1, k2, k3, k4, k5, k6⟩ := BoxT.of hA2
    unfold ctV at ckl
    go_wp2_with fail
    ((with_reducible refine ckl.mono ?_); rintro e w3 ⟨rfl, hx3⟩)
    have hE3 := hE2.trans hx3
    have hA3 := (hx3.block _ (lt_of_block hA2)).trans hA2
    clear k1 k2 k3 k4 k5 k6 hx3 hA2 hE2 ckl
    have hw3 := hw.ext hE3
    by_cases h0 : z = 0
    · subst h0
      clear ckc
      go_wp2
      go_ret
      exact ⟨rfl, hE3⟩
    · have a0 := at_lit 0 0 (by decide) (by decide) ⟨0, 0⟩ (by decide +kernel)
      have a1 := at_lit 1 1 (by decide) (by decide) ⟨1, 1⟩ (by decide +kernel)
      have hd0 : ((z : Int) == 0) = false := by rw [beq_eq_false_iff_ne]; exact h0
      have clip := Clip_err ckc h0 ⟨R (0 : Rat), R (0 : Rat), R (1 : Rat), R (1 : Rat)⟩
      have line := Line_err ckc h0 ⟨R (0 : Rat), R (0 : Rat), R (1 : Rat), R (1 : Rat)⟩
      have path := Path_err ckc h0 none 0 0
      have edges := Edges_err ckc h0
      have pict := Picture_err ckc h0
      unfold ctV stV at clip line
      unfold ctV at path edges pict
      dsimp only at clip line a0 a1
      go_wp2_with fail
      ((with_reducible refine (a0 _ hw3).mono ?_); rintro e w4 ⟨rfl, hx4⟩)
      have hE4 := hE3.trans hx4
      go_wp2_with fail
      ((with_reducible refine (a1 _ (hw.ext hE4)).mono ?_); rintro e w5 ⟨rfl, hx5⟩)
      have hE5 := hE4.trans hx5
      have hA5 := ((hx4.trans hx5).block _ (lt_of_block hA3)).trans hA3
      have hS := heap_alloc_new w5 (.cells #[S (R (0 : Rat)), S (R (0 : Rat)), S (R (1 : Rat)), S (R (1 : Rat))] 31)
      have hx6 := (Ext.refl w5).alloc (.cells #[S (R (0 : Rat)), S (R (0 : Rat)), S (R (1 : Rat)), S (R (1 : Rat))] 31)
      have hA6 := (hx6.block _ (lt_of_block hA5)).trans hA5
      have hE6 := hE5.trans hx6
      go_upto_region 7 with fail
      generalize w5.alloc (.cells #[S (R (0 : Rat)), S (R (0 : Rat)), S (R (1 : Rat)), S (R (1 : Rat))] 31) = w6 at *
      obtain ⟨bs, hbs⟩ : ∃ g, g = w5.heap.size := ⟨_, rfl⟩
      rw [← hbs] at hS ⊢
      clear hbs hx6 hx4 hx5 hA3 hA5 hE3 hE4 hE5 hw3
      obtain ⟨k1, k2, k3, k4, k5, k6⟩ := BoxT.of hA6
      have j1 := cell_of_blk (o := 0) hS rfl
      have j2 := cell_of_blk (o := 1) hS rfl
      have j3 := cell_of_blk (o := 2) hS rfl
      have j4 := cell_of_blk (o := 3) hS rfl
      go_wp2_with fail
      ((with_reducible refine (clip _ (hw.ext hE6)).mono ?_); rintro e w7 ⟨rfl, hx7⟩)
      have hP := heap_alloc_new w7 (.cells #[S [], S [], S [], S []] 31)
      have hx8 := hx7.alloc (.cells #[S [], S [], S [], S []] 31)
      have hA8 := (hx8.block _ (lt_of_block hA6)).trans hA6
      have hS8 := (hx8.block _ (lt_of_block hS)).trans hS
      have hE8 := hE6.trans hx8
      clear k1 k2 k3 k4 k5 k6 j1 j2 j3 j4 hA6 hS hE6 hx7 clip
      go_upto_region 8 with fail
      rw [show (⟨#[]⟩ : ByteArray) = ⟨([] : Bs).toArray⟩ from rfl] at *
      generalize w7.alloc (.cells #[S [], S [], S [], S []] 31) = w8 at *
      obtain ⟨bp, hbp⟩ : ∃ g, g = w7.heap.size := ⟨_, rfl⟩
      rw [← hbp] at hP ⊢
      clear hbp hx8
      obtain ⟨k1, k2, k3, k4, k5, k6⟩ := BoxT.of hA8
      have j1 := cell_of_blk (o := 0) hS8 rfl
      have j2 := cell_of_blk (o := 1) hS8 rfl
      have j3 := cell_of_blk (o := 2) hS8 rfl
      have j4 := cell_of_blk (o := 3) hS8 rfl
      go_wp2_with fail
      ((with_reducible refine (line _ (hw.ext hE8)).mono ?_); rintro e w9 ⟨rfl, hx9⟩)
      have hA9 := (hx9.block _ (lt_of_block hA8)).trans hA8
      have hP9 := (hx9.block _ (lt_of_block hP)).trans hP
      have hE9 := hE8.trans hx9
      clear k1 k2 k3 k4 k5 k6 j1 j2 j3 j4 hA8 hS8 hP hE8 hx9 line
      obtain ⟨k1, k2, k3, k4, k5, k6⟩ := BoxT.of hA9
      go_wp2_with fail
      ((with_reducible refine (path _ (hw.ext hE9)).mono ?_); rintro e w10 ⟨rfl, hx10⟩)
      have hA10 := (hx10.block _ (lt_of_block hA9)).trans hA9
      have hP10 := (hx10.block _ (lt_of_block hP9)).trans hP9
      have hE10 := hE9.trans hx10
      clear k1 k2 k3 k4 k5 k6 hA9 hP9 hE9 hx10 path
      obtain ⟨k1, k2, k3, k4, k5, k6⟩ := BoxT.of hA10
      go_wp2_with fail
      ((with_reducible refine (edges _ (hw.ext hE10)).mono ?_); rintro e w11 ⟨rfl, hx11⟩)
      have hA11 := (hx11.block _ (lt_of_block hA10)).trans hA10
      have hP11 := (hx11.block _ (lt_of_block hP10)).trans hP10
      have hE11 := hE10.trans hx11
      clear k1 k2 k3 k4 k5 k6 hA10 hP10 hE10 hx11 edges
      obtain ⟨k1, k2, k3, k4, k5, k6⟩ := BoxT.of hA11
      go_wp2_with fail
      ((with_reducible refine (pict _ (hw.ext hE11)).mono ?_); rintro e w12 ⟨rfl, hx12⟩)
      have hP12 := (hx12.block _ (lt_of_block hP11)).trans hP11
      have hE12 := hE11.trans hx12
      clear k1 k2 k3 k4 k5 k6 hA11 hP11 hE11 hx12 pict
      have j1 := cell_of_blk (o := 0) hP12 rfl
      have j2 := cell_of_blk (o := 1) hP12 rfl
      have j3 := cell_of_blk (o := 2) hP12 rfl
      have j4 := cell_of_blk (o := 3) hP12 rfl
      go_wp2
      go_ret
      exact ⟨rfl, hE12⟩
end Go.Proofs.YtblijhokcjpeeaaGreatDoor
namespace Go.Proofs.YtblijhokcjpeeaaGreatDoor
open Go.RowKit Kl Go.ChangeShapes Go.WideShapes

theorem ctCanvas : Tryz.prog.cellTypes Tryz.prog.depth 35 = some [27, 27, 27, 27, 3, 3] := by kernel_rfl
theorem csCanvas : Tryz.prog.cellsOf 35 = 6 := by kernel_rfl
set_option maxRecDepth 100000 in
theorem open_canvas {w : World} {base : Nat} {v : Value} (h : Value.okWide Tryz.prog w .any base 35 v) : ∃ c : CvT, v = ctV c := by
  simp only [Value.okWide, Tryz.underlying35] at h
  obtain ⟨cs, rfl, hsz, ts, hts, _, hall⟩ := h
  rw [ctCanvas] at hts
  obtain rfl := Option.some.inj hts
  rw [csCanvas] at hsz
  obtain ⟨l⟩ := cs
  match l, hsz with
  | [c0, c1, c2, c3, c4, c5], _ =>
    obtain ⟨u0, e0, k0⟩ := hall 0 c0 rfl
    obtain ⟨u1, e1, k1⟩ := hall 1 c1 rfl
    obtain ⟨u2, e2, k2⟩ := hall 2 c2 rfl
    obtain ⟨u3, e3, k3⟩ := hall 3 c3 rfl
    obtain ⟨u4, e4, k4⟩ := hall 4 c4 rfl
    obtain ⟨u5, e5, k5⟩ := hall 5 c5 rfl
    obtain rfl : 27 = u0 := Option.some.inj e0
    obtain rfl : 27 = u1 := Option.some.inj e1
    obtain rfl : 27 = u2 := Option.some.inj e2
    obtain rfl : 27 = u3 := Option.some.inj e3
    obtain rfl : 3 = u4 := Option.some.inj e4
    obtain rfl : 3 = u5 := Option.some.inj e5
    obtain ⟨n0, rfl⟩ := cell_str Tryz.underlying27 k0
    obtain ⟨n1, rfl⟩ := cell_str Tryz.underlying27 k1
    obtain ⟨n2, rfl⟩ := cell_str Tryz.underlying27 k2
    obtain ⟨n3, rfl⟩ := cell_str Tryz.underlying27 k3
    obtain ⟨n4, rfl, _⟩ := cell_int Tryz.underlying3 k4
    obtain ⟨n5, rfl, _⟩ := cell_int Tryz.underlying3 k5
    exact ⟨⟨n0, n1, n2, n3, n4, n5⟩, rfl⟩
set_option maxRecDepth 100000 in
theorem errors_lifted (os : Os) (started : os.Started) (H : Type) (enc : TypeId × Value → H) :
    ReturnsInHanded {} Tryz.checked os 6 .any (fun w args => (Rows.drawingErrorsSpec.pre enc Tryz.prog Tryz.f6 [] false w args ∧ laidMetH Tryz.prog laid5 w) ∧ sizedMet enc Tryz.prog Tryz.f6 (OpenSpec.ofChange Rows.drawingErrorsSpec) false w args)
      (Rows.drawingErrorsSpec.post enc Tryz.prog Tryz.f6 false true false false) := by
  refine returnsInHanded_of_row (C := Tryz.checked) (s := OpenSpec.ofChange Rows.drawingErrorsSpec) (F := fun _ _ _ => 0) (conds := []) (laid := laid5) own started (by kernel_rfl) Tryz.func6
    (ChangeSpec.witness_shaped (enc := enc) (C := Tryz.checked) (os := os) (s := Rows.drawingErrorsSpec) (X := fun w _ => laidMetH Tryz.prog laid5 w) false (World.doorLaid Tryz.prog 62 os) #[ctV ⟨[], [], [], [], 0, 0⟩] 8 rfl (World.shaped_of_RefB (by kernel_rfl) (by kernel_rfl)) (by kernel_rfl) (by kernel_rfl) (by kernel_rfl) (door_met os _)) ?_
  intro W base args ds gs before hval0 hW _ _ _ hL hS _
  have hval : ∀ (j : Nat) t v, Tryz.f6.params[j]? = some t → args[j]? = some v → Value.okWide Tryz.prog W .any base t v := hval0
  have hW' := hW
  obtain ⟨p, q, hA0, hV, rfl, hfz, hnd⟩ := hW
  have hA : DataW.TrodAll enc Tryz.prog W 0 (fun _ => true) true Tryz.f6.params.toList args.toList ds p := hA0
  rw [Tryz.params6] at hA hval
  obtain ⟨v0, d0, rfl, rfl, h0⟩ := trodAll_one hA
  obtain ⟨rfl, rfl⟩ := trodVars_none hV
  obtain ⟨c, rfl⟩ := open_canvas (hval 0 _ v0 rfl rfl)
  have hlt := fun x hx => DataW.Whole.lt hW' x hx
  clear hA0 hval0
  simp only [List.append_nil] at hW' hlt
  refine (errors_c c W (okw_of_laid hS hL)).mono fun e W' ⟨he, hx⟩ => ?_
  subst he
  refine ⟨_, rfl, post_below (pa := p) (pv := []) hW' (fun _ _ _ => trodAll_mk1 (shut_bool Tryz.underlying4 _)) (fun sp hsp => ?_) (fun _ _ => rfl) (by simp) hx (ok_one (by kernel_rfl) rfl (okWide_bool_mk Tryz.underlying4 _))⟩
  rw [Tryz.params6]
  exact trodAll_mk1 (trod_at (by kernel_rfl) (of_decide_eq_true (by kernel_rfl)) h0 hx (fun x hxx => hlt x hxx) (fun x hxx => hsp x hxx))
theorem errors_row : Rows.DrawingErrorsSaid :=
  OpenClaim.holds_of_wide 6 Tryz.f6 rfl rfl rfl rfl rfl rfl rfl ⟨rfl, rfl, rfl, rfl, rfl⟩ rfl rfl rfl rfl rfl (by kernel_rfl) Tryz.func6 (by kernel_rfl)
    (of_decide_eq_true (by kernel_rfl)) (by unfold Func.isWrapper; first | (rw [if_pos (by decide +kernel)]; kernel_rfl) | (rw [if_neg (by decide +kernel)]; exact ⟨rfl, rfl⟩))
    (fun os started H enc _ => errors_lifted os started H enc)
theorem drawingErrors_holds : Rows.DrawingErrorsCardSaid :=
  Claim7.holds_tied_plain_at .later [] [.data, .data, .data, .sentinel, .sentinel] true (true, "4371ed9daaa260940ddba149c5455d835b7005ad9b855f8ee9310bc7eab7dede") true
    errors_row (fun _ h => by cases h) (by kernel_rfl) (fun _ h => by cases h) drawingErrors_row_tie rfl ⟨rfl, rfl⟩ (by kernel_rfl) rfl
    (fun f fn hf hfn => by
      obtain rfl : f = 6 := Option.some.inj ((show Tryz.prog.funcNamed "klippe/klippelaw54.DrawingErrors" = some 6 by kernel_rfl).symm.trans hf) |>.symm
      obtain rfl : fn = Tryz.f6 := (Option.some.inj (Tryz.func6.symm.trans hfn)).symm
      exact ⟨by kernel_rfl, fun j t ht => by
        rw [Tryz.params6] at ht
        have hm : t ∈ [35] := by simpa using Array.mem_of_getElem? ht
        have hall : ([35].all fun u => !Tryz.prog.wantsStandIn u) = true := by kernel_rfl
        exact (show Tryz.prog.wantsStandIn t = false by simpa using List.all_eq_true.1 hall t hm)⟩)
    (by kernel_rfl)
#print axioms drawingErrors_holds
end Go.Proofs.YtblijhokcjpeeaaGreatDoor
