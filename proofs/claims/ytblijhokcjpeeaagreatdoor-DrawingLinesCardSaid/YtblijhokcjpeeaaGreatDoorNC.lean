/- DrawingLines: for every canvas that a Frame describes and every segment, clipping and the row of pixels are the reference's, and the arguments read behind the call as they read before; the listed library variables are tied to the program's text. -/
import Derived.Test.YtblijhokcjpeeaaGreatDoorNK
import Derived.Test.YtblijhokcjpeeaaGreatDoorMX
import Derived.Test.YtblijhokcjpeeaaGreatDoorTie
import Derived.Test.YtblijhokcjpeeaaGreatDoorCards
import Derived.SevenTiedAt
namespace Go.Proofs.YtblijhokcjpeeaaGreatDoor
open Go.RowKit Kl Go.ChangeShapes Go.WideShapes

set_option maxRecDepth 100000 in
theorem lines_lifted (os : Os) (started : os.Started) (H : Type) (enc : TypeId × Value → H) :
    ReturnsInHanded {} Tryz.checked os 4 .any (fun w args => (Rows.drawingLinesSpec.pre enc Tryz.prog Tryz.f4 [] false w args ∧ laidMetH Tryz.prog laid5 w) ∧ sizedMet enc Tryz.prog Tryz.f4 (OpenSpec.ofChange Rows.drawingLinesSpec) false w args)
      (Rows.drawingLinesSpec.post enc Tryz.prog Tryz.f4 false true false false) := by
  refine returnsInHanded_of_row (C := Tryz.checked) (s := OpenSpec.ofChange Rows.drawingLinesSpec) (F := fun _ _ _ => 0) (conds := []) (laid := laid5) own started (by kernel_rfl) Tryz.func4
    (ChangeSpec.witness_shaped (enc := enc) (C := Tryz.checked) (os := os) (s := Rows.drawingLinesSpec) (X := fun w _ => laidMetH Tryz.prog laid5 w) false (World.doorLaid Tryz.prog 62 os) #[frV ⟨0, 0, 0, 0, 0, 0⟩, stV ⟨[], [], [], []⟩] 8 rfl (World.shaped_of_RefB (by kernel_rfl) (by kernel_rfl)) (by kernel_rfl) (by kernel_rfl) (by kernel_rfl) (door_met os _)) ?_
  intro W base args ds gs before hval0 hW _ _ _ hL hS _
  have hval : ∀ (j : Nat) t v, Tryz.f4.params[j]? = some t → args[j]? = some v → Value.okWide Tryz.prog W .any base t v := hval0
  have hW' := hW
  obtain ⟨p, q, hA0, hV, rfl, hfz, hnd⟩ := hW
  have hA : DataW.TrodAll enc Tryz.prog W 0 (fun _ => true) true Tryz.f4.params.toList args.toList ds p := hA0
  rw [Tryz.params4] at hA hval
  obtain ⟨v0, v1, d0, d1, p0, p1, rfl, rfl, rfl, h0, h1⟩ := trodAll_two hA
  obtain ⟨rfl, rfl⟩ := trodVars_none hV
  obtain ⟨f, hf, rfl⟩ := open_frame (hval 0 _ v0 rfl rfl)
  obtain ⟨t, rfl⟩ := open_seg (hval 1 _ v1 rfl rfl)
  have hlt := fun x hx => DataW.Whole.lt hW' x hx
  clear hA0 hval0
  simp only [List.append_nil] at hW' hlt
  refine (lines_c f hf t W (okw_of_laid hS hL)).mono fun e W' ⟨he, hx⟩ => ?_
  subst he
  refine ⟨_, rfl, post_below (pa := p0 ++ p1) (pv := []) hW' (fun _ _ _ => trodAll_mk1 (shut_bool Tryz.underlying4 _)) (fun sp hsp => ?_) (fun _ _ => rfl) (by simp) hx (ok_one (by kernel_rfl) rfl (okWide_bool_mk Tryz.underlying4 _))⟩
  rw [Tryz.params4]
  exact trodAll_mk2 (trod_at (by kernel_rfl) (of_decide_eq_true (by kernel_rfl)) h0 hx (fun x hxx => hlt x (List.mem_append_left _ hxx)) (fun x hxx => hsp x (List.mem_append_left _ hxx)))
    (trod_at (by kernel_rfl) (of_decide_eq_true (by kernel_rfl)) h1 hx (fun x hxx => hlt x (List.mem_append_right _ hxx)) (fun x hxx => hsp x (List.mem_append_right _ hxx)))
theorem lines_row : Rows.DrawingLinesSaid :=
  OpenClaim.holds_of_wide 4 Tryz.f4 rfl rfl rfl rfl rfl rfl rfl ⟨rfl, rfl, rfl, rfl, rfl⟩ rfl rfl rfl rfl rfl (by kernel_rfl) Tryz.func4 (by kernel_rfl)
    (of_decide_eq_true (by kernel_rfl)) (by unfold Func.isWrapper; first | (rw [if_pos (by decide +kernel)]; kernel_rfl) | (rw [if_neg (by decide +kernel)]; exact ⟨rfl, rfl⟩))
    (fun os started H enc _ => lines_lifted os started H enc)
theorem drawingLines_holds : Rows.DrawingLinesCardSaid :=
  Claim7.holds_tied_plain_at .later [] [.data, .data, .data, .sentinel, .sentinel] true (true, "4371ed9daaa260940ddba149c5455d835b7005ad9b855f8ee9310bc7eab7dede") true
    lines_row (fun _ h => by cases h) (by kernel_rfl) (fun _ h => by cases h) drawingLines_row_tie rfl ⟨rfl, rfl⟩ (by kernel_rfl) rfl
    (fun f fn hf hfn => by
      obtain rfl : f = 4 := Option.some.inj ((show Tryz.prog.funcNamed "klippe/klippelaw54.DrawingLines" = some 4 by kernel_rfl).symm.trans hf) |>.symm
      obtain rfl : fn = Tryz.f4 := (Option.some.inj (Tryz.func4.symm.trans hfn)).symm
      exact ⟨by kernel_rfl, fun j t ht => by
        rw [Tryz.params4] at ht
        have hm : t ∈ [26, 31] := by simpa using Array.mem_of_getElem? ht
        have hall : ([26, 31].all fun u => !Tryz.prog.wantsStandIn u) = true := by kernel_rfl
        exact (show Tryz.prog.wantsStandIn t = false by simpa using List.all_eq_true.1 hall t hm)⟩)
    (by kernel_rfl)
#print axioms drawingLines_holds
end Go.Proofs.YtblijhokcjpeeaaGreatDoor
