/- DrawingTurns: for every canvas that a Frame describes and every segment the law answers true, and the arguments read behind the call as they read before; its listed library variables are tied to the program's text. -/
import Derived.Test.YtblijhokcjpeeaaGreatDoorMW
import Derived.Test.YtblijhokcjpeeaaGreatDoorTie
import Derived.Test.YtblijhokcjpeeaaGreatDoorCards
import Derived.SevenTiedAt
namespace Go.Proofs.YtblijhokcjpeeaaGreatDoor
open Go.RowKit Kl Go.ChangeShapes Go.WideShapes

theorem door_met (os : Os) (args : Array Value) : laidMetH Tryz.prog laid5 ((World.doorLaid Tryz.prog 62 os).forCall (fun _ _ => 0) ⟨#[], args, []⟩).memory :=
  laidMetH_of_parts3 (fuel := 8) (laidMet_of_run' 8 (by kernel_rfl) (by kernel_rfl)) (by kernel_rfl) (by kernel_rfl)
theorem trod_at {H : Type} {enc : TypeId × Value → H} {t : TypeId} (hr : Tryz.prog.readableRec t = true) (hrow : t < Tryz.prog.types.size) {W W' : World} {v : Value} {d : DataW H} {ps : List MemPlace} {sp : Nat → Bool}
    (h : DataW.Trod enc Tryz.prog W 0 (fun _ => true) true t v d ps) (hb : Below W.heap.size W W') (hlt : ∀ x ∈ ps, x.block < W.heap.size) (hsp : ∀ x ∈ ps, sp x.block = true) : DataW.Trod enc Tryz.prog W' 0 sp true t v d ps :=
  WideElems.Trod_stays laidOut hr hrow h (fun x hx => hb.same (hlt x hx)) hsp
set_option maxRecDepth 100000 in
theorem turns_lifted (os : Os) (started : os.Started) (H : Type) (enc : TypeId × Value → H) :
    ReturnsInHanded {} Tryz.checked os 3 .any (fun w args => (Rows.drawingTurnsSpec.pre enc Tryz.prog Tryz.f3 [] false w args ∧ laidMetH Tryz.prog laid5 w) ∧ sizedMet enc Tryz.prog Tryz.f3 (OpenSpec.ofChange Rows.drawingTurnsSpec) false w args)
      (Rows.drawingTurnsSpec.post enc Tryz.prog Tryz.f3 false true false false) := by
  refine returnsInHanded_of_row (C := Tryz.checked) (s := OpenSpec.ofChange Rows.drawingTurnsSpec) (F := fun _ _ _ => 0) (conds := []) (laid := laid5) own started (by kernel_rfl) Tryz.func3
    (ChangeSpec.witness_shaped (enc := enc) (C := Tryz.checked) (os := os) (s := Rows.drawingTurnsSpec) (X := fun w _ => laidMetH Tryz.prog laid5 w) false (World.doorLaid Tryz.prog 62 os) #[frV ⟨0, 0, 0, 0, 0, 0⟩, stV ⟨[], [], [], []⟩] 8 rfl (World.shaped_of_RefB (by kernel_rfl) (by kernel_rfl)) (by kernel_rfl) (by kernel_rfl) (by kernel_rfl) (door_met os _)) ?_
  intro W base args ds gs before hval0 hW _ _ _ hL hS _
  have hval : ∀ (j : Nat) t v, Tryz.f3.params[j]? = some t → args[j]? = some v → Value.okWide Tryz.prog W .any base t v := hval0
  have hW' := hW
  obtain ⟨p, q, hA0, hV, rfl, hfz, hnd⟩ := hW
  have hA : DataW.TrodAll enc Tryz.prog W 0 (fun _ => true) true Tryz.f3.params.toList args.toList ds p := hA0
  rw [Tryz.params3] at hA hval
  obtain ⟨v0, v1, d0, d1, p0, p1, rfl, rfl, rfl, h0, h1⟩ := trodAll_two hA
  obtain ⟨rfl, rfl⟩ := trodVars_none hV
  obtain ⟨f, hf, rfl⟩ := open_frame (hval 0 _ v0 rfl rfl)
  obtain ⟨t, rfl⟩ := open_seg (hval 1 _ v1 rfl rfl)
  have hlt := fun x hx => DataW.Whole.lt hW' x hx
  clear hA0 hval0
  simp only [List.append_nil] at hW' hlt
  refine (law_c f hf t W (okw_of_laid hS hL)).mono fun e W' ⟨he, hx⟩ => ?_
  subst he
  refine ⟨_, rfl, post_below (pa := p0 ++ p1) (pv := []) hW' (fun _ _ _ => trodAll_mk1 (shut_bool Tryz.underlying4 _)) (fun sp hsp => ?_) (fun _ _ => rfl) (by simp) hx (ok_one (by kernel_rfl) rfl (okWide_bool_mk Tryz.underlying4 _))⟩
  rw [Tryz.params3]
  exact trodAll_mk2 (trod_at (by kernel_rfl) (of_decide_eq_true (by kernel_rfl)) h0 hx (fun x hxx => hlt x (List.mem_append_left _ hxx)) (fun x hxx => hsp x (List.mem_append_left _ hxx)))
    (trod_at (by kernel_rfl) (of_decide_eq_true (by kernel_rfl)) h1 hx (fun x hxx => hlt x (List.mem_append_right _ hxx)) (fun x hxx => hsp x (List.mem_append_right _ hxx)))
theorem turns_row : Rows.DrawingTurnsSaid :=
  OpenClaim.holds_of_wide 3 Tryz.f3 rfl rfl rfl rfl rfl rfl rfl ⟨rfl, rfl, rfl, rfl, rfl⟩ rfl rfl rfl rfl rfl (by kernel_rfl) Tryz.func3 (by kernel_rfl)
    (of_decide_eq_true (by kernel_rfl)) (by unfold Func.isWrapper; first | (rw [if_pos (by decide +kernel)]; kernel_rfl) | (rw [if_neg (by decide +kernel)]; exact ⟨rfl, rfl⟩))
    (fun os started H enc _ => turns_lifted os started H enc)
theorem drawingTurns_holds : Rows.DrawingTurnsCardSaid :=
  Claim7.holds_tied_plain_at .later [] [.data, .data, .data, .sentinel, .sentinel] true (true, "4371ed9daaa260940ddba149c5455d835b7005ad9b855f8ee9310bc7eab7dede") true
    turns_row (fun _ h => by cases h) (by kernel_rfl) (fun _ h => by cases h) drawingTurns_row_tie rfl ⟨rfl, rfl⟩ (by kernel_rfl) rfl
    (fun f fn hf hfn => by
      obtain rfl : f = 3 := Option.some.inj ((show Tryz.prog.funcNamed "klippe/klippelaw54.DrawingTurns" = some 3 by kernel_rfl).symm.trans hf) |>.symm
      obtain rfl : fn = Tryz.f3 := (Option.some.inj (Tryz.func3.symm.trans hfn)).symm
      exact ⟨by kernel_rfl, fun j t ht => by
        rw [Tryz.params3] at ht
        have hm : t ∈ [26, 31] := by simpa using Array.mem_of_getElem? ht
        have hall : ([26, 31].all fun u => !Tryz.prog.wantsStandIn u) = true := by kernel_rfl
        exact (show Tryz.prog.wantsStandIn t = false by simpa using List.all_eq_true.1 hall t hm)⟩)
    (by kernel_rfl)
#print axioms drawingTurns_holds
end Go.Proofs.YtblijhokcjpeeaaGreatDoor
