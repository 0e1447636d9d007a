/- A row of points as an argument. -/
import Derived.Test.YtblijhokcjpeeaaGreatDoorNI
import Derived.Test.YtblijhokcjpeeaaGreatDoorMX
import Derived.WideShapes
namespace Go.Proofs.YtblijhokcjpeeaaGreatDoor
open Go.RowKit Kl Go.ChangeShapes Go.WideShapes

section
variable {H : Type} {enc : TypeId × Value → H} {W : World} {sp : Nat → Bool} {held : Bool}
set_option maxRecDepth 100000 in
theorem pt_cells {n i : Nat} {b off : Nat} {y : Option (DataW H × List MemPlace)} (h : (W.cells? 0 ((⟨b, off, none⟩ : Addr).add (i * Tryz.prog.cellsOf 29)) (Tryz.prog.cellsOf 29)).bind (DataW.trod enc Tryz.prog W 0 sp held n 29) = y) (hy : y.isSome = true) :
    ∃ p : Bs × Bs, W.cell? ⟨b, off + i * 2, none⟩ = some (S p.1) ∧ W.cell? ⟨b, off + i * 2 + 1, none⟩ = some (S p.2) := by
  have hc2 : Tryz.prog.cellsOf 29 = 2 := by kernel_rfl
  obtain ⟨z, rfl⟩ := Option.isSome_iff_exists.1 hy
  simp only [Option.bind_eq_some_iff] at h
  obtain ⟨c1, hc1, hz⟩ := h
  rw [hc2] at hc1
  obtain ⟨x0, x1, rfl, h0, h1⟩ : ∃ x0 x1, c1 = [x0, x1] ∧ W.cell? ⟨b, off + i * 2, none⟩ = some x0 ∧ W.cell? ⟨b, off + i * 2 + 1, none⟩ = some x1 := by
    unfold World.cells? at hc1
    simp only [Nat.zero_le, if_true, List.range_succ, List.range_zero, List.nil_append, List.cons_append, List.mapM_cons, List.mapM_nil, Addr.add_lit, Nat.add_zero] at hc1
    cases e0 : W.cell? ⟨b, off + i * 2, none⟩ with
    | none => simp [e0] at hc1
    | some x0 =>
      cases e1 : W.cell? ⟨b, off + i * 2 + 1, none⟩ with
      | none => simp [e0, e1] at hc1
      | some x1 =>
        simp [e0, e1] at hc1
        exact ⟨x0, x1, hc1.symm, rfl, rfl⟩
  obtain ⟨y0, y1, m, _, _, t0, t1⟩ := trod_struct2 Tryz.underlying29 hz
  have hr1 : Tryz.prog.cellsOf 27 = 1 := by kernel_rfl
  simp only [hr1] at t0 t1
  obtain ⟨s0, a0, _, _⟩ := DataW.trod_string Tryz.underlying27 t0
  obtain ⟨s1, a1, _, _⟩ := DataW.trod_string Tryz.underlying27 t1
  simp at a0 a1
  subst a0 a1
  exact ⟨(s0.data.toList, s1.data.toList), by rw [h0], by rw [h1]⟩
set_option maxRecDepth 100000 in
theorem open_pts {b0 : Nat} {v : Value} {d : DataW H} {ps : List MemPlace} (hval : Value.okWide Tryz.prog W .any b0 52 v) (h : DataW.Trod enc Tryz.prog W 0 sp held 52 v d ps) :
    ∃ (l : List (Bs × Bs)) (A : Option Addr) (cap : Nat), v = .slice A l.length cap ∧ l.length ≤ cap ∧ cap ≤ 9223372036854775807 ∧ RdC W A (flat l) := by
  have ht := Tryz.underlying52
  obtain ⟨A, len, cap, rfl⟩ := okWide_slice ht hval
  obtain ⟨fuel, hf⟩ := h
  rcases DataW.trod_slice ht hf with ⟨hc, _⟩ | ⟨a, len', cap', elems, rest, n, _, hcs, _, _, hl, hm, hlen, hel, hrest⟩
  · simp [Value.cells] at hc
    obtain ⟨rfl, rfl, rfl⟩ := hc
    exact ⟨[], none, 0, rfl, by simp, by omega, ⟨fun h => by simp [flat] at h⟩⟩
  · simp [Value.cells] at hcs
    obtain ⟨rfl, rfl, rfl⟩ := hcs
    have hsp : a.spot = none := by
      simp only [Value.okWide, ht, Cell.okWide, Cell.ok] at hval
      exact hval.2.2.2.1
    obtain ⟨b, off, spt⟩ := a
    simp only at hsp
    subst hsp
    have hall : ∀ i, i < len → ∃ p : Bs × Bs, W.cell? ⟨b, off + i * 2, none⟩ = some (S p.1) ∧ W.cell? ⟨b, off + i * 2 + 1, none⟩ = some (S p.2) := fun i hi => pt_cells (hel i hi) (by rw [List.getElem?_eq_getElem (by omega)]; rfl)
    have hlist : ∃ l : List (Bs × Bs), l.length = len ∧ ∀ i (hi : i < l.length), W.cell? ⟨b, off + i * 2, none⟩ = some (S l[i].1) ∧ W.cell? ⟨b, off + i * 2 + 1, none⟩ = some (S l[i].2) := by
      clear hel hlen hl hm hf hval hrest
      induction len with
      | zero => exact ⟨[], rfl, by simp⟩
      | succ k ih =>
        obtain ⟨l, hl, hc⟩ := ih (fun i hi => hall i (by omega))
        obtain ⟨p, h0, h1⟩ := hall k (by omega)
        refine ⟨l ++ [p], by simp [hl], fun i hi => ?_⟩
        by_cases e : i < l.length
        · rw [List.getElem_append_left e]; exact hc i e
        · have : i = k := by simp at hi; omega
          subst this
          rw [List.getElem_append_right (by omega)]
          simp [hl]
          exact ⟨h0, h1⟩
    obtain ⟨l, rfl, hc⟩ := hlist
    refine ⟨l, some ⟨b, off, none⟩, cap, rfl, hl, by unfold maxLen at hm; omega, ⟨fun _ => ⟨b, off, rfl, fun j hj => ?_⟩⟩⟩
    have hj' := hj
    rw [flat_length] at hj'
    obtain ⟨q, hq⟩ : ∃ q, j = q * 2 ∨ j = q * 2 + 1 := ⟨j / 2, by omega⟩
    obtain ⟨f1, f2⟩ := hc q (by omega)
    obtain ⟨e1, e2⟩ := flat_get l q (by omega)
    rw [← List.getElem?_eq_getElem hj]
    rcases hq with rfl | rfl
    · rw [f1, e1]
    · rw [← Nat.add_assoc, f2, e2]
end
set_option maxRecDepth 100000 in
theorem paths_lifted (os : Os) (started : os.Started) (H : Type) (enc : TypeId × Value → H) :
    ReturnsInHanded {} Tryz.checked os 5 .any (fun w args => (Rows.drawingPathsSpec.pre enc Tryz.prog Tryz.f5 [] false w args ∧ laidMetH Tryz.prog laid5 w) ∧ sizedMet enc Tryz.prog Tryz.f5 (OpenSpec.ofChange Rows.drawingPathsSpec) false w args)
      (Rows.drawingPathsSpec.post enc Tryz.prog Tryz.f5 false true false false) := by
  refine returnsInHanded_of_row (C := Tryz.checked) (s := OpenSpec.ofChange Rows.drawingPathsSpec) (F := fun _ _ _ => 0) (conds := []) (laid := laid5) own started (by kernel_rfl) Tryz.func5
    (ChangeSpec.witness_shaped (enc := enc) (C := Tryz.checked) (os := os) (s := Rows.drawingPathsSpec) (X := fun w _ => laidMetH Tryz.prog laid5 w) false (World.doorLaid Tryz.prog 62 os) #[frV ⟨0, 0, 0, 0, 0, 0⟩, .slice none 0 0, .int .u8 0] 8 rfl (World.shaped_of_RefB (by kernel_rfl) (by kernel_rfl)) (by kernel_rfl) (by kernel_rfl) (by kernel_rfl) (door_met os _)) ?_
  intro W base args ds gs before hval0 hW _ _ _ hL hS _
  have hval : ∀ (j : Nat) t v, Tryz.f5.params[j]? = some t → args[j]? = some v → Value.okWide Tryz.prog W .any base t v := hval0
  have hW' := hW
  obtain ⟨p, q, hA0, hV, rfl, hfz, hnd⟩ := hW
  have hA : DataW.TrodAll enc Tryz.prog W 0 (fun _ => true) true Tryz.f5.params.toList args.toList ds p := hA0
  rw [Tryz.params5] at hA hval
  obtain ⟨v0, v1, v2, d0, d1, d2, p0, p1, p2, rfl, rfl, rfl, h0, h1, h2⟩ := trodAll_three hA
  obtain ⟨rfl, rfl⟩ := trodVars_none hV
  obtain ⟨f, hf, rfl⟩ := open_frame (hval 0 _ v0 rfl rfl)
  obtain ⟨l, A, cap, rfl, hcap, hcm, hr⟩ := open_pts (hval 1 _ v1 rfl rfl) h1
  obtain ⟨m, rfl, hm⟩ := cell_int Tryz.underlying5 (show Cell.okWide Tryz.prog W .any base 5 v2 by have := hval 2 5 v2 rfl rfl; simpa only [Value.okWide, Tryz.underlying5] using this)
  have hm' : 0 ≤ m ∧ m ≤ 255 := hm
  obtain ⟨many, rfl⟩ : ∃ k : Nat, m = (k : Int) := ⟨m.toNat, by omega⟩
  have hlt := fun x hx => DataW.Whole.lt hW' x hx
  clear hA0 hval0
  simp only [List.append_nil] at hW' hlt
  refine (paths_c f hf l A cap hcap hcm many (by omega) W (okw_of_laid hS hL) hr).mono fun e W' ⟨he, hx⟩ => ?_
  subst he
  refine ⟨_, rfl, post_below (pa := p0 ++ p1 ++ p2) (pv := []) hW' (fun _ _ _ => trodAll_mk1 (shut_bool Tryz.underlying4 _)) (fun sp hsp => ?_) (fun _ _ => rfl) (by simp) hx (ok_one (by kernel_rfl) rfl (okWide_bool_mk Tryz.underlying4 _))⟩
  rw [Tryz.params5]
  rw [List.append_assoc]
  exact trodAll_mk3 (trod_at (by kernel_rfl) (of_decide_eq_true (by kernel_rfl)) h0 hx (fun x hxx => hlt x (List.mem_append_left _ (List.mem_append_left _ hxx))) (fun x hxx => hsp x (List.mem_append_left _ (List.mem_append_left _ hxx))))
    (trod_at (by kernel_rfl) (of_decide_eq_true (by kernel_rfl)) h1 hx (fun x hxx => hlt x (List.mem_append_left _ (List.mem_append_right _ hxx))) (fun x hxx => hsp x (List.mem_append_left _ (List.mem_append_right _ hxx))))
    (trod_at (by kernel_rfl) (of_decide_eq_true (by kernel_rfl)) h2 hx (fun x hxx => hlt x (List.mem_append_right _ hxx)) (fun x hxx => hsp x (List.mem_append_right _ hxx)))
theorem paths_row : Rows.DrawingPathsSaid :=
  OpenClaim.holds_of_wide 5 Tryz.f5 rfl rfl rfl rfl rfl rfl rfl ⟨rfl, rfl, rfl, rfl, rfl⟩ rfl rfl rfl rfl rfl (by kernel_rfl) Tryz.func5 (by kernel_rfl)
    (of_decide_eq_true (by kernel_rfl)) (by unfold Func.isWrapper; first | (rw [if_pos (by decide +kernel)]; kernel_rfl) | (rw [if_neg (by decide +kernel)]; exact ⟨rfl, rfl⟩))
    (fun os started H enc _ => paths_lifted os started H enc)
theorem drawingPaths_holds : Rows.DrawingPathsCardSaid :=
  Claim7.holds_tied_plain_at .later [] [.data, .data, .data, .sentinel, .sentinel] true (true, "4371ed9daaa260940ddba149c5455d835b7005ad9b855f8ee9310bc7eab7dede") true
    paths_row (fun _ h => by cases h) (by kernel_rfl) (fun _ h => by cases h) drawingPaths_row_tie rfl ⟨rfl, rfl⟩ (by kernel_rfl) rfl
    (fun f fn hf hfn => by
      obtain rfl : f = 5 := Option.some.inj ((show Tryz.prog.funcNamed "klippe/klippelaw54.DrawingPaths" = some 5 by kernel_rfl).symm.trans hf) |>.symm
      obtain rfl : fn = Tryz.f5 := (Option.some.inj (Tryz.func5.symm.trans hfn)).symm
      exact ⟨by kernel_rfl, fun j t ht => by
        rw [Tryz.params5] at ht
        have hm : t ∈ [26, 52, 5] := by simpa using Array.mem_of_getElem? ht
        have hall : ([26, 52, 5].all fun u => !Tryz.prog.wantsStandIn u) = true := by kernel_rfl
        exact (show Tryz.prog.wantsStandIn t = false by simpa using List.all_eq_true.1 hall t hm)⟩)
    (by kernel_rfl)
#print axioms drawingPaths_holds
end Go.Proofs.YtblijhokcjpeeaaGreatDoor
