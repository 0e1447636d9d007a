/- klippelaw54.right. -/
import Derived.Test.YtblijhokcjpeeaaGreatDoorMP
import Derived.Test.YtblijhokcjpeeaaGreatDoorMV
namespace Go.Proofs.YtblijhokcjpeeaaGreatDoor
open Go.RowKit Kl

open Classical in
noncomputable def badP (p : Bs × Bs) : Bool := !decide (OkR p.1 ∧ OkR p.2)
theorem right1_c (x y : Bs) (hx : x.length < 100000) (hy : y.length < 100000) (w : World) (hw : Okw w) : Calls Tryz.prog 35 #[.agg #[S x, S y]] w (RetB (badP (x, y)) w) := by
  obtain ⟨b, hb⟩ : ∃ b, b = badP (x, y) := ⟨_, rfl⟩
  rw [← hb]
  have hE := (Ext.refl w).alloc (.cells #[S x, S y] 29)
  have ck := checkPoint_c x y (!b) (by rw [hb]; unfold badP; simp) hx hy _ (hw.ext hE)
  clear hb hx hy
  cases b
  · rw [Bool.not_false, chkV_t] at ck
    go_enter Tryz.func35, Tryz.ntmps35
    go_wp2_with fail
    ((with_reducible refine ck.mono ?_); rintro e w2 ⟨rfl, hx2⟩)
    go_wp2
    go_ret
    exact ⟨rfl, hE.trans hx2⟩
  · rw [Bool.not_true, chkV_f] at ck
    go_enter Tryz.func35, Tryz.ntmps35
    go_wp2_with fail
    ((with_reducible refine ck.mono ?_); rintro e w2 ⟨rfl, hx2⟩)
    go_wp2
    go_ret
    exact ⟨rfl, hE.trans hx2⟩
def RetIdxR (l : List (Bs × Bs)) (w : World) (e : Ending) (w' : World) : Prop := ∃ k : Int, e = .returned (.int .i64 k) ∧ (0 ≤ k ↔ ∃ p ∈ l, badP p = true) ∧ Ext w w'
set_option maxRecDepth 100000 in
set_option maxHeartbeats 2000000 in
theorem indexRight_c (l : List (Bs × Bs)) (A : Option Addr) (c : Nat) (w : World) (hw : Okw w) (hr : RdC w A (flat l)) (hc : l.length ≤ c) (hcm : c ≤ 9223372036854775807) (hsh : shortPts l) :
    Calls Tryz.prog 73 #[.slice A l.length c, .func (.func 35) #[] #[]] w (RetIdxR l w) := by
  go_enter Tryz.func73, Tryz.ntmps73
  go_wp2
  go_loopw [8] (fun i wr => ∃ j : Nat, i = .int .i64 (j : Nat) ∧ j ≤ l.length ∧ (∀ p ∈ l.take j, badP p = false) ∧ Ext w wr) (fun i _ => l.length - (intOf i).toNat)
  case atStart => exact ⟨0, rfl, by omega, by simp, Ext.refl _⟩
  case round =>
    obtain ⟨j, rfl, hj, hok, hext⟩ := hrel
    have HO := Lib.hid hok
    clear hok
    by_cases hlt : j < l.length
    · obtain ⟨b, o, rfl, hcs⟩ := (hr.ext hext).ad (by rw [flat_length]; omega)
      obtain ⟨f1, f2⟩ := flat_get l j hlt
      have hg1 := hcs (j * 2) (by rw [flat_length]; omega)
      have hg2 := hcs (j * 2 + 1) (by rw [flat_length]; omega)
      rw [List.getElem?_eq_getElem (by rw [flat_length]; omega), Option.some.injEq] at f1 f2
      rw [f1] at hg1
      rw [f2, ← Nat.add_assoc] at hg2
      clear hcs f1 f2
      obtain ⟨p, hp⟩ : ∃ p, p = l[j] := ⟨_, rfl⟩
      rw [← hp] at hg1 hg2
      have hmem : p ∈ l := by rw [hp]; exact List.getElem_mem hlt
      obtain ⟨x, y⟩ := p
      have HX := Lib.hid hp
      clear hp
      have hj0 : (0 : Int) ≤ (j : Int) := by omega
      have hjl : (j : Int) < (l.length : Int) := by omega
      obtain ⟨hs1, hs2⟩ := hsh _ hmem
      have bf := right1_c x y hs1 hs2 wr (hw.ext hext)
      cases hL : badP (x, y)
      · rw [hL] at bf
        have HLL := Lib.hid hL
        clear hL
        go_wp2_with fail
        ((with_reducible refine bf.mono ?_); rintro e w2 ⟨rfl, hx2⟩)
        go_wp2
        go_roundw
        case rel =>
          refine ⟨j + 1, by go_num, hlt, ?_, hext.trans hx2⟩
          intro q hq
          rw [List.take_succ_eq_append_getElem hlt, ← HX.out] at hq
          rcases List.mem_append.1 hq with h | h
          · exact HO.out q h
          · simp only [List.mem_singleton] at h; rw [h]; exact HLL.out
        case measure => simp [intOf]; omega
      · rw [hL] at bf
        have HLL := Lib.hid hL
        clear hL
        have hR : Hid (RetIdxR l w (.returned (.int .i64 (j : Nat))) = RetIdxR l w (.returned (.int .i64 (j : Nat)))) := Lib.hid rfl
        go_wp2_with fail
        ((with_reducible refine bf.mono ?_); rintro e w2 ⟨rfl, hx2⟩)
        go_wp2
        go_ret
        exact ⟨j, rfl, ⟨fun _ => ⟨_, hmem, HLL.out⟩, fun _ => by omega⟩, hext.trans hx2⟩
    · have hle : (l.length : Int) ≤ (j : Int) := by omega
      go_wp2
      go_ret
      refine ⟨-1, rfl, ⟨fun h => by omega, ?_⟩, hext⟩
      rintro ⟨p, hp, h⟩
      have := HO.out p (by rw [List.take_of_length_le (by omega)]; exact hp)
      rw [this] at h; cases h
theorem right_c (l : List (Bs × Bs)) (b : Bool) (hb : b = true ↔ ∀ p ∈ l, badP p = false) (hsh : shortPts l) (A : Option Addr) (c : Nat) (w : World) (hw : Okw w) (hr : RdC w A (flat l)) (hc : l.length ≤ c) (hcm : c ≤ 9223372036854775807) :
    Calls Tryz.prog 13 #[.slice A l.length c] w (RetB b w) := by
  have hI : ∀ w, Okw w → RdC w A (flat l) → Calls Tryz.prog 25 #[.slice A l.length c, .func (.func 35) #[] #[]] w (RetB (!b) w) := by
    intro w hw hr
    have ix := indexRight_c l A c w hw hr hc hcm hsh
    have HB := Lib.hid hb
    clear hb hr
    go_enter Tryz.func25, Tryz.ntmps25
    go_wp2_with fail
    ((with_reducible refine ix.mono ?_); rintro e w2 ⟨k, rfl, hk, hx⟩)
    have HK := Lib.hid hk
    clear hk
    go_wp2
    go_ret
    refine ⟨?_, hx⟩
    have e : decide (0 ≤ k) = !b := by
      cases b
      · rw [Bool.not_false, decide_eq_true_eq, HK.out]
        refine Classical.byContradiction fun h => ?_
        have := HB.out.2 fun p hp => by
          cases h1 : badP p
          · rfl
          · exact absurd ⟨p, hp, h1⟩ h
        cases this
      · rw [Bool.not_true, decide_eq_false_iff_not, HK.out]
        rintro ⟨p, hp, h⟩
        have := HB.out.1 rfl p hp
        rw [this] at h; cases h
    rw [← e]; rfl
  have hI := hI w hw hr
  clear hb hr
  go_enter Tryz.func13, Tryz.ntmps13
  go_wp2_with fail
  ((with_reducible refine hI.mono ?_); rintro e w2 ⟨rfl, hx⟩)
  go_wp2
  go_ret
  exact ⟨by simp, hx⟩
end Go.Proofs.YtblijhokcjpeeaaGreatDoor
