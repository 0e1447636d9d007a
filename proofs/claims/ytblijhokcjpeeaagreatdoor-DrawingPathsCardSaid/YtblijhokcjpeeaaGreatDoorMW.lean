/- What a row's condition gives: the library's variables; the arguments opened. -/
import Derived.Test.YtblijhokcjpeeaaGreatDoorMV
import Derived.Test.YtblijhokcjpeeaaGreatDoorRows
import Derived.ProofKit
import Derived.LaidMore
import Derived.LaidLaws
import Derived.OpenShut
import Derived.Stop.Joined
import Derived.Stop.LaidErr
import Derived.Lib.LaidTab
import Derived.Deep.DeepHandedRow
import Derived.Carry
namespace Go.Proofs.YtblijhokcjpeeaaGreatDoor
open Go.RowKit Kl Go.ChangeShapes Go.WideShapes

theorem own : ownKnob Tryz.prog.godebug = none := by kernel_rfl
theorem laidOut : laidOutB Tryz.prog = true := by kernel_rfl
def errRows : List (String × DataW Unit) := [("strconv.ErrRange", Rows.laid_strconv_ErrRange), ("strconv.ErrSyntax", Rows.laid_strconv_ErrSyntax)]
def laid5 : List (String × DataW Unit) := ("math/bits.deBruijn32tab", Rows.laid_math_bits_deBruijn32tab) :: ("math/bits.deBruijn64tab", Rows.laid_math_bits_deBruijn64tab) :: ("internal/strconv.uint64pow10", Rows.laid_internal_strconv_uint64pow10) :: ("strconv.ErrRange", Rows.laid_strconv_ErrRange) :: ("strconv.ErrSyntax", Rows.laid_strconv_ErrSyntax) :: []
theorem gPow : Tryz.prog.globalNamed "internal/strconv.uint64pow10" = some 3 := by kernel_rfl
theorem gRng : Tryz.prog.globalNamed "strconv.ErrRange" = some 2 := by kernel_rfl
theorem gSyn : Tryz.prog.globalNamed "strconv.ErrSyntax" = some 1 := by kernel_rfl
theorem star : "*" ++ "errors.errorString" = "*errors.errorString" := by decide
theorem rowES (u : TypeId) (h : Tryz.prog.typeName? 3 u = some "*errors.errorString") : u = 285 :=
  typeName_ptr_named (nm := "errors.errorString") (by rw [star]; kernel_rfl) (by kernel_rfl) (by decide) u (by rw [star]; exact h)
theorem okw_of_laid {W : World} (hs : W.ShapedOpen Tryz.prog) (hL : laidMetH Tryz.prog laid5 W) : Okw W := by
  rw [MakeChecks.laidMetH_plain _ _ _ (by kernel_rfl)] at hL
  have h3 := hL.tail.tail
  obtain ⟨a0, t0, hv0, _⟩ := laid_sentinel (g := 2) h3.tail gRng (by kernel_rfl) Tryz.underlying127 rowES Tryz.underlying285 Tryz.underlying287 rfl rfl Tryz.underlying9 (by kernel_rfl) (by kernel_rfl)
  obtain ⟨a1, t1, hv1, _⟩ := laid_sentinel (g := 1) h3.tail.tail gSyn (by kernel_rfl) Tryz.underlying127 rowES Tryz.underlying285 Tryz.underlying287 rfl rfl Tryz.underlying9 (by kernel_rfl) (by kernel_rfl)
  exact ⟨hs, Lib.tabIs_of_head (t := 297) (e := 133) (n := 20) gPow (by kernel_rfl) Tryz.underlying297 Tryz.underlying133 (by kernel_rfl) (by kernel_rfl) h3, ⟨_, _, hv1⟩, ⟨_, _, hv0⟩⟩
/-! ### The arguments -/
set_option maxRecDepth 100000 in
theorem cell_int {w : World} {base : Nat} {t : TypeId} {k : IntKind} {v : Value} (ht : Tryz.prog.underlying t = some (.int k)) (h : Cell.okWide Tryz.prog w .any base t v) : ∃ n, v = .int k n ∧ k.has n := by
  simp only [Cell.okWide, ht] at h
  cases v <;> simp_all [Cell.ok]
set_option maxRecDepth 100000 in
theorem cell_str {w : World} {base : Nat} {t : TypeId} {v : Value} (ht : Tryz.prog.underlying t = some .string) (h : Cell.okWide Tryz.prog w .any base t v) : ∃ l : Bs, v = S l := by
  simp only [Cell.okWide, ht] at h
  cases v <;> simp_all [Cell.ok]
  case string s => exact ⟨s.data.toList, by cases s; simp⟩
theorem ctFrame : Tryz.prog.cellTypes Tryz.prog.depth 26 = some [22, 22, 5, 5, 5, 5] := by kernel_rfl
theorem ctSeg : Tryz.prog.cellTypes Tryz.prog.depth 31 = some [27, 27, 27, 27] := by kernel_rfl
theorem csFrame : Tryz.prog.cellsOf 26 = 6 := by kernel_rfl
theorem csSeg : Tryz.prog.cellsOf 31 = 4 := by kernel_rfl
set_option maxRecDepth 100000 in
theorem open_frame {w : World} {base : Nat} {v : Value} (h : Value.okWide Tryz.prog w .any base 26 v) : ∃ f : Fr, f.Ok ∧ v = frV f := by
  simp only [Value.okWide, Tryz.underlying26] at h
  obtain ⟨cs, rfl, hsz, ts, hts, _, hall⟩ := h
  rw [ctFrame] at hts
  obtain rfl := Option.some.inj hts
  rw [csFrame] at hsz
  obtain ⟨l⟩ := cs
  match l, hsz with
  | [c0, c1, c2, c3, c4, c5], _ =>
    obtain ⟨u0, e0, k0⟩ := hall 0 c0 rfl
    obtain ⟨u1, e1, k1⟩ := hall 1 c1 rfl
    obtain ⟨u2, e2, k2⟩ := hall 2 c2 rfl
    obtain ⟨u3, e3, k3⟩ := hall 3 c3 rfl
    obtain ⟨u4, e4, k4⟩ := hall 4 c4 rfl
    obtain ⟨u5, e5, k5⟩ := hall 5 c5 rfl
    obtain rfl : 22 = u0 := Option.some.inj e0
    obtain rfl : 22 = u1 := Option.some.inj e1
    obtain rfl : 5 = u2 := Option.some.inj e2
    obtain rfl : 5 = u3 := Option.some.inj e3
    obtain rfl : 5 = u4 := Option.some.inj e4
    obtain rfl : 5 = u5 := Option.some.inj e5
    obtain ⟨n0, rfl, w0⟩ := cell_int Tryz.underlying22 k0
    obtain ⟨n1, rfl, w1⟩ := cell_int Tryz.underlying22 k1
    obtain ⟨n2, rfl, w2⟩ := cell_int Tryz.underlying5 k2
    obtain ⟨n3, rfl, w3⟩ := cell_int Tryz.underlying5 k3
    obtain ⟨n4, rfl, w4⟩ := cell_int Tryz.underlying5 k4
    obtain ⟨n5, rfl, w5⟩ := cell_int Tryz.underlying5 k5
    have hb : ∀ n : Int, IntKind.has .i8 n → -128 ≤ n ∧ n ≤ 127 := fun n h => h
    have hu : ∀ n : Int, IntKind.has .u8 n → 0 ≤ n ∧ n ≤ 255 := fun n h => h
    exact ⟨⟨n0, n1, n2, n3, n4, n5⟩, ⟨(hb _ w0).1, (hb _ w0).2, (hb _ w1).1, (hb _ w1).2, (hu _ w2).1, (hu _ w2).2, (hu _ w3).1, (hu _ w3).2, (hu _ w4).1, (hu _ w4).2, (hu _ w5).1, (hu _ w5).2⟩, rfl⟩
set_option maxRecDepth 100000 in
theorem open_seg {w : World} {base : Nat} {v : Value} (h : Value.okWide Tryz.prog w .any base 31 v) : ∃ t : SgT, v = stV t := by
  simp only [Value.okWide, Tryz.underlying31] at h
  obtain ⟨cs, rfl, hsz, ts, hts, _, hall⟩ := h
  rw [ctSeg] at hts
  obtain rfl := Option.some.inj hts
  rw [csSeg] at hsz
  obtain ⟨l⟩ := cs
  match l, hsz with
  | [c0, c1, c2, c3], _ =>
    obtain ⟨u0, e0, k0⟩ := hall 0 c0 rfl
    obtain ⟨u1, e1, k1⟩ := hall 1 c1 rfl
    obtain ⟨u2, e2, k2⟩ := hall 2 c2 rfl
    obtain ⟨u3, e3, k3⟩ := hall 3 c3 rfl
    obtain rfl : 27 = u0 := Option.some.inj e0
    obtain rfl : 27 = u1 := Option.some.inj e1
    obtain rfl : 27 = u2 := Option.some.inj e2
    obtain rfl : 27 = u3 := Option.some.inj e3
    obtain ⟨n0, rfl⟩ := cell_str Tryz.underlying27 k0
    obtain ⟨n1, rfl⟩ := cell_str Tryz.underlying27 k1
    obtain ⟨n2, rfl⟩ := cell_str Tryz.underlying27 k2
    obtain ⟨n3, rfl⟩ := cell_str Tryz.underlying27 k3
    exact ⟨⟨n0, n1, n2, n3⟩, rfl⟩
/-! ### What the row asks at its end -/
section
variable {H : Type} {enc : TypeId × Value → H} {P : Program}
theorem post_below {f : Func} {s : ChangeSpec} {apart fresh handsOn again : Bool} {W W' : World} {args : Array Value} {v : Value} {ds gs : List (DataW H)} {before pa pv : List MemPlace}
    (hW : DataW.Whole enc P f.params.toList s.vars apart W args.toList ds gs before)
    (hres : ∀ (b : Nat) (sp : Nat → Bool) (hd : Bool), DataW.TrodAll enc P W' b sp hd f.resultTypes.toList (v.resultList f.resultTypes.size) (s.fn H (ds ++ gs)).results [])
    (hargs : ∀ sp : Nat → Bool, (∀ p ∈ before, sp p.block = true) → DataW.TrodAll enc P W' 0 sp true f.params.toList args.toList (s.fn H (ds ++ gs)).args pa)
    (hvars : ∀ sp : Nat → Bool, (∀ p ∈ before, sp p.block = true) → DataW.TrodVars enc P W' sp s.vars (s.fn H (ds ++ gs)).vars pv)
    (hps : before = pa ++ pv) (hb : Below W.heap.size W W')
    (hok : ∀ (j : Nat) (t : TypeId) (r : Value), f.resultTypes[j]? = some t → (v.resultList f.resultTypes.size)[j]? = some r → Value.okWide P W' .any 0 t r) :
    s.post enc P f apart fresh handsOn again W args v W' := by
  have hlt : ∀ p ∈ before, p.block < W.heap.size := fun p hp => hW.lt p hp
  have hold : ∀ p ∈ before, (fun b => decide (b < W.heap.size)) p.block = true := fun p hp => by simpa using hlt p hp
  refine ⟨ds, gs, before, [], pa, pv, hW, hres _ _ _, hargs _ hold, hvars _ hold, World.keptBut_mono (fun p hp => ⟨hp, ?_⟩) (hb.frame (· ∈ before)), fun _ => ?_⟩
  · rw [hps, List.mem_append] at hp
    exact Or.inr hp
  · obtain ⟨_, _, _, _, _, hz, hn⟩ := hW
    refine ⟨hok, _, _, ([] ++ pa) ++ pv, ⟨[] ++ pa, pv, trodAll_append (hargs _ (fun _ _ => rfl)) (hres _ _ _), hvars _ (fun _ _ => rfl), rfl, ?_, ?_⟩, ?_⟩
    · intro b off hp
      have hin : MemPlace.cell b off ∈ before := by rw [hps]; simpa using hp
      rw [hb.frozen (hlt _ hin)]
      exact hz b off hin
    · intro ha
      have := hn ha
      rw [hps] at this
      simpa using this
    · intro p hp _
      rw [hps]
      simpa using hp
end
end Go.Proofs.YtblijhokcjpeeaaGreatDoor
