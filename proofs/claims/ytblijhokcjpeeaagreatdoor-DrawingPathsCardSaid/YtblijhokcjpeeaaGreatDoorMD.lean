/- integer.open: an integer is taken apart. -/
import Derived.Test.YtblijhokcjpeeaaGreatDoorMB
import Derived.Test.YtblijhokcjpeeaaGreatDoorShelf
import Derived.Lib.SmallJoins
import Derived.ChangeAgain
import Derived.Lib.AppendStr
import Derived.Lib.OthersKept
import Derived.Lib.UnsafeStr
import Derived.Lib.MakeNoZero
import Derived.Lib.Walk
import Derived.BigCall
import Derived.BigGuard
import Derived.Lib.AppendIntMem
import Derived.Deep.RegionLaw
/- The library's functions, at the texts that occur. -/
namespace Go.Proofs.YtblijhokcjpeeaaGreatDoor
open Go.RowKit Kl

/-- What the library's variables hold. -/
structure Okw (w : World) : Prop where
  shaped : w.ShapedOpen Tryz.prog
  pow : Lib.TabIs Tryz.prog w "internal/strconv.uint64pow10" .u64 Lib.pow10Tab
  syn : ∃ tp p, w.var? Tryz.prog "strconv.ErrSyntax" = some #[.iface tp p]
  rng : ∃ tp p, w.var? Tryz.prog "strconv.ErrRange" = some #[.iface tp p]
theorem var_ext {w w' : World} {n : String} {cs : Array Value} (h : w.var? Tryz.prog n = some cs) (hx : Ext w w') : w'.var? Tryz.prog n = some cs := by
  unfold World.var? at h ⊢
  cases hg : Tryz.prog.globalNamed n with
  | none => rw [hg] at h; exact h
  | some g =>
    rw [hg] at h
    simp only [Option.bind_some] at h ⊢
    have hlt : g < w.heap.size := by
      by_cases hlt : g < w.heap.size
      · exact hlt
      · rw [Array.getElem?_eq_none (by omega)] at h; cases h
    rw [hx.block g hlt]; exact h
theorem Okw.ext {w w' : World} (h : Okw w) (hx : Ext w w') : Okw w' := by
  obtain ⟨a, b, h1⟩ := h.syn
  obtain ⟨c, d, h2⟩ := h.rng
  exact ⟨h.shaped.keptBut (Below.frame hx fun _ => False) (fun _ h => h.elim), var_ext h.pow hx, ⟨a, b, var_ext h1 hx⟩, ⟨c, d, var_ext h2 hx⟩⟩
theorem Okw.drewN {w : World} (h : Okw w) (n : Nat) : Okw (w.drewN n) := h.ext ((Ext.refl w).drewN n)

/-- A text is returned. -/
def RetS (l : Bs) (w : World) (e : Ending) (w' : World) : Prop := e = .returned (S l) ∧ Ext w w'
def RetB (b : Bool) (w : World) (e : Ending) (w' : World) : Prop := e = .returned (.bool b) ∧ Ext w w'
def RetV (v : Value) (w : World) (e : Ending) (w' : World) : Prop := e = .returned v ∧ Ext w w'
theorem ext_eq {w w' : World} (h : w' = w) : Ext w w' := h ▸ Ext.refl w

theorem hasPrefix_c (s p : Bs) (w : World) : Calls Tryz.prog 188 #[S s, S p] w (RetB (p.isPrefixOf s) w) :=
  (Tryz.strings_HasPrefix _ _ w).mono fun _ _ ⟨h1, h2⟩ => ⟨h1, ext_eq h2⟩
theorem trimPrefix_c (s p : Bs) (w : World) : Calls Tryz.prog 126 #[S s, S p] w (RetS (Lib.trimPrefix s p) w) :=
  (Tryz.strings_TrimPrefix _ _ w).mono fun _ _ ⟨h1, h2⟩ => ⟨h1, ext_eq h2⟩
theorem cutPrefix_c (s p : Bs) (w : World) : Calls Tryz.prog 178 #[S s, S p] w (RetV (.tuple #[S (Lib.trimPrefix s p), .bool (p.isPrefixOf s)]) w) :=
  (Tryz.strings_CutPrefix _ _ w).mono fun _ _ ⟨h1, h2⟩ => ⟨h1, ext_eq h2⟩
theorem compare_c (s p : Bs) (w : World) : Calls Tryz.prog 127 #[S s, S p] w (RetI (Lib.compareBytes s p) w) :=
  (Tryz.strings_Compare _ _ w).mono fun _ _ ⟨h1, h2⟩ => ⟨h1, ext_eq h2⟩
theorem indexByte_c (s : Bs) (c : Int) (w : World) : Calls Tryz.prog 131 #[S s, .int .u8 c] w (RetI (Lib.indexByte s c.toNat.toUInt8) w) :=
  (Tryz.strings_IndexByte _ _ w).mono fun _ _ ⟨h1, h2⟩ => ⟨h1, ext_eq h2⟩
theorem size_S (l : Bs) : (⟨l.toArray⟩ : ByteArray).size = l.length := by simp [ByteArray.size]
theorem cut_c (s p : Bs) (w : World) (hw : Okw w) (hs : s.length < 4294967281) :
    Calls Tryz.prog 109 #[S s, S p] w (RetV (.tuple #[S (Lib.cut s p).1, S (Lib.cut s p).2.1, .bool (Lib.cut s p).2.2]) w) :=
  (Tryz.strings_Cut_shaped _ _ w hw.shaped (by rw [size_S]; exact hs)).mono fun _ _ ⟨h1, n, h2⟩ => ⟨h1, h2 ▸ (Ext.refl w).drewN n⟩
theorem ext_grow (w : World) (k : Nat) (os : Array Obj) : Ext w (Go.Sort.grow (w.drewN k) os) :=
  ⟨rfl, rfl, rfl, by simp [Go.Sort.grow], fun i hi => by simp only [Go.Sort.grow, World.heap_drewN]; rw [Array.getElem?_append_left hi]⟩
theorem itoa_c (n : Int) (h0 : -9223372036854775808 ≤ n) (h1 : n ≤ 9223372036854775807) (w : World) (hw : Okw w) : Calls Tryz.prog 128 #[.int .i64 n] w (RetS (I n) w) :=
  (Tryz.strconv_Itoa n h0 h1 w hw.pow).mono fun _ _ ⟨h1, k, os, h2⟩ => ⟨h1, h2 ▸ ext_grow w k os⟩
theorem ext_bytes (w : World) (t : ByteArray) : Ext w (Lib.bytesWorld w 5 t) := Go.Joins.below_bytesWorld _ w 5 t (Nat.le_refl _)
end Go.Proofs.YtblijhokcjpeeaaGreatDoor
/- strings.Builder's writers, and strconv.FormatUint at base 10 (after the shelf's walks of the same functions). -/
namespace Go.Proofs.YtblijhokcjpeeaaGreatDoor
open Go.RowKit Kl

theorem own_cells {w : World} {base : Nat} {e : TypeId} {size n : Nat} {v : Value} {xs : List Value} (h : w.ownsRow base e size v n xs) : ∀ k, v.ownBlock = some k → ∃ c fz, w.heap[k]? = some (.cells c e fz) := by
  intro k hk
  rcases h.2 with ⟨rfl, _⟩ | ⟨g, cap, cur, rfl, _, hg, _⟩
  · simp [Value.ownBlock] at hk
  · simp [Value.ownBlock] at hk; subst hk; exact ⟨_, _, hg⟩
theorem bldSize : (Tryz.prog.info? 225).map (·.size) = some 2 := by kernel_rfl
theorem bldLies : liesAt Tryz.prog Tryz.prog.depth 225 (2 / Tryz.prog.cellsOf 225) 0 225 1 = true := by kernel_rfl
theorem byteInfo : (Tryz.prog.info? 5).map (fun i => (i.zero, i.size, i.bytes)) = some (some (.int .u8 0), 1, 1) := by kernel_rfl

set_option maxHeartbeats 1000000 in
set_option maxRecDepth 100000 in
theorem bld_check_used (b : Nat) (w : World) (h0 : w.cell? ⟨b, 0, none⟩ = some (.pointer (some ⟨b, 0, none⟩))) :
    Calls Tryz.prog 229 #[.pointer (some ⟨b, 0, none⟩)] w fun e w' => e = .returned (.tuple #[]) ∧ w' = w := by
  obtain ⟨j, hj, _⟩ := Option.map_eq_some_iff.1 bldSize
  go_enter Tryz.func229, Tryz.ntmps229
  go_wp2
  rw [Lib.run_neq_ptr_same w _ Tryz.underlying223 hj]
  go_wp2
  go_end0
  exact ⟨rfl, rfl⟩

set_option maxHeartbeats 1000000 in
set_option maxRecDepth 100000 in
theorem bld_check_fresh (b : Nat) (w : World) (h0 : w.cell? ⟨b, 0, none⟩ = some (.pointer none)) (hsh : w.shape? b = some (225, 2)) (hfz : w.frozen? ⟨b, 0, none⟩ = false) :
    Calls Tryz.prog 229 #[.pointer (some ⟨b, 0, none⟩)] w fun e w' => e = .returned (.tuple #[]) ∧ w' = w.setCell ⟨b, 0, none⟩ (.pointer (some ⟨b, 0, none⟩)) := by
  obtain ⟨j, hj, hjs⟩ := Option.map_eq_some_iff.1 bldSize
  go_enter Tryz.func229, Tryz.ntmps229
  go_wp2
  rw [Lib.run_to_unsafe w ⟨b, 0, none⟩ Tryz.underlying223 Tryz.underlying279 hj (by rw [hjs]; decide) hsh (Nat.zero_lt_succ 1)]
  simp only [Result.andThen]
  rw [Oper.upon_value]
  go_wp2
  rw [run_callFunc_extern Tryz.func249 (by kernel_rfl) (by kernel_rfl) (by kernel_rfl) (e := Extern.AbiNoEscape.same) (by kernel_rfl)]
  rw [Lib.run_noEscape]
  simp only [Result.andThen]
  rw [Oper.upon_value]
  go_wp2
  rw [Lib.run_from_unsafe w ⟨b, 0, none⟩ Tryz.underlying279 Tryz.underlying223 hj hsh bldLies]
  simp only [Result.andThen]
  rw [Oper.upon_value]
  go_wp2
  go_end0
  exact ⟨rfl, rfl⟩

/-- A builder of the call's own, from block B on. -/
abbrev Bld (B b : Nat) (bs : List Value) (w : World) : Prop := Lib.IsBuilder 225 5 B b bs w
theorem bld_check (B b : Nat) (bs : List Value) (w : World) (h : Bld B b bs w) :
    Calls Tryz.prog 229 #[.pointer (some ⟨b, 0, none⟩)] w fun e w' => e = .returned (.tuple #[]) ∧ (Lib.BuilderAt 225 5 B b (.pointer (some ⟨b, 0, none⟩)) bs w' ∧ Below B w w' ∧ Lib.OthersKept 5 (some b) w w') := by
  rcases h with h | h
  · refine (bld_check_fresh b w h.cell0 h.shape h.frozen0).mono ?_
    rintro e w' ⟨rfl, rfl⟩
    exact ⟨rfl, h.used _, (Below.refl B w).setCell (p := ⟨b, 0, none⟩) h.1 _, (Lib.OthersKept.refl _ (some b) w).setCell ⟨b, 0, none⟩ rfl _⟩
  · refine (bld_check_used b w h.cell0).mono ?_
    rintro e w' ⟨rfl, rfl⟩
    exact ⟨rfl, h, Below.refl B _, Lib.OthersKept.refl _ _ _⟩

set_option maxHeartbeats 2000000 in
set_option maxRecDepth 100000 in
theorem writeByte_c (B b : Nat) (bs : List Value) (c : Int) (w : World) (h : Bld B b bs w) (hlen : bs.length + 1 ≤ 140737488355328) (hBw : B ≤ w.heap.size) :
    Calls Tryz.prog 183 #[.pointer (some ⟨b, 0, none⟩), .int .u8 c] w fun e w' => e = .returned .nilIface ∧ (Bld B b (bs ++ [.int .u8 c]) w' ∧ Below B w w' ∧ Lib.OthersKept 5 (some b) w w') := by
  obtain ⟨i0, hi, hz0, hz1, hz2⟩ := info_parts byteInfo
  go_enter Tryz.func183, Tryz.ntmps183
  go_wp2_with (go_at_call 229; refine (bld_check B b bs _ h).mono ?_)
  rintro e w1 ⟨rfl, h1, hb1, ho1⟩
  obtain ⟨hB, v, hbk, hown, hne⟩ := h1
  have c0 : w1.cell? ⟨b, 0, none⟩ = some (.pointer (some ⟨b, 0, none⟩)) := by rw [Lib.cell_of_heap hbk]; rfl
  have c1 : w1.cell? ⟨b, 1, none⟩ = some v := by rw [Lib.cell_of_heap hbk]; rfl
  go_wp2_with (at_builtin; refine wpList_append_own _ rfl _ _ 98 rfl B 5 i0 (.int .u8 0) 1 1 Tryz.underlying98 hi hz0 hz1 hz2 rfl (by decide) _ _ _ rfl (hown.alloc _) ⟨w1.heap.size, 0, none⟩ 1 1 [.int .u8 c] rfl rfl ?c1 ?c2 ?c3 ?c4 ?c5 ?_)
  case c1 =>
    intro j u hj
    match j, hj with
    | 0, hj => simp at hj; subst hj; simp [Addr.add]
  case c2 => intro u hu; simp at hu; subst hu; rfl
  case c3 => unfold maxLen; omega
  case c4 => omega
  case c5 => have := hb1.size; simp; omega
  intro v' w2 hown' hgrow _
  have hlt : b < w1.heap.size := by
    rcases Nat.lt_or_ge b w1.heap.size with h' | h'
    · exact h'
    · simp [Array.getElem?_eq_none h'] at hbk
  have hb2 : w2.heap[b]? = some (.cells #[.pointer (some ⟨b, 0, none⟩), v] 225 (0, 0)) := by
    rw [hgrow.block b (by simp; omega) (fun e => hne e.symm), Lib.alloc_old w1 _ b hlt]
    exact hbk
  have d0 : w2.cell? ⟨b, 0, none⟩ = some (.pointer (some ⟨b, 0, none⟩)) := by rw [Lib.cell_of_heap hb2]; rfl
  have d1 : w2.cell? ⟨b, 1, none⟩ = some v := by rw [Lib.cell_of_heap hb2]; rfl
  have f1 : w2.frozen? ⟨b, 1, none⟩ = false := Lib.frozen_of_heap hb2 1
  obtain ⟨g, cap, rfl⟩ : ∃ g cap, v' = .slice (some ⟨g, 0, none⟩) (bs.length + 1) cap := by
    rcases hown'.2 with ⟨_, h0⟩ | ⟨g, cap, cur, hv, _⟩
    · omega
    · exact ⟨g, cap, hv⟩
  go_wp2
  go_ret
  refine ⟨rfl, .inr ?_, ?_, ?_⟩
  · exact Lib.BuilderAt.put (T := 225) (e := 5) hB hb2 (bs' := bs ++ [.int .u8 c]) (by simpa using hown') (by decide)
  · exact ((hb1.alloc (by have := hb1.size; omega) _).grown hgrow (by have := hb1.size; simp; omega) (fun k hk => (hown.lt k hk).1)).setCell (p := ⟨b, 1, none⟩) hB _
  · exact ((ho1.alloc _).grown hgrow (own_cells (hown.alloc _))).setCell ⟨b, 1, none⟩ rfl _

set_option maxHeartbeats 2000000 in
set_option maxRecDepth 100000 in
theorem writeString_c (B b : Nat) (bs : List Value) (s : ByteArray) (w : World) (h : Bld B b bs w) (hlen : bs.length + s.size ≤ 140737488355328) (hBw : B ≤ w.heap.size) :
    Calls Tryz.prog 186 #[.pointer (some ⟨b, 0, none⟩), .string s] w fun e w' => e = .returned (.tuple #[.int .i64 s.size, .nilIface]) ∧ (Bld B b (bs ++ Lib.strCells s) w' ∧ Below B w w' ∧ Lib.OthersKept 5 (some b) w w') := by
  obtain ⟨i0, hi, hz0, hz1, hz2⟩ := info_parts byteInfo
  go_enter Tryz.func186, Tryz.ntmps186
  go_wp2_with (go_at_call 229; refine (bld_check B b bs _ h).mono ?_)
  rintro e w1 ⟨rfl, h1, hb1, ho1⟩
  obtain ⟨hB, v, hbk, hown, hne⟩ := h1
  have c0 : w1.cell? ⟨b, 0, none⟩ = some (.pointer (some ⟨b, 0, none⟩)) := by rw [Lib.cell_of_heap hbk]; rfl
  have c1 : w1.cell? ⟨b, 1, none⟩ = some v := by rw [Lib.cell_of_heap hbk]; rfl
  go_wp2_with (at_builtin; refine Lib.wpList_append_own_string _ rfl _ _ 98 9 rfl B 5 i0 Tryz.underlying98 Tryz.underlying9 hi hz0 hz1 hz2 _ _ _ rfl hown s rfl ?c3 ?c4 ?c5 ?_)
  case c3 => unfold maxLen; omega
  case c4 => omega
  case c5 => have := hb1.size; omega
  intro v' w2 hown' hgrow _
  have hlt : b < w1.heap.size := by
    rcases Nat.lt_or_ge b w1.heap.size with h' | h'
    · exact h'
    · simp [Array.getElem?_eq_none h'] at hbk
  have hb2 : w2.heap[b]? = some (.cells #[.pointer (some ⟨b, 0, none⟩), v] 225 (0, 0)) := by
    rw [hgrow.block b hlt (fun e => hne e.symm)]
    exact hbk
  have d0 : w2.cell? ⟨b, 0, none⟩ = some (.pointer (some ⟨b, 0, none⟩)) := by rw [Lib.cell_of_heap hb2]; rfl
  have d1 : w2.cell? ⟨b, 1, none⟩ = some v := by rw [Lib.cell_of_heap hb2]; rfl
  have f1 : w2.frozen? ⟨b, 1, none⟩ = false := Lib.frozen_of_heap hb2 1
  obtain ⟨ao, n', cap, rfl⟩ : ∃ ao n' cap, v' = .slice ao n' cap := by
    rcases hown'.2 with ⟨hv, _⟩ | ⟨g, cap, cur, hv, _⟩
    · exact ⟨_, _, _, hv⟩
    · exact ⟨_, _, _, hv⟩
  go_wp2
  go_ret2
  refine ⟨rfl, .inr ?_, ?_, ?_⟩
  · exact Lib.BuilderAt.put (T := 225) (e := 5) hB hb2 (bs' := bs ++ Lib.strCells s) (by simpa [Lib.strCells_length] using hown') (by decide)
  · exact (hb1.grown hgrow (by have := hb1.size; omega) (fun k hk => (hown.lt k hk).1)).setCell (p := ⟨b, 1, none⟩) hB _
  · exact (ho1.grown hgrow (own_cells hown)).setCell ⟨b, 1, none⟩ rfl _
end Go.Proofs.YtblijhokcjpeeaaGreatDoor
/- strconv.FormatUint at base 10 (after the shelf's walk of FormatInt). -/
namespace Go.Proofs.YtblijhokcjpeeaaGreatDoor
open Go.RowKit Kl Go.Lib Go.Sort

set_option maxHeartbeats 6400000 in
set_option maxRecDepth 100000 in
theorem formatUint_in (u : Nat) (hu64 : u < 18446744073709551616) (w : World) (hw : Okw w) : Calls Tryz.prog 231 #[.int .u64 u, .int .i64 10] w (RetS (D u) w) := by
  have htab := hw.pow
  by_cases hs : u < 100
  · go_enter Tryz.func231, Tryz.ntmps231
    go_wp2_with (go_at_call 250; refine (Tryz.internal_strconv_small u hs _).mono ?_; rintro e w' ⟨rfl, rfl⟩)
    go_ret
    exact ⟨rfl, Ext.refl _⟩
  · have hu1 : 1 ≤ u := by omega
    have hnd20 : Lib.nDigits u ≤ 20 := by have := Lib.numDigits_eq u hu1 hu64; split at this <;> omega
    have hb3 : Lib.nDigits u ≤ 23 := by omega
    have hal : Tryz.prog.arrayLen 281 = 24 := by simp [Program.arrayLen, Tryz.underlying281]
    have hsl1 : ∀ W, (Instr.sliceAt 281 (.pointer (some ⟨w.heap.size, 0, none⟩)) none (some (.int .i64 (Lib.nDigits u : Int))) none).run Tryz.prog W = .ok (.slice (some ⟨w.heap.size, 0, none⟩) (Lib.nDigits u) 24) W := fun W => by
      rw [run_sliceAt_array_h W 281 ⟨w.heap.size, 0, none⟩ (by simp [Program.arrayLen, Program.elem, Tryz.underlying281]) .i64 (Lib.nDigits u : Int) (by omega) (by rw [hal]; omega)]
      go_simp
    have hH0 : Holds (fun (b : UInt8) => Value.int .u8 (b.toNat : Int)) (w.alloc (.cells Lib.zeros24 281)) w.heap.size 0 (Array.replicate (Lib.nDigits u) 0) := Lib.holds_zero0 w _ _ (by omega)
    have hfmt := Tryz.internal_strconv_formatBase10 w.heap.size 0 24 u (Array.replicate (Lib.nDigits u) 0) (w.alloc (.cells Lib.zeros24 281)) hH0 (by rw [Array.size_replicate]; exact Lib.lt_pow_nDigits u) hu64 (by rw [Array.size_replicate]; omega)
    rw [Array.size_replicate] at hfmt
    have HH0 := Lib.hid hH0
    clear hH0 hal
    go_enter Tryz.func231, Tryz.ntmps231
    go_wp2_with (go_at_call 251; refine (Tryz.internal_strconv_numDigits u hu1 hu64 _ (Lib.tabIs_alloc htab _)).mono ?_; rintro e w' ⟨rfl, rfl⟩)
    go_at_call 252
    refine hfmt.mono ?_
    rintro e w' ⟨rfl, k, v', dk, rfl, hF⟩
    have hcv : (convert 98 9 (.slice (some ⟨w.heap.size, 0, none⟩) (Lib.nDigits u) 24)).run Tryz.prog ((putRow (fun (b : UInt8) => Value.int .u8 (b.toNat : Int)) (w.alloc (.cells Lib.zeros24 281)) w.heap.size 0 dk).drewN k) = .ok (.string ⟨(Lib.decDigits u).toArray⟩) ((putRow (fun (b : UInt8) => Value.int .u8 (b.toNat : Int)) (w.alloc (.cells Lib.zeros24 281)) w.heap.size 0 dk).drewN k) := by
      have h := run_convert_bytes_back (P := Tryz.prog) ((putRow (fun (b : UInt8) => Value.int .u8 (b.toNat : Int)) (w.alloc (.cells Lib.zeros24 281)) w.heap.size 0 dk).drewN k) 98 9 5 ⟨w.heap.size, 0, none⟩ 24 (Lib.decDigits u) Tryz.underlying98 Tryz.underlying5 Tryz.underlying9 (fun j hj => by
        rw [Lib.row_is_numeral hF j hj, Lib.add_plain, World.cell?_drewN]
        exact cell?_putRow (fun (b : UInt8) => Value.int .u8 (b.toNat : Int)) _ w.heap.size 0 _ dk HH0.out (by rw [hF.size, Array.size_replicate]) j (by rw [hF.size]; rw [Lib.decDigits_length] at hj; exact hj))
      rw [Lib.decDigits_length] at h
      exact h
    go_wp2
    go_ret
    obtain ⟨os, eo⟩ := Lib.fin_at w (.cells Lib.zeros24 281) dk k 0
    exact ⟨rfl, eo ▸ ext_grow w k os⟩
theorem formatUint_c (u : Nat) (hu64 : u < 18446744073709551616) (w : World) (hw : Okw w) : Calls Tryz.prog 185 #[.int .u64 u, .int .i64 10] w (RetS (D u) w) := by
  go_enter Tryz.func185, Tryz.ntmps185
  go_wp2_with fail
  refine (formatUint_in u hu64 _ hw).mono ?_
  rintro e w1 ⟨rfl, hx⟩
  go_wp2
  go_ret
  exact ⟨rfl, hx⟩

/-! ### Parsing -/
theorem valA_ge (a : Nat) (r : Bs) : a ≤ valA a r := by
  rw [valA_eq]
  have : a * 1 ≤ a * 10 ^ r.length := Nat.mul_le_mul_left _ (Nat.one_le_pow _ _ (by omega))
  omega
theorem parseM_all (m : Nat) (hm : m < 18446744073709551616) : ∀ (l : Bs) (acc : Nat), AllD l → Lib.parseUintM m acc l = if l = [] ∨ valA acc l ≤ m then .ok (valA acc l) else .range
  | [], acc, _ => by simp [Lib.parseUintM, valA]
  | c :: r, acc, h => by
    rw [allD_cons] at h
    have hc : 48 ≤ c.toNat ∧ c.toNat ≤ 57 := h.1
    have hd := dv_lt h.1
    rw [valA_cons]
    have h1 := valA_ge (acc * 10 + dv c) r
    have ih := parseM_all m hm r (acc * 10 + dv c) h.2
    have e : c.toNat - 48 = dv c := rfl
    rw [Lib.parseUintM, if_pos hc, e]
    by_cases h2 : 1844674407370955162 ≤ acc
    · rw [if_pos h2, if_neg (by simp; omega)]
    · rw [if_neg h2]
      by_cases h3 : m < acc * 10 + dv c
      · rw [if_pos h3, if_neg (by simp; omega)]
      · rw [if_neg h3, ih]
        by_cases h4 : valA (acc * 10 + dv c) r ≤ m
        · rw [if_pos (.inr h4), if_pos (.inr h4)]
        · rw [if_neg (by simp; exact ⟨fun e => h4 (by rw [e]; simpa [valA] using h3), by omega⟩), if_neg (by simp; omega)]
theorem parse10_eq : ∀ (l : Bs) (acc : Nat), Lib.parseUint10 acc l = Lib.parseUintM 18446744073709551615 acc l
  | [], acc => rfl
  | c :: r, acc => by
    rw [Lib.parseUint10, Lib.parseUintM, parse10_eq r]
    by_cases h : 48 ≤ c.toNat ∧ c.toNat ≤ 57
    · rw [if_pos h, if_pos h]
      by_cases h2 : 1844674407370955162 ≤ acc
      · rw [if_pos h2, if_pos h2]
      · rw [if_neg h2, if_neg h2]
        by_cases h3 : 18446744073709551616 ≤ acc * 10 + (c.toNat - 48)
        · rw [if_pos h3, if_pos (by omega)]
        · rw [if_neg h3, if_neg (by omega)]
    · rw [if_neg h, if_neg h]
theorem parseU_digits {l : Bs} (hne : l ≠ []) (h : AllD l) (hv : val l < 18446744073709551616) : Lib.parseUintB 64 l = .ok (val l) := by
  unfold Lib.parseUintB
  rw [if_neg hne, parseM_all _ (by omega) l 0 h, if_pos (.inr (by show val l ≤ 18446744073709551615; omega))]
  rfl
theorem parseUint_c (l : Bs) (hne : l ≠ []) (h : AllD l) (hv : val l < 18446744073709551616) (hl : l.length < 1000000) (w : World) :
    Calls Tryz.prog 181 #[S l, .int .i64 10, .int .i64 64] w (RetV (.tuple #[.int .u64 (val l : Nat), .nilIface]) w) :=
  (Tryz.strconv_ParseUint_10_at64_ok _ (by rw [size_S]; omega) (val l) (parseU_digits hne h hv) w).mono fun _ _ ⟨h1, h2⟩ => ⟨h1, by rcases h2 with rfl | rfl; exact Ext.refl _; exact ext_bytes w _⟩
theorem D_no_sign (n : Nat) : ∃ c r, D n = c :: r ∧ ¬ (c.toNat = 43 ∨ c.toNat = 45) ∧ c.toNat ≠ 45 := by
  match hd : D n, D_ne_nil n with
  | c :: r, _ =>
    have := allD_D n c (by rw [hd]; simp)
    have h1 := this.1
    exact ⟨c, r, rfl, by omega, by omega⟩
theorem parseMag_D (n : Nat) : Lib.parseMag (D n) = if n < 18446744073709551616 then .ok n else .range := by
  unfold Lib.parseMag
  rw [if_neg (D_ne_nil n), parse10_eq, parseM_all _ (by omega) _ 0 (allD_D n)]
  have e : valA 0 (D n) = n := val_D n
  rw [e]
  by_cases h : n < 18446744073709551616
  · rw [if_pos h, if_pos (.inr (by omega))]
  · rw [if_neg h, if_neg (by simp; exact ⟨D_ne_nil n, by omega⟩)]
theorem atoi_I (z : Int) : Lib.atoiAll (I z) = if -9223372036854775808 ≤ z ∧ z ≤ 9223372036854775807 then .ok z else .range := by
  rcases I_cases z with ⟨n, rfl, e⟩ | ⟨n, hn, rfl, e⟩
  · obtain ⟨c, r, hd, h1, h2⟩ := D_no_sign n
    have hp := parseMag_D n
    rw [e]
    rw [hd] at hp ⊢
    unfold Lib.atoiAll
    simp only [if_neg h1, hp]
    by_cases h : n < 18446744073709551616
    · rw [if_pos h]
      simp only [h2, not_false_eq_true, true_and, false_and, if_false]
      by_cases h3 : 9223372036854775808 ≤ n
      · rw [if_pos h3, if_neg (by omega)]
      · rw [if_neg h3, if_pos (by omega)]
    · rw [if_neg h]
      rw [if_neg (by omega)]
  · have hp := parseMag_D n
    rw [e]
    unfold Lib.atoiAll
    have h45 : (45 : UInt8).toNat = 45 := rfl
    simp only [h45, or_true, if_true, hp]
    by_cases h : n < 18446744073709551616
    · rw [if_pos h]
      simp only [not_true_eq_false, true_and, false_and, if_false]
      by_cases h3 : 9223372036854775808 < n
      · rw [if_pos h3, if_neg (by omega)]
      · rw [if_neg h3, if_pos (by omega)]
    · rw [if_neg h]
      rw [if_neg (by omega)]
theorem I_length_le {z : Int} {k : Nat} (hk : 0 < k) (h : z.natAbs < 10 ^ k) : (I z).length ≤ k + 1 := by
  rcases I_cases z with ⟨n, rfl, e⟩ | ⟨n, hn, rfl, e⟩
  · rw [e]; have := D_length_le hk (n := n) (by simpa using h); omega
  · rw [e, List.length_cons]; have := D_length_le hk (n := n) (by simpa using h); omega
theorem ext_atoi {w w' : World} (h : w' = w ∨ ∃ t, w' = Lib.bytesWorld w 5 t) : Ext w w' := by
  rcases h with rfl | ⟨t, rfl⟩
  · exact Ext.refl _
  · exact ext_bytes w _
theorem atoi_ok (z : Int) (h0 : -9223372036854775808 ≤ z) (h1 : z ≤ 9223372036854775807) (w : World) :
    Calls Tryz.prog 89 #[S (I z)] w (RetV (.tuple #[.int .i64 z, .nilIface]) w) :=
  (Tryz.strconv_Atoi_ok _ (by have := I_length_le (z := z) (k := 20) (by omega) (by omega); rw [size_S]; omega) z (by show Lib.atoiAll (I z) = _; rw [atoi_I, if_pos ⟨h0, h1⟩]) w).mono fun _ _ ⟨h1, h2⟩ => ⟨h1, ext_atoi h2⟩
/-- An error comes back, whatever it is. -/
def RetErr (k : IntKind) (w : World) (e : Ending) (w' : World) : Prop := ∃ (n : Int) (t : TypeId) (p : Value), e = .returned (.tuple #[.int k n, .iface t p]) ∧ Ext w w'
theorem atoi_range (z : Int) (h : ¬ (-9223372036854775808 ≤ z ∧ z ≤ 9223372036854775807)) (hl : (I z).length < 1000000) (w : World) (hw : Okw w) :
    Calls Tryz.prog 89 #[S (I z)] w (RetErr .i64 w) := by
  obtain ⟨tp, p, hv⟩ := hw.rng
  exact (Tryz.strconv_Atoi_range_var _ (by rw [size_S]; omega) (by show Lib.atoiAll (I z) = _; rw [atoi_I, if_neg h]) tp p w hv).mono fun _ _ ⟨N, h1, _, _, h2⟩ => ⟨_, _, _, h1, h2⟩
theorem parseB_D (n : Nat) : Lib.parseUintB 64 (D n) = if n < 18446744073709551616 then .ok n else .range := by
  unfold Lib.parseUintB
  rw [if_neg (D_ne_nil n), parseM_all _ (by omega) _ 0 (allD_D n)]
  have e : valA 0 (D n) = n := val_D n
  have e2 : (2 : Nat) ^ 64 - 1 = 18446744073709551615 := by decide
  rw [e, e2]
  by_cases h : n < 18446744073709551616
  · rw [if_pos h, if_pos (.inr (by omega))]
  · rw [if_neg h, if_neg (by simp; exact ⟨D_ne_nil n, by omega⟩)]
theorem parseInt_I (z : Int) : Lib.parseIntB 64 (I z) = if -9223372036854775808 ≤ z ∧ z ≤ 9223372036854775807 then .ok z else .range := by
  have e63 : (2 : Nat) ^ (64 - 1) = 9223372036854775808 := by decide
  rcases I_cases z with ⟨n, rfl, e⟩ | ⟨n, hn, rfl, e⟩
  · obtain ⟨c, r, hd, h1, h2⟩ := D_no_sign n
    have hp := parseB_D n
    rw [e]
    rw [hd] at hp ⊢
    unfold Lib.parseIntB
    simp only [if_neg h1, hp]
    by_cases h : n < 18446744073709551616
    · rw [if_pos h]
      simp only [h2, not_false_eq_true, true_and, false_and, if_false, e63]
      by_cases h3 : 9223372036854775808 ≤ n
      · rw [if_pos h3, if_neg (by omega)]
      · rw [if_neg h3, if_pos (by omega)]
    · rw [if_neg h]
      rw [if_neg (by omega)]
  · have hp := parseB_D n
    rw [e]
    unfold Lib.parseIntB
    have h45 : (45 : UInt8).toNat = 45 := rfl
    simp only [h45, or_true, if_true, hp]
    by_cases h : n < 18446744073709551616
    · rw [if_pos h]
      simp only [not_true_eq_false, true_and, false_and, if_false, e63]
      by_cases h3 : 9223372036854775808 < n
      · rw [if_pos h3, if_neg (by omega)]
      · rw [if_neg h3, if_pos (by omega)]
    · rw [if_neg h]
      rw [if_neg (by omega)]
theorem parseInt_ok (z : Int) (h0 : -9223372036854775808 ≤ z) (h1 : z ≤ 9223372036854775807) (w : World) :
    Calls Tryz.prog 198 #[S (I z), .int .i64 10, .int .i64 64] w (RetV (.tuple #[.int .i64 z, .nilIface]) w) :=
  (Tryz.strconv_ParseInt_10_at64_ok _ (by have := I_length_le (z := z) (k := 20) (by omega) (by omega); rw [size_S]; omega) z (by show Lib.parseIntB 64 (I z) = _; rw [parseInt_I, if_pos ⟨h0, h1⟩]) w).mono fun _ _ ⟨h1, h2⟩ => ⟨h1, ext_atoi h2⟩
theorem parseInt_range (z : Int) (h : ¬ (-9223372036854775808 ≤ z ∧ z ≤ 9223372036854775807)) (hl : (I z).length < 1000000) (w : World) (hw : Okw w) :
    Calls Tryz.prog 198 #[S (I z), .int .i64 10, .int .i64 64] w (RetErr .i64 w) := by
  obtain ⟨tp, p, hv⟩ := hw.rng
  exact (Tryz.strconv_ParseInt_10_at64_range_var _ (by rw [size_S]; omega) (by show Lib.parseIntB 64 (I z) = _; rw [parseInt_I, if_neg h]) tp p w hv).mono fun _ _ ⟨N, h1, _, _, h2⟩ => ⟨_, _, _, h1, h2⟩
end Go.Proofs.YtblijhokcjpeeaaGreatDoor
/- integer: the functions on texts that are short. -/
namespace Go.Proofs.YtblijhokcjpeeaaGreatDoor
open Go.RowKit Kl

theorem isP45_D (n : Nat) : [45].isPrefixOf (D n) = false := by
  match hd : D n, D_ne_nil n with
  | c :: r, _ =>
    have := (allD_D n c (by rw [hd]; simp)).1
    simp only [List.isPrefixOf, Bool.and_true]
    rw [beq_eq_false_iff_ne]
    rintro rfl; exact absurd this (by decide)
theorem isP45_neg (l : Bs) : [45].isPrefixOf (45 :: l) = true := by simp [List.isPrefixOf]
theorem trim45_D (n : Nat) : Lib.trimPrefix (D n) [45] = D n := by unfold Lib.trimPrefix Lib.hasPrefix; rw [isP45_D]; rfl
theorem trim45_neg (l : Bs) : Lib.trimPrefix (45 :: l) [45] = l := by unfold Lib.trimPrefix Lib.hasPrefix; rw [isP45_neg]; rfl
theorem trim45_I (z : Int) : Lib.trimPrefix (I z) [45] = D z.natAbs := by
  rcases I_cases z with ⟨n, rfl, e⟩ | ⟨n, _, rfl, e⟩
  · rw [e, trim45_D]; simp
  · rw [e, trim45_neg]; simp
theorem isP45_I (z : Int) : [45].isPrefixOf (I z) = decide (z < 0) := by
  rcases I_cases z with ⟨n, rfl, e⟩ | ⟨n, _, rfl, e⟩
  · rw [e, isP45_D]; symm; rw [decide_eq_false_iff_not]; omega
  · rw [e, isP45_neg]; symm; rw [decide_eq_true_eq]; omega
theorem I_zero : I 0 = [48] := by rw [show (0 : Int) = ((0 : Nat) : Int) from rfl, I_nat, D_small (by omega)]; rfl
theorem I_eq_zero {z : Int} : I z = [48] ↔ z = 0 := by
  constructor
  · intro h; exact I_inj (by rw [h, I_zero])
  · rintro rfl; exact I_zero
theorem I_one : I 1 = [49] := by rw [show (1 : Int) = ((1 : Nat) : Int) from rfl, I_nat, D_small (by omega)]; rfl
theorem I_eq_one {z : Int} : I z = [49] ↔ z = 1 := by
  constructor
  · intro h; exact I_inj (by rw [h, I_one])
  · rintro rfl; exact I_one
theorem I_ne0 {z : Int} (h : z ≠ 0) : (I z == [48]) = false := by rw [beq_eq_false_iff_ne]; exact fun e => h (I_eq_zero.1 e)
theorem I_ne1 {z : Int} (h : z ≠ 1) : (I z == [49]) = false := by rw [beq_eq_false_iff_ne]; exact fun e => h (I_eq_one.1 e)
/-- An integer that is not too great. -/
def Bnd (z : Int) : Prop := z.natAbs < Big
theorem Bnd.len {z : Int} (h : Bnd z) : (I z).length ≤ 4001 := I_length_le (k := bigE) (by decide) h
def sgn (z : Int) : Int := if z = 0 then 0 else if z < 0 then -1 else 1
theorem sgn_zero {z : Int} (h : z = 0) : sgn z = 0 := by unfold sgn; rw [if_pos h]
theorem sgn_neg {z : Int} (h : z < 0) : sgn z = -1 := by unfold sgn; rw [if_neg (by omega), if_pos h]
theorem sgn_pos {z : Int} (h : 0 < z) : sgn z = 1 := by unfold sgn; rw [if_neg (by omega), if_neg (by omega)]

set_option maxHeartbeats 400000 in
theorem iSign_c (z : Int) (w : World) : Calls Tryz.prog 124 #[S (I z)] w (RetI (sgn z) w) := by
  by_cases h0 : z = 0
  · subst h0
    rw [I_zero]
    go_enter Tryz.func124, Tryz.ntmps124
    go_wp2
    go_ret
    exact ⟨rfl, Ext.refl _⟩
  · have h1 := I_ne0 h0
    have hp := isP45_I z
    by_cases hn : z < 0
    · rw [decide_eq_true hn] at hp
      go_enter Tryz.func124, Tryz.ntmps124
      go_wp2_with (go_at_call 188; refine (hasPrefix_c (I z) [45] _).mono ?_; rintro e w1 ⟨rfl, hx1⟩)
      go_ret
      exact ⟨ret_i (sgn_neg hn), hx1⟩
    · rw [decide_eq_false hn] at hp
      go_enter Tryz.func124, Tryz.ntmps124
      go_wp2_with (go_at_call 188; refine (hasPrefix_c (I z) [45] _).mono ?_; rintro e w1 ⟨rfl, hx1⟩)
      go_ret
      exact ⟨ret_i (sgn_pos (by omega)), hx1⟩

theorem I_negate {z : Int} : (z = 0 → I (-z) = I z) ∧ (0 < z → I (-z) = 45 :: I z) ∧ (z < 0 → I z = 45 :: I (-z)) := by
  refine ⟨fun h => by rw [h]; rfl, fun h => ?_, fun h => ?_⟩
  · rcases I_cases z with ⟨n, rfl, e⟩ | ⟨n, hn, rfl, e⟩
    · rw [e, I_neg n (by omega)]
    · omega
  · rcases I_cases z with ⟨n, rfl, e⟩ | ⟨n, hn, rfl, e⟩
    · omega
    · rw [e, Int.neg_neg, I_nat]
set_option maxHeartbeats 400000 in
theorem iNeg_c (z : Int) (hb : Bnd z) (w : World) : Calls Tryz.prog 65 #[S (I z)] w (RetS (I (-z)) w) := by
  obtain ⟨e0, e1, e2⟩ := I_negate (z := z)
  rcases Int.lt_trichotomy z 0 with h | h | h
  · rw [e2 h]
    have hs := iSign_c z
    rw [sgn_neg h, e2 h] at hs
    clear e0 e1 e2
    go_enter Tryz.func65, Tryz.ntmps65
    go_wp2_with (go_at_call 124; ((with_reducible refine (hs _).mono ?_); rintro e w1 ⟨rfl, hx1⟩))
    go_ret
    exact ⟨ret_s (by rw [ext_bs]; simp), hx1⟩
  · subst h
    have hs := iSign_c 0
    rw [sgn_zero rfl] at hs
    clear e0 e1 e2
    go_enter Tryz.func65, Tryz.ntmps65
    go_wp2_with (go_at_call 124; ((with_reducible refine (hs _).mono ?_); rintro e w1 ⟨rfl, hx1⟩))
    go_ret
    exact ⟨rfl, hx1⟩
  · rw [e1 h]
    have hs := iSign_c z
    rw [sgn_pos h] at hs
    have hln := hb.len
    clear e0 e1 e2
    go_enter Tryz.func65, Tryz.ntmps65
    go_wp2_with (go_at_call 124; ((with_reducible refine (hs _).mono ?_); rintro e w1 ⟨rfl, hx1⟩))
    go_ret
    exact ⟨ret_s (by apply ByteArray.ext; simp), hx1⟩
theorem iOf_c (z : Int) (h0 : -9223372036854775808 ≤ z) (h1 : z ≤ 9223372036854775807) (w : World) (hw : Okw w) : Calls Tryz.prog 70 #[.int .i64 z] w (RetS (I z) w) := by
  have hi := itoa_c z h0 h1 w hw
  clear h0 h1
  go_enter Tryz.func70, Tryz.ntmps70
  go_wp2_with (go_at_call 128; ((with_reducible refine hi.mono ?_); rintro e w1 ⟨rfl, hx1⟩))
  go_ret
  exact ⟨rfl, hx1⟩
/-- What quick answers. -/
def quickI (z : Int) (k : Nat) : Value := if (I z).length ≤ k then .tuple #[.int .i64 z, .bool true] else .tuple #[.int .i64 0, .bool false]
theorem quick_c (z : Int) (k : Nat) (hk : k ≤ 18) (w : World) : Calls Tryz.prog 118 #[S (I z), .int .i64 (k : Nat)] w (RetV (quickI z k) w) := by
  by_cases h : (I z).length ≤ k
  · have hz : z.natAbs < 10 ^ 18 := by
      rcases I_cases z with ⟨n, rfl, e⟩ | ⟨n, hn, rfl, e⟩
      · rw [e] at h; simpa using lt_pow_of_len (n := n) (k := 18) (by omega)
      · rw [e, List.length_cons] at h; simpa using lt_pow_of_len (n := n) (k := 18) (by omega)
    have ha := atoi_ok z (by omega) (by omega) w
    have hq : quickI z k = .tuple #[.int .i64 z, .bool true] := if_pos h
    rw [hq]
    clear hz hq
    go_enter Tryz.func118, Tryz.ntmps118
    go_wp2_with (go_at_call 89; ((with_reducible refine ha.mono ?_); rintro e w1 ⟨rfl, hx1⟩))
    go_quiet (fail)
    go_wp2
    go_ret2
    exact ⟨rfl, hx1.drewN _⟩
  · have hq : quickI z k = .tuple #[.int .i64 0, .bool false] := if_neg h
    rw [hq]
    have h' : k < (I z).length := by omega
    clear hq h
    go_enter Tryz.func118, Tryz.ntmps118
    go_wp2
    go_ret2
    exact ⟨rfl, Ext.refl _⟩
end Go.Proofs.YtblijhokcjpeeaaGreatDoor
namespace Go.Proofs.YtblijhokcjpeeaaGreatDoor
open Go.RowKit Kl
attribute [local go_sem] ext_hi ext_lo

theorem own_base {w : World} {base : Nat} {e : TypeId} {size n : Nat} {v : Value} {xs : List Value} (h : w.ownsRow base e size v (n + 1) xs) : base ≤ w.heap.size := by
  rcases h.2 with ⟨_, h0⟩ | ⟨g, cap, cur, rfl, hb, hg, _⟩
  · omega
  · have := (Array.getElem?_eq_some_iff.1 hg).1; omega
theorem RdAt.setCell {w : World} {A : Option Addr} {c : Nat} {l : List Nat} (h : RdAt w A c l) {p : Addr} {v u : Value} (hp : w.cell? p = some v) (hv : ∀ n, v ≠ .int .u64 n) : RdAt (w.setCell p u) A c l :=
  ⟨h.cap, h.max, h.len, fun h0 => by
    obtain ⟨b, o, e, hc⟩ := h.ad h0
    refine ⟨b, o, e, fun j hj => ?_⟩
    have hne : p ≠ ⟨b, o + j, none⟩ := by
      rintro rfl
      rw [hc j hj] at hp
      exact hv _ (Option.some.inj hp).symm
    rw [World.cell?_setCell_other _ _ _ _ hne]
    exact hc j hj⟩
structure OpenInv (n : Nat) (s : Bs) (o : List Nat) : Prop where
  all : AllD s
  lt : ∀ x ∈ o, x < 1000000000
  len : s.length + o.length ≤ 4001
  sum : n = val s * 1000000000 ^ o.length + ofL 1000000000 o
theorem OpenInv.start {n : Nat} (h : (D n).length ≤ 4001) : OpenInv n (D n) [] := ⟨allD_D n, by simp, by simpa using h, by simp [ofL, val_D]⟩
theorem OpenInv.step {n k : Nat} {s : Bs} {o : List Nat} (h : OpenInv n s o) (hk : k < s.length) (hk9 : k + 9 = s.length ∨ (k = 0 ∧ s.length < 9)) : OpenInv n (s.take k) (o ++ [val (s.drop k)]) ∧ AllD (s.drop k) ∧ s.drop k ≠ [] ∧ val (s.drop k) < 1000000000 := by
  have hd := allD_drop h.all k
  have hv := val_lt hd
  have hdl : (s.drop k).length ≤ 9 := by rw [List.length_drop]; omega
  have hp : 10 ^ (s.drop k).length ≤ 10 ^ 9 := Nat.pow_le_pow_right (by omega) hdl
  have hv9 : val (s.drop k) < 1000000000 := by
    have e : (10 : Nat) ^ 9 = 1000000000 := by decide
    omega
  refine ⟨⟨allD_take h.all k, ?_, ?_, ?_⟩, hd, ?_, hv9⟩
  · intro x hx
    rcases List.mem_append.1 hx with hx | hx
    · exact h.lt x hx
    · simp at hx; subst hx; exact hv9
  · have := h.len; rw [List.length_take, List.length_append, List.length_singleton]; omega
  · have hs : val s = val (s.take k) * 10 ^ (s.drop k).length + val (s.drop k) := by
      conv => lhs; rw [← List.take_append_drop k s]
      rw [val_append]
    have hs2 : val s = val (s.take k) * 1000000000 + val (s.drop k) := by
      rcases hk9 with e | ⟨rfl, _⟩
      · rw [hs, show (s.drop k).length = 9 by rw [List.length_drop]; omega]
      · simp [val_nil]
    rw [ofL_snoc, List.length_append, List.length_singleton, Nat.pow_succ]
    have := h.sum
    rw [hs2] at this
    rw [this]
    generalize 1000000000 ^ o.length = p
    generalize val (s.take k) = a
    generalize val (s.drop k) = b
    rw [Nat.add_mul, Nat.mul_assoc, Nat.mul_comm 1000000000 p, Nat.mul_comm b p]
    omega
  · intro e
    have : (s.drop k).length = 0 := by rw [e]; rfl
    rw [List.length_drop] at this; omega

/-- An integer in pieces is returned. -/
def RetN (z : Int) (w : World) (e : Ending) (w' : World) : Prop := ∃ v, e = .returned (.agg #[.bool (decide (z < 0)), v]) ∧ Rd w' v (pc 1000000000 z.natAbs) ∧ Ext w w'

def szOf : Value → Nat | .string t => t.size | _ => 0
theorem szOf_S (l : Bs) : szOf (S l) = l.length := size_S l
def OpenRel (n b0 : Nat) (W0 : World) (s p : Value) (wr : World) : Prop :=
  ∃ (t : Bs) (o : List Nat), OpenInv n t o ∧ s = S t ∧ wr.ownsRow b0 133 1 p o.length (u64s o) ∧ b0 ≤ wr.heap.size ∧ Ext W0 wr

set_option maxRecDepth 100000 in
set_option maxHeartbeats 1000000 in
theorem open_c (z : Int) (hz : Bnd z) (w : World) : Calls Tryz.prog 119 #[S (I z)] w (RetN z w) := by
  have hln := hz.len
  have hcp := cutPrefix_c (I z) [45]
  rw [trim45_I, isP45_I] at hcp
  obtain ⟨n, hn⟩ : ∃ n, n = z.natAbs := ⟨_, rfl⟩
  have hdl : (D n).length ≤ 4001 := by
    rw [hn]
    rcases I_cases z with ⟨m, rfl, e⟩ | ⟨m, _, rfl, e⟩
    · rw [e] at hln; simpa using hln
    · rw [e, List.length_cons] at hln
      have : (-(m : Int)).natAbs = m := by omega
      rw [this]; omega
  rw [← hn] at hcp
  have HN := Lib.hid hn
  clear hn
  have hmk := mk_u64 ((D n).length / 9 + 1) (by omega) (((D n).length : Int) / 9 + 1) (by omega)
  go_enter Tryz.func119, Tryz.ntmps119
  go_wp2_with (go_at_call 178; ((with_reducible refine (hcp _).mono ?_); rintro e w1 ⟨rfl, hx1⟩))
  clear hcp hmk
  have how := own_mk w1 w1.heap.size ((D n).length / 9 + 1) (Nat.le_refl _) (by omega)
  have hext0 := hx1.alloc (.cells (madeCells #[.int .u64 0] ((D n).length / 9 + 1)) 133)
  have hsz1 := hx1.size
  simp only [World.size_alloc] at hsz1
  go_loopw [3, 5] (fun s p wr => OpenRel n w1.heap.size (w.alloc (.cells #[.bool false, .slice none 0 0] 161)) s p wr)
    (fun s _ _ => szOf s)
  case atStart => exact ⟨D n, [], OpenInv.start hdl, rfl, how, by simp, hext0⟩
  case round =>
    obtain ⟨t, o, hO, rfl, hown, hsz, hext⟩ := hrel
    clear how hext0 hx1
    have htl := hO.len
    by_cases h0 : t = []
    · subst h0
      have hsum := hO.sum
      rw [val_nil, Nat.zero_mul, Nat.zero_add] at hsum
      have HS := Lib.hid hsum
      clear hsum
      go_wp2_with fail
      have hrd : Rd wr u5 o := Rd.of_own hown (by omega)
      ((with_reducible refine (trim_c _ _ _ hrd hO.lt).mono ?_); rintro e w2 ⟨v2, rfl, hv2, hx2⟩)
      have hx02 := hext.trans hx2
      obtain ⟨hc2, hf2⟩ := hx02.cells
      obtain ⟨A2, c2, rfl, hr2⟩ := hv2
      go_wp2
      refine bodyPost_ret (v := .agg #[.bool (decide (z < 0)), .slice A2 (pc 1000000000 (ofL 1000000000 o)).length c2]) (by simp [results, Tryz.results119, go_sem, hc2]) rfl ?_
      refine ⟨_, rfl, ?_, ?_⟩
      · rw [← HN.out, HS.out]
        have e0 := hc2 w.heap.size 0 (by simp)
        have e1 := hc2 w.heap.size 1 (by simp)
        rw [World.cell?_alloc_at _ _ _ _ rfl] at e0 e1
        refine ⟨A2, c2, rfl, (hr2.setCell e0 (by simp)).setCell (v := .slice none 0 0) ?_ (by simp)⟩
        rw [World.cell?_setCell_other _ _ _ _ (by simp)]; exact e1
      · exact (((Ext.refl w).alloc _).trans hx02 |>.setCell (Nat.le_refl _) _).setCell (Nat.le_refl _) _
    · have htp : 0 < t.length := List.length_pos_iff.2 h0
      clear h0
      by_cases h9 : t.length < 9
      · obtain ⟨hO2, hda, hdn, hdv⟩ := hO.step (k := 0) htp (.inr ⟨rfl, h9⟩)
        simp only [List.take_zero, List.drop_zero] at hO2 hda hdn hdv
        have hpu := parseUint_c t hdn hda (by omega) (by omega)
        clear hdn
        have hmax : max ((t.length : Int) - 9) 0 = 0 := by omega
        go_wp2_with fail
        ((with_reducible refine (hpu _).mono ?_); rintro e w3 ⟨rfl, hx3⟩)
        go_wp2_with fail
        have hown3 := own_drew (own_ext hown hx3)
        have hsz3 := Nat.le_trans hsz hx3.size
        go_region_law ((refine step_app1 rfl _ _ rfl w3.drew w1.heap.size u5 o.length o rfl hown3 (by omega) _ (val t) rfl rfl hsz3 ?_; intro v4 w4 hown4 hx4))
        go_wp2
        simp only [List.getElem_toArray, List.getElem_cons_succ, List.getElem_cons_zero, Act.put, List.setIfInBounds_toArray, List.set_cons_succ, List.set_cons_zero]
        go_roundw
        case rel => exact ⟨[], _, hO2, by simp; rfl, by simpa using hown4, own_base hown4, hx4 _ ((hext.trans hx3).drew) (by simp; omega)⟩
        case measure => simp [szOf, size_S]; omega
      · obtain ⟨k, hk⟩ : ∃ k, k = t.length - 9 := ⟨_, rfl⟩
        have hkl : k < t.length := by omega
        have hk9 : k + 9 = t.length := by omega
        obtain ⟨hO2, hda, hdn, hdv⟩ := hO.step (k := k) hkl (.inl hk9)
        have hpu := parseUint_c (t.drop k) hdn hda (by omega) (by simp; omega)
        clear hdn
        have hmax : max ((t.length : Int) - 9) 0 = k := by omega
        have hki : (k : Int) ≤ (t.length : Int) := by omega
        have hk0 : (0 : Int) ≤ (k : Int) := by omega
        have HK := Lib.hid hk
        have HK9 := Lib.hid hk9
        clear hk hk9
        go_wp2_with fail
        ((with_reducible refine (hpu _).mono ?_); rintro e w3 ⟨rfl, hx3⟩)
        go_wp2_with fail
        have hown3 := own_drew (own_ext hown hx3)
        have hsz3 := Nat.le_trans hsz hx3.size
        go_region_law ((refine step_app1 rfl _ _ rfl w3.drew w1.heap.size u5 o.length o rfl hown3 (by omega) _ (val (t.drop k)) rfl rfl hsz3 ?_; intro v4 w4 hown4 hx4))
        go_wp2
        simp only [List.getElem_toArray, List.getElem_cons_succ, List.getElem_cons_zero, Act.put, List.setIfInBounds_toArray, List.set_cons_succ, List.set_cons_zero]
        go_roundw
        case rel => exact ⟨t.take k, _, hO2, rfl, by simpa using hown4, own_base hown4, hx4 _ ((hext.trans hx3).drew) (by simp; omega)⟩
        case measure => simp [szOf, size_S]; omega
end Go.Proofs.YtblijhokcjpeeaaGreatDoor
