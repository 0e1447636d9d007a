/- slices.Repeat at points. -/
import Derived.Test.YtblijhokcjpeeaaGreatDoorMV
import Derived.Test.YtblijhokcjpeeaaGreatDoorEA
import Derived.Lib.SlicesCompact
import Derived.Lib.SliceRun
import Derived.Shelf.Bits.Mul64
import Derived.Laws.CopyRow
/- append of a readable row of pixels. -/
namespace Go.Proofs.YtblijhokcjpeeaaGreatDoor
open Go.RowKit Kl

theorem dcells_append (l m : List (Int × Int)) : dcells (l ++ m) = dcells l ++ dcells m := by unfold dcells; simp
theorem dcells_plain {l : List (Int × Int)} : ∀ u ∈ dcells l, ∃ z, u = .int .i64 z := by
  intro u hu
  unfold dcells at hu
  simp only [List.mem_flatMap, List.mem_cons, List.not_mem_nil, or_false] at hu
  obtain ⟨d, _, h | h⟩ := hu
  · exact ⟨_, h⟩
  · exact ⟨_, h⟩
section
variable {ops : Array Oper} {rest : List Oper} {o : Oper} {a : Act} {Q : Exit → Act → World → Prop}
theorem wp_applD {K : Act → World → Prop} (s x : Operand) (ho : o.op = .call { callee := .builtin .append, args := #[s, x], argTypes := #[44, 44] })
    (wr : World) (base : Nat) (v : Value) (n : Nat) (xs : List (Int × Int)) (hs : a.eval s = v) (hown : wr.ownsRow base 38 2 v n (dcells xs)) (l : List (Int × Int)) (A : Option Addr) (c : Nat) (hx : a.eval x = .slice A l.length c) (hra : RdC wr A (dcells l)) (hn : n + l.length < 2000000) (hbase : base ≤ wr.heap.size)
    (h : ∀ v' w', w'.ownsRow base 38 2 v' (n + l.length) (dcells (xs ++ l)) → (∀ w0, Ext w0 wr → w0.heap.size ≤ base → Ext w0 w') → (∀ k, k < wr.heap.size → v.ownBlock ≠ some k → w'.heap[k]? = wr.heap[k]?) → K (a.put o.dst v') w') :
    o.wp Tryz.prog a wr K Q := by
  obtain ⟨i0, hi, hz0, hz1, hz2⟩ := info_parts Tryz.infoDot
  by_cases h0 : l.length = 0
  · obtain rfl : l = [] := List.length_eq_zero_iff.1 h0
    rw [List.append_nil] at h
    cases A with
    | none =>
      have hrun := run_append_noneZ (P := Tryz.prog) wr base 44 o.type 38 i0 2 Tryz.underlying44 hi v n c (dcells xs) hown
      unfold Oper.wp execOp
      simp only [ho, resolve, invoke, builtin, Sem.run_bind, Sem.run_pure, Result.andThen_ok, List.map_toArray, List.map_cons, List.map_nil, hs, hx, List.length_nil, hrun]
      exact h v wr hown (fun w0 he hb => he) fun _ _ _ => rfl
    | some ad =>
      refine wp_append_own _ s x 44 ho base 38 i0 (.agg #[.int .i64 0, .int .i64 0]) 2 16 Tryz.underlying44 hi hz0 hz1 hz2 rfl (by omega) v n (dcells xs) hs hown ad 0 c [] hx rfl (fun j u hu => by simp at hu) (fun u hu => by simp at hu) (by unfold maxLen; omega) (by omega) hbase ?_
      intro v' w' h2 h3 _
      exact h v' w' (by simpa using h2) (fun w0 he hb => he.grownOwn h3 hown hb) fun k hk hn => h3.block k hk fun e => hn e.symm
  · obtain ⟨b, off, rfl, hc⟩ := hra.ad (by rw [dcells_length]; omega)
    refine wp_append_own _ s x 44 ho base 38 i0 (.agg #[.int .i64 0, .int .i64 0]) 2 16 Tryz.underlying44 hi hz0 hz1 hz2 rfl (by omega) v n (dcells xs) hs hown ⟨b, off, none⟩ l.length c (dcells l) hx (by rw [dcells_length]) ?_ ?_ (by unfold maxLen; omega) (by omega) hbase ?_
    · intro j u hu
      obtain ⟨hj, e⟩ := List.getElem?_eq_some_iff.1 hu
      rw [← e, Addr.add_lit]
      exact hc j hj
    · intro u hu
      obtain ⟨z, rfl⟩ := dcells_plain u hu
      rfl
    · intro v' w' h2 h3 _
      exact h v' w' (by rw [dcells_append]; exact h2) (fun w0 he hb => he.grownOwn h3 hown hb) fun k hk hn => h3.block k hk fun e => hn e.symm
/-- append of a row of pixels that can be read. -/
theorem applD (hgd : o.guard = none) (s x : Operand) (ho : o.op = .call { callee := .builtin .append, args := #[s, x], argTypes := #[44, 44] })
    (wr : World) (base : Nat) (v : Value) (n : Nat) (xs : List (Int × Int)) (hs : a.eval s = v) (hown : wr.ownsRow base 38 2 v n (dcells xs)) (l : List (Int × Int)) (A : Option Addr) (c : Nat) (hx : a.eval x = .slice A l.length c) (hra : RdC wr A (dcells l)) (hn : n + l.length < 2000000) (hbase : base ≤ wr.heap.size)
    (h : ∀ v' w', w'.ownsRow base 38 2 v' (n + l.length) (dcells (xs ++ l)) → (∀ w0, Ext w0 wr → w0.heap.size ≤ base → Ext w0 w') → wpList Tryz.prog ops Q rest (a.put o.dst v') w') :
    wpList Tryz.prog ops Q (o :: rest) a wr :=
  wpList_plain hgd fun _ hK => wp_applD s x ho wr base v n xs hs hown l A c hx hra hn hbase fun v' w' h2 h3 _ => hK _ _ (h v' w' h2 h3)
/-- The same in a region that draws its order. -/
theorem step_applD {K : Act → World → Prop} {E : Prop} (hgd : o.guard = none) (s x : Operand) (ho : o.op = .call { callee := .builtin .append, args := #[s, x], argTypes := #[44, 44] })
    (wr : World) (base : Nat) (v : Value) (n : Nat) (xs : List (Int × Int)) (hs : a.eval s = v) (hown : wr.ownsRow base 38 2 v n (dcells xs)) (l : List (Int × Int)) (A : Option Addr) (c : Nat) (hx : a.eval x = .slice A l.length c) (hra : RdC wr A (dcells l)) (hn : n + l.length < 2000000) (hbase : base ≤ wr.heap.size)
    (h : ∀ v' w', w'.ownsRow base 38 2 v' (n + l.length) (dcells (xs ++ l)) → (∀ w0, Ext w0 wr → w0.heap.size ≤ base → Ext w0 w') → (∀ k, k < wr.heap.size → v.ownBlock ≠ some k → w'.heap[k]? = wr.heap[k]?) → K (a.put o.dst v') w') :
    if Region.wanted o (yielded ops a.tmps) = true then Oper.wp Tryz.prog o a wr K Q else E := by
  have hw : Region.wanted o (yielded ops a.tmps) = true := by simp [Region.wanted, hgd]
  rw [if_pos hw]
  exact wp_applD s x ho wr base v n xs hs hown l A c hx hra hn hbase h
end
end Go.Proofs.YtblijhokcjpeeaaGreatDoor
/- slices.Compact at pixels. -/
namespace Go.Proofs.YtblijhokcjpeeaaGreatDoor
open Go.RowKit Kl Go.Lib

theorem ext_setCells {w0 : World} (b : Nat) (hb : w0.heap.size ≤ b) : ∀ (vs : List Value) (o : Nat) (w : World), Ext w0 w → Ext w0 (w.setCells b o vs)
  | [], _, _, h => h
  | v :: r, o, _, h => ext_setCells b hb r (o + 1) _ (h.setCell (p := ⟨b, o, none⟩) hb v)
theorem own_dot {w : World} {base g n cap : Nat} {e : TypeId} {d : Array (Int × Int)} (h : w.ownsRow base e 2 (.slice (some ⟨g, 0, none⟩) n cap) n (dcells d.toList)) (hs : d.size = n) {j : Nat} (hj : j < n) :
    w.cell? ⟨g, j * 2, none⟩ = some (.int .i64 d[j]!.1) ∧ w.cell? ⟨g, j * 2 + 1, none⟩ = some (.int .i64 d[j]!.2) := by
  have hd : d[j]! = d.toList[j]'(by simpa [hs] using hj) := by rw [getElem!_pos d j (by omega)]; simp
  obtain ⟨f1, f2⟩ := dcells_get d.toList j (by simpa [hs] using hj)
  rw [h.cellAt (j * 2) (by omega), h.cellAt (j * 2 + 1) (by omega), hd]
  exact ⟨f1, f2⟩
theorem dcells_set : ∀ (l : List (Int × Int)) (k : Nat) (u : Int × Int), ((dcells l).set (k * 2) (.int .i64 u.1)).set (k * 2 + 1) (.int .i64 u.2) = dcells (l.set k u)
  | [], _, _ => by simp [dcells]
  | p :: l, 0, _ => rfl
  | p :: l, k + 1, u => by
    have e : dcells (p :: l) = .int .i64 p.1 :: .int .i64 p.2 :: dcells l := rfl
    have e1 : (k + 1) * 2 = k * 2 + 1 + 1 := by omega
    rw [e, e1, List.set_cons_succ, List.set_cons_succ, List.set_cons_succ, List.set_cons_succ, dcells_set l k u]
    rfl
theorem own_put {w : World} {base g n cap : Nat} {e : TypeId} {d : Array (Int × Int)} (h : w.ownsRow base e 2 (.slice (some ⟨g, 0, none⟩) n cap) n (dcells d.toList)) (k : Nat) (u : Int × Int) :
    ((w.setCell ⟨g, k * 2, none⟩ (.int .i64 u.1)).setCell ⟨g, k * 2 + 1, none⟩ (.int .i64 u.2)).ownsRow base e 2 (.slice (some ⟨g, 0, none⟩) n cap) n (dcells (d.setIfInBounds k u).toList) := by
  have h2 := ((h.stored (k * 2) (.int .i64 u.1)).1.stored (k * 2 + 1) (.int .i64 u.2)).1
  rw [dcells_set] at h2
  rw [Array.toList_setIfInBounds]
  exact h2
theorem run_clear_dots (w : World) (b o n c : Nat) (hn : 0 < n) (hc : ∀ j, j < n * 2 → (w.cell? ⟨b, o + j, none⟩).isSome = true) (hf : ∀ j, j < n * 2 → w.frozen? ⟨b, o + j, none⟩ = false) :
    ∃ vs : List Value, vs.length = n * 2 ∧ ∀ ty, (Builtin.clear_ #[44] ty #[.slice (some ⟨b, o, none⟩) n c]).run Tryz.prog w = .ok (.tuple #[]) (w.setCells b o vs) := by
  obtain ⟨i0, hi, hz0, hz1, hz2⟩ := info_parts Tryz.infoDot
  have hv : ∀ w, (zeroValue 38).run Tryz.prog w = .ok (.agg #[.int .i64 0, .int .i64 0]) w := fun w => by simp [zeroValue, typeInfo, hi, hz0]
  have hcells : (Value.agg #[.int .i64 0, .int .i64 0]).cells = #[.int .i64 0, .int .i64 0] := by kernel_rfl
  have hl : (Builtin.zeroCells #[.int .i64 0, .int .i64 0] n).toList.length = n * 2 := by simp [Builtin.zeroCells]
  refine ⟨(Builtin.zeroCells #[.int .i64 0, .int .i64 0] n).toList, hl, fun ty => ?_⟩
  have hst := run_storeCells_cells (P := Tryz.prog) b o (Builtin.zeroCells #[.int .i64 0, .int .i64 0] n).toList 0 w (by rw [hl]; simpa using hc) (by rw [hl]; simpa using hf) (by
    intro v hv'
    simp only [Builtin.zeroCells] at hv'
    simp at hv'
    obtain ⟨j, _, e⟩ := hv'
    have : j % 2 = 0 ∨ j % 2 = 1 := by omega
    rcases this with h | h <;> (rw [h] at e; simp at e; subst e; rfl))
  simp only [Nat.add_zero] at hst
  obtain ⟨m, rfl⟩ : ∃ m, n = m + 1 := ⟨n - 1, by omega⟩
  simp [Builtin.clear_, run_underlying Tryz.underlying44, hv, hcells, hst]
/-- What is done to a row of the call's own leaves the rest. -/
def Own2 (w : World) (base : Nat) (wr : World) : Prop := ∀ w0, Ext w0 w → w0.heap.size ≤ base → Ext w0 wr
end Go.Proofs.YtblijhokcjpeeaaGreatDoor
/- slices.Compact at pixels: the walk. -/
namespace Go.Proofs.YtblijhokcjpeeaaGreatDoor
open Go.RowKit Kl Go.Lib

/-- A row of pixels of the call's own is returned; nothing older turned. -/
def RetComp (l : List (Int × Int)) (w : World) (base : Nat) (e : Ending) (w' : World) : Prop :=
  ∃ A k, e = .returned (.slice A l.length k) ∧ RdC w' A (dcells l) ∧ l.length ≤ k ∧ k ≤ 9223372036854775807 ∧ Own2 w base w'
theorem rdC_prefix {w : World} {g : Nat} {l : List (Int × Int)} (h : ∀ j (hj : j < l.length), w.cell? ⟨g, j * 2, none⟩ = some (.int .i64 l[j].1) ∧ w.cell? ⟨g, j * 2 + 1, none⟩ = some (.int .i64 l[j].2)) : RdC w (some ⟨g, 0, none⟩) (dcells l) := by
  refine ⟨fun _ => ⟨g, 0, rfl, fun j hj => ?_⟩⟩
  have hj' := hj
  rw [dcells_length] at hj'
  obtain ⟨q, hq⟩ : ∃ q, j = q * 2 ∨ j = q * 2 + 1 := ⟨j / 2, by omega⟩
  obtain ⟨f1, f2⟩ := h q (by omega)
  obtain ⟨e1, e2⟩ := dcells_get l q (by omega)
  rw [Nat.zero_add, ← List.getElem?_eq_getElem hj]
  rcases hq with rfl | rfl
  · rw [f1, e1]
  · rw [f2, e2]
theorem own_drewN {w : World} {base : Nat} {e : TypeId} {size : Nat} {v : Value} {n : Nat} {xs : List Value} (h : w.ownsRow base e size v n xs) (k : Nat) : (w.drewN k).ownsRow base e size v n xs := own_ext h ((Ext.refl w).drewN k)
theorem compact_short {L : List (Int × Int)} (h : L.length < 2) : compact L = L := compact_all L fun j hj => keeps_lt_one _ j (by omega)
set_option maxRecDepth 100000 in
set_option maxHeartbeats 8000000 in
theorem compact_c (L : List (Int × Int)) (v : Value) (w : World) (base : Nat) (hown : w.ownsRow base 38 2 v L.length (dcells L)) :
    Calls Tryz.prog 44 #[v] w (RetComp (compact L) w base) := by
  by_cases h2 : L.length < 2
  · rw [compact_short h2]
    obtain ⟨A, c, rfl, hr, hc1, hc2⟩ := RdC.of_own hown rfl
    have h2' : (L.length : Int) < 2 := by omega
    have HR := Lib.hid hr
    clear hown hr
    go_enter Tryz.func44, Tryz.ntmps44
    go_wp2
    go_ret
    exact ⟨A, c, rfl, HR.out, hc1, hc2, fun _ h _ => h⟩
  · obtain ⟨g, cap, rfl, hc1, hc2⟩ : ∃ g cap, v = .slice (some ⟨g, 0, none⟩) L.length cap ∧ L.length ≤ cap ∧ cap ≤ 9223372036854775807 := by
      rcases hown.2 with ⟨_, h'⟩ | ⟨g, cap, cur, hv, hb, hg, hnc, hcm, hcs, htake⟩
      · omega
      · exact ⟨g, cap, hv, hnc, by unfold maxLen at hcm; omega⟩
    have hbg := own_ge hown g rfl
    obtain ⟨d, hd⟩ : ∃ d, d = L.toArray := ⟨_, rfl⟩
    obtain ⟨n, hn⟩ : ∃ n, n = L.length := ⟨_, rfl⟩
    have hds : d.size = n := by rw [hd, hn]; simp
    have hcp : compact L = compactUpTo d n := by unfold compact; rw [hd, hn]
    rw [← hn] at hown h2 hc1 ⊢
    rw [hcp]
    rw [show dcells L = dcells d.toList by rw [hd]] at hown
    clear hd hn hcp
    have h2a : (2 : Int) ≤ (n : Int) := by omega
    clear h2
    go_enter Tryz.func44, Tryz.ntmps44
    go_wp2
    go_loopw [3] (fun s3 wr => ∃ k : Nat, s3 = .int .i64 k ∧ 1 ≤ k ∧ k ≤ n ∧ (∀ j, j < k → keeps d j = true) ∧ wr.ownsRow base 38 2 (.slice (some ⟨g, 0, none⟩) n cap) n (dcells d.toList) ∧ Own2 w base wr) (fun s3 _ => n - (RowKit.intOf s3).toNat)
    case atStart => exact ⟨1, rfl, by omega, by omega, keeps_lt_one d, hown, fun _ h _ => h⟩
    case round =>
      obtain ⟨k, rfl, hk1, hk, hall, hown1, hex⟩ := hrel
      have HALL := Lib.hid hall
      by_cases hlt : k < n
      · have hk0 : (0 : Int) ≤ (k : Int) := by omega
        have hk1' : (1 : Int) ≤ (k : Int) := by omega
        have hkn : (k : Int) < (n : Int) := by omega
        obtain ⟨g1, g2⟩ := own_dot hown1 hds hlt
        obtain ⟨g3, g4⟩ := own_dot hown1 hds (j := k - 1) (by omega)
        obtain ⟨x, hx⟩ : ∃ x, x = d[k]! := ⟨_, rfl⟩
        obtain ⟨y, hy⟩ : ∃ y, y = d[k - 1]! := ⟨_, rfl⟩
        rw [← hx] at g1 g2
        rw [← hy] at g3 g4
        obtain ⟨x1, x2⟩ := x
        obtain ⟨y1, y2⟩ := y
        have HXY := Lib.hid (And.intro hx hy)
        dsimp only at g1 g2 g3 g4
        have hkm : ((k : Int) - 1).toNat = k - 1 := by omega
        have hkw : IntKind.i64.wrap ((k : Int) - 1) = (k : Int) - 1 := IntWalk.i64_in _ (by omega)
        have hkm1 : ((k : Int) - 1) < (n : Int) := by omega
        have hkm2 : (0 : Int) ≤ ((k : Int) - 1) := by omega
        clear hx hy hall
        by_cases hne : x1 = y1 ∧ x2 = y2
        · obtain ⟨rfl, rfl⟩ := hne
          go_wp2_with fail
          go_quiet (fail)
          have hkeep : keeps d k = false := keeps_neg (by omega) (by rw [← HXY.out.1, ← HXY.out.2])
          have HKEEP := Lib.hid hkeep
          clear g1 g2 g3 g4 hkeep hkm hkw hkm1 hkm2 hlt
          have hcapk : cap - k ≤ cap := by omega
          go_wp2
          go_loopw [3, 5] (fun s3 s5 wr2 => ∃ (kk k2 : Nat) (dk : Array (Int × Int)), s3 = .int .i64 kk ∧ s5 = .int .i64 k2 ∧ 1 ≤ k2 ∧ k + k2 ≤ n ∧ wr2.ownsRow base 38 2 (.slice (some ⟨g, 0, none⟩) n cap) n (dcells dk.toList) ∧ CompInv d (k + k2) kk dk ∧ Own2 w base wr2) (fun _ s5 _ => n - k - (RowKit.intOf s5).toNat)
          case atStart => exact ⟨k, 1, d, rfl, rfl, by omega, by omega, own_drewN hown1 _, CompInv.start HALL.out HKEEP.out, fun w0 h h' => (hex w0 h h').drewN _⟩
          case round =>
            clear hown1 hex
            obtain ⟨kk, k2, dk, rfl, rfl, hk2, hle, hown2, hI, hex⟩ := hrel
            have hkk := hI.lt
            have hdk : dk.size = n := by rw [hI.size, hds]
            have HI := Lib.hid hI
            have hq0 : (0 : Int) ≤ (kk : Int) := by omega
            have hq1 : (1 : Int) ≤ (k2 : Int) := by omega
            have hq2 : (0 : Int) ≤ (k2 : Int) := by omega
            by_cases hlt2 : k + k2 < n
            · have hq3 : (k2 : Int) < ((n - k : Nat) : Int) := by omega
              obtain ⟨g1, g2⟩ := own_dot hown2 hdk hlt2
              obtain ⟨g3, g4⟩ := own_dot hown2 hdk (j := k + (k2 - 1)) (by omega)
              obtain ⟨g5, g6⟩ := own_dot hown2 hdk (j := kk) (by omega)
              have f5 := hown2.frozenAt (kk * 2)
              have f6 := hown2.frozenAt (kk * 2 + 1)
              rw [hI.high (k + k2) (by omega), show (k + k2) * 2 = k * 2 + k2 * 2 by omega] at g1 g2
              rw [hI.high (k + (k2 - 1)) (by omega), show (k + (k2 - 1)) * 2 = k * 2 + (k2 - 1) * 2 by omega] at g3 g4
              obtain ⟨x, hx⟩ : ∃ x, x = d[k + k2]! := ⟨_, rfl⟩
              obtain ⟨y, hy⟩ : ∃ y, y = d[k + (k2 - 1)]! := ⟨_, rfl⟩
              obtain ⟨z, hz⟩ : ∃ z, z = dk[kk]! := ⟨_, rfl⟩
              rw [← hx] at g1 g2
              rw [← hy] at g3 g4
              rw [← hz] at g5 g6
              rw [show k + (k2 - 1) = k + k2 - 1 by omega] at hy
              obtain ⟨u1, u2⟩ := x
              obtain ⟨v1, v2⟩ := y
              have HXY := Lib.hid (And.intro hx hy)
              dsimp only at g1 g2 g3 g4
              have hkm : ((k2 : Int) - 1).toNat = k2 - 1 := by omega
              have hkw : IntKind.i64.wrap ((k2 : Int) - 1) = (k2 : Int) - 1 := IntWalk.i64_in _ (by omega)
              have hkm1 : ((k2 : Int) - 1) < ((n - k : Nat) : Int) := by omega
              have hkm2 : (0 : Int) ≤ ((k2 : Int) - 1) := by omega
              have hkkn : (kk : Int) < (n : Int) := by omega
              clear hx hy hz hI
              by_cases hne : u1 = v1 ∧ u2 = v2
              · obtain ⟨rfl, rfl⟩ := hne
                have hI2 : CompInv d (k + (k2 + 1)) kk dk := HI.out.skip (keeps_neg (by omega) (by rw [← HXY.out.1, ← HXY.out.2]))
                have HI2 := Lib.hid hI2
                clear hI2
                go_wp2_with fail
                go_quiet (fail)
                go_wp2
                go_roundw
                case rel => exact ⟨kk, k2 + 1, dk, rfl, by go_num, by omega, by omega, own_drewN hown2 _, HI2.out, fun w0 h h' => (hex w0 h h').drewN _⟩
                case measure => simp [RowKit.intOf]; omega
              · have hI2 : CompInv d (k + (k2 + 1)) (kk + 1) (dk.setIfInBounds kk (u1, u2)) := by
                  have := HI.out.keep (by omega) (keeps_pos (by rw [← HXY.out.1, ← HXY.out.2]; intro e; exact hne (by simpa using e)))
                  rw [← HXY.out.1] at this
                  exact this
                have HI2 := Lib.hid hI2
                clear hI2
                by_cases h1 : u1 = v1
                · have hb1 : (u1 == v1) = true := by simp [h1]
                  have hb2 : (u2 == v2) = false := by simp; exact fun e => hne ⟨h1, e⟩
                  clear hne h1
                  go_wp2_with fail
                  go_quiet (fail)
                  go_wp2
                  go_roundw
                  case rel => exact ⟨kk + 1, k2 + 1, dk.setIfInBounds kk (u1, u2), by go_num, by go_num, by omega, by omega, own_put (own_drewN hown2 _) kk (u1, u2), HI2.out, fun w0 h h' => (((hex w0 h h').drewN _).setCell (p := ⟨g, kk * 2, none⟩) (Nat.le_trans h' hbg) _).setCell (p := ⟨g, kk * 2 + 1, none⟩) (Nat.le_trans h' hbg) _⟩
                  case measure => simp [RowKit.intOf]; omega
                · have hb1 : (u1 == v1) = false := by simp; exact h1
                  clear hne h1
                  go_wp2_with fail
                  go_quiet (fail)
                  go_wp2
                  go_roundw
                  case rel => exact ⟨kk + 1, k2 + 1, dk.setIfInBounds kk (u1, u2), by go_num, by go_num, by omega, by omega, own_put (own_drewN hown2 _) kk (u1, u2), HI2.out, fun w0 h h' => (((hex w0 h h').drewN _).setCell (p := ⟨g, kk * 2, none⟩) (Nat.le_trans h' hbg) _).setCell (p := ⟨g, kk * 2 + 1, none⟩) (Nat.le_trans h' hbg) _⟩
                  case measure => simp [RowKit.intOf]; omega
            · have hend : k + k2 = n := by omega
              have hq3 : ((n - k : Nat) : Int) ≤ (k2 : Int) := by omega
              have hkkn : (kk : Int) ≤ (n : Int) := by omega
              have hkkc : (kk : Int) ≤ (cap : Int) := by omega
              obtain ⟨vs, hvl, hcl⟩ := run_clear_dots wr g (kk * 2) (n - kk) (cap - kk) (by omega) (fun j hj => by rw [hown2.cellAt _ (by omega), List.getElem?_eq_getElem (by rw [hown2.1]; omega)]; rfl) (fun j hj => hown2.frozenAt _)
              have hpre : ∀ j (hj : j < (compactUpTo d n).length), (wr.setCells g (kk * 2) vs).cell? ⟨g, j * 2, none⟩ = some (.int .i64 (compactUpTo d n)[j].1) ∧ (wr.setCells g (kk * 2) vs).cell? ⟨g, j * 2 + 1, none⟩ = some (.int .i64 (compactUpTo d n)[j].2) := by
                intro j hj
                rw [hend] at hI
                have hj' : j < kk := by rw [← hI.len]; exact hj
                have hlow := hI.low j hj'
                rw [List.getElem?_eq_getElem hj, Option.some.injEq] at hlow
                rw [World.cell?_setCells_out _ _ _ _ _ (fun _ _ => .inl (by simp only []; omega)), World.cell?_setCells_out _ _ _ _ _ (fun _ _ => .inl (by simp only []; omega)), hlow]
                exact own_dot hown2 hdk (by omega)
              have HPRE := Lib.hid hpre
              have hlen : (compactUpTo d n).length = kk := by have := hI.len; rw [hend] at this; exact this
              clear hI hpre
              go_wp2
              go_ret
              exact ⟨some ⟨g, 0, none⟩, cap, by rw [hlen]; rfl, rdC_prefix HPRE.out, by omega, hc2, fun w0 h h' => ext_setCells g (Nat.le_trans h' hbg) _ _ _ (hex w0 h h')⟩
        · have hdec : keeps d k = true := keeps_pos (by rw [← HXY.out.1, ← HXY.out.2]; intro e; exact hne (by simpa using e))
          have hrel : wr.ownsRow base 38 2 (.slice (some ⟨g, 0, none⟩) n cap) n (dcells d.toList) := hown1
          have hall' : ∀ j, j < k + 1 → keeps d j = true := fun j hj => by
            by_cases e : j = k
            · subst e; exact hdec
            · exact HALL.out j (by omega)
          have HALL' := Lib.hid hall'
          clear hall' hdec
          by_cases h1 : x1 = y1
          · have hb1 : (x1 == y1) = true := by simp [h1]
            have hb2 : (x2 == y2) = false := by simp; exact fun e => hne ⟨h1, e⟩
            clear hne h1
            go_wp2_with fail
            go_quiet (fail)
            go_wp2
            go_roundw
            case rel => exact ⟨k + 1, by go_num, by omega, by omega, HALL'.out, own_drewN hown1 _, fun w0 h h' => (hex w0 h h').drewN _⟩
            case measure => simp [RowKit.intOf]; omega
          · have hb1 : (x1 == y1) = false := by simp; exact h1
            clear hne h1
            go_wp2_with fail
            go_quiet (fail)
            go_wp2
            go_roundw
            case rel => exact ⟨k + 1, by go_num, by omega, by omega, HALL'.out, own_drewN hown1 _, fun w0 h h' => (hex w0 h h').drewN _⟩
            case measure => simp [RowKit.intOf]; omega
      · have hle : (n : Int) ≤ (k : Int) := by omega
        have he : compactUpTo d n = d.toList := by
          have hr := range_map_get d
          rw [hds] at hr
          rw [compactUpTo_all _ _ (fun j hj => hall j (by omega)), hr]
        have hl : (compactUpTo d n).length = n := by rw [he]; simp [hds]
        go_wp2
        go_ret
        refine ⟨some ⟨g, 0, none⟩, cap, by rw [hl]; rfl, ?_, by omega, hc2, hex⟩
        obtain ⟨A, c, e, hr, _, _⟩ := RdC.of_own hown1 (by simp [hds])
        rw [he]
        cases e
        exact hr
end Go.Proofs.YtblijhokcjpeeaaGreatDoor
namespace Go.Proofs
open Go.Shelf
def Tryz.lays212_ren : Go.Shelf.Ren := ⟨fun | 212 => 43 | 263 => 91 | 264 => 92 | n => n, fun | 46 => 86 | 51 => 130 | 146 => 131 | 53 => 133 | 148 => 134 | n => n, fun | n => n⟩
theorem Tryz.lays212 : Go.Proofs.Lays.n212 Tryz.prog Tryz.lays212_ren := {
  mixed := by kernel_rfl
  f212 := Tryz.func43.trans (congrArg some (by kernel_rfl))
  f263 := Tryz.func91.trans (congrArg some (by kernel_rfl))
  f264 := Tryz.func92.trans (congrArg some (by kernel_rfl))
  t46 := Tryz.underlying86
  a46 := Tryz.isAgg86
  z46 := Tryz.sizeOf86
  v46 := Tryz.zeroValue86
  t51 := Tryz.underlying130
  a51 := Tryz.isAgg130
  z51 := Tryz.sizeOf130
  v51 := Tryz.zeroValue130
  t53 := Tryz.underlying133
  a53 := Tryz.isAgg133
  z53 := Tryz.sizeOf133
  v53 := Tryz.zeroValue133
  t146 := Tryz.underlying131
  a146 := Tryz.isAgg131
  z146 := Tryz.sizeOf131
  v146 := Tryz.zeroValue131
  t148 := Tryz.underlying134
  a148 := Tryz.isAgg134
  z148 := Tryz.sizeOf134
  v148 := Tryz.zeroValue134 }
open Go.RowKit Go.Lib in
theorem Tryz.bits_Mul (x y : Nat) (hx : x < 18446744073709551616) (hy : y < 18446744073709551616) (w : World) :
    Calls Tryz.prog 43 #[.int .u64 x, .int .u64 y] w fun e w' => e = .returned (.tuple #[.int .u64 ((x * y / 18446744073709551616 : Nat) : Int), .int .u64 ((x * y % 18446744073709551616 : Nat) : Int)]) ∧ w' = w := Any.bits_Mul Tryz.lays212 x y hx hy w
end Go.Proofs
namespace Go.Proofs.YtblijhokcjpeeaaGreatDoor
open Go.RowKit Kl

/-- j points p, then zero points, m in all. -/
def rep (p : Bs × Bs) (j m : Nat) : List Value := flat (List.replicate j p ++ List.replicate (m - j) ([], []))
theorem flat_append (l m : List (Bs × Bs)) : flat (l ++ m) = flat l ++ flat m := by unfold flat; simp
theorem rep_length (p : Bs × Bs) {j m : Nat} (h : j ≤ m) : (rep p j m).length = m * 2 := by unfold rep; rw [flat_length]; simp; omega
theorem rep_all (p : Bs × Bs) (m : Nat) : rep p m m = flat (List.replicate m p) := by unfold rep; simp
theorem rep_cell (p : Bs × Bs) {i j m : Nat} (hi : i < j * 2) : (rep p j m)[i]? = (flat (List.replicate j p))[i]? := by
  unfold rep
  rw [flat_append, List.getElem?_append_left (by rw [flat_length]; simpa using hi)]
theorem flat_rep_get (p : Bs × Bs) : ∀ (k i : Nat), i < k * 2 → (flat (List.replicate k p))[i]? = [S p.1, S p.2][i % 2]?
  | 0, i, h => by omega
  | k + 1, 0, _ => rfl
  | k + 1, 1, _ => rfl
  | k + 1, i + 2, h => by
    have e : flat (List.replicate (k + 1) p) = S p.1 :: S p.2 :: flat (List.replicate k p) := rfl
    rw [e, List.getElem?_cons_succ, List.getElem?_cons_succ, flat_rep_get p k i (by omega)]
    congr 1
    omega
theorem rep_step (p : Bs × Bs) {j k m : Nat} (h : j + k ≤ m) : (rep p j m).take (j * 2) ++ flat (List.replicate k p) ++ (rep p j m).drop (j * 2 + (flat (List.replicate k p)).length) = rep p (j + k) m := by
  unfold rep
  have e1 : (flat (List.replicate j p)).length = j * 2 := by rw [flat_length]; simp
  have e2 : (flat (List.replicate k p)).length = k * 2 := by rw [flat_length]; simp
  have e3 : List.replicate (m - j) (([] : Bs), ([] : Bs)) = List.replicate k ([], []) ++ List.replicate (m - (j + k)) ([], []) := by
    rw [List.replicate_append_replicate]; congr 1 <;> omega
  have e4 : (flat (List.replicate k (([] : Bs), ([] : Bs)))).length = k * 2 := by rw [flat_length]; simp
  have d1 : (flat (List.replicate j p) ++ flat (List.replicate (m - j) ([], []))).take (j * 2) = flat (List.replicate j p) := by rw [← e1, List.take_left]
  have d2 : (flat (List.replicate j p) ++ (flat (List.replicate k (([] : Bs), ([] : Bs))) ++ flat (List.replicate (m - (j + k)) ([], [])))).drop (j * 2 + k * 2) = flat (List.replicate (m - (j + k)) ([], [])) := by
    rw [← List.append_assoc, show j * 2 + k * 2 = (flat (List.replicate j p) ++ flat (List.replicate k (([] : Bs), ([] : Bs)))).length by rw [List.length_append, e1, e4], List.drop_left]
  rw [e2, flat_append, d1, e3, flat_append, d2, ← List.replicate_append_replicate, flat_append, flat_append]
theorem run_copy_pts (w : World) (ty : TypeId) (g o dLen dCap : Nat) (a : Addr) (sLen sCap : Nat) (cur : Array Value) (t : TypeId) (cs : List Value) (k : Nat)
    (hg : w.heap[g]? = some (.cells cur t (0, 0))) (hk : Nat.min sLen dLen = k) (hn : cs.length = k * 2)
    (hsrc : ∀ j v, cs[j]? = some v → w.cell? (a.add j) = some v) (hfit : o + cs.length ≤ cur.size) (h1 : ∀ v ∈ cs, v.oneCell' = true) :
    (Builtin.copy_ #[52, 52] ty #[.slice (some ⟨g, o, none⟩) dLen dCap, .slice (some a) sLen sCap]).run Tryz.prog w =
      .ok (.int .i64 (k : Nat)) (w.setRow g (cur.toList.take o ++ cs ++ cur.toList.drop (o + cs.length)).toArray) := by
  obtain ⟨i0, hi, hz0, hz1, hz2⟩ := info_parts Tryz.infoPt
  have hl := run_loadCells_list (P := Tryz.prog) w a cs hsrc
  have hst := run_storeCells_at Tryz.prog g o t cs 0 cur w hg (by simpa using hfit) h1
  rw [hn] at hl
  simp [Builtin.copy_, run_underlying Tryz.underlying52, Builtin.lenOf, Builtin.firstCells, sizeOf, typeInfo, hi, hz1, hk, hl, hst, goInt]
theorem mk_ptn (n : Nat) (hn : n ≤ 200000) (c : Int) (hc : c = (n : Int)) (W : World) :
    (Instr.makeSlice 52 (.int .i64 c) (.int .i64 c)).run Tryz.prog W = .ok (.slice (some ⟨W.heap.size, 0, none⟩) n n) (W.alloc (.cells (madeCells #[S [], S []] (n * 2)) 29)) := by
  subst hc
  obtain ⟨i0, hi, hz0, hz1, hz2⟩ := info_parts Tryz.infoPt
  have h := run_make (P := Tryz.prog) W 52 29 i0 (.agg #[S [], S []]) Tryz.underlying52 hi hz0 .i64 .i64 n n (by omega) (by omega) (by rw [hz2]; omega) (by omega)
  rw [hz1] at h
  simp only [Int.toNat_natCast] at h
  exact h
theorem made_rep (p : Bs × Bs) (m : Nat) : madeCells #[S [], S []] (m * 2) = (rep p 0 m).toArray := by
  apply Array.ext_getElem?
  intro i
  rw [show (rep p 0 m).toArray[i]? = (rep p 0 m)[i]? from List.getElem?_toArray]
  unfold rep
  rw [show List.replicate 0 p = [] from rfl, List.nil_append, Nat.sub_zero]
  by_cases h : i < m * 2
  · rw [flat_rep_get _ m i h]
    unfold madeCells
    rw [Array.getElem?_map, Array.getElem?_range, if_pos h]
    have : i % 2 = 0 ∨ i % 2 = 1 := by omega
    rcases this with e | e <;> (simp [e])
  · rw [Array.getElem?_eq_none (by rw [size_madeCells]; omega), List.getElem?_eq_none (by rw [flat_length]; simp; omega)]
end Go.Proofs.YtblijhokcjpeeaaGreatDoor
