/- integer.times: the product of magnitudes. -/
import Derived.Test.YtblijhokcjpeeaaGreatDoorProg
import Derived.WalkKit
import Derived.Lib.Hide
import Derived.BigQuiet
import Derived.Deep.QuietTactic
import Derived.KernelRfl
import Derived.Test.YtblijhokcjpeeaaGreatDoorMA
/- Words for walks: worlds that only grow, slices of numbers that read as lists. -/
namespace Go.Proofs.YtblijhokcjpeeaaGreatDoor
open Go.RowKit Kl

/-- What was there is there; there may be more. -/
def Ext (w w' : World) : Prop := Below w.heap.size w w'
theorem Ext.refl (w : World) : Ext w w := Below.refl _ _
theorem Ext.trans {a b c : World} (h : Ext a b) (k : Ext b c) : Ext a c := Below.trans h (Below.mono k h.size)
theorem Ext.drew {a b : World} (h : Ext a b) : Ext a b.drew := Below.drew h
theorem Ext.drewN {a b : World} (h : Ext a b) (n : Nat) : Ext a (b.drewN n) := ⟨h.os, h.tape, h.output, h.size, h.block⟩
theorem Ext.alloc {a b : World} (h : Ext a b) (o : Obj) : Ext a (b.alloc o) := Below.alloc h h.size o
theorem Ext.setCell {a b : World} (h : Ext a b) {p : Addr} (hp : a.heap.size ≤ p.block) (u : Value) : Ext a (b.setCell p u) := Below.setCell h hp u
theorem Ext.size {a b : World} (h : Ext a b) : a.heap.size ≤ b.heap.size := Below.size h
theorem Ext.cell {w w' : World} (h : Ext w w') {p : Addr} (hp : p.block < w.heap.size) : w'.cell? p = w.cell? p := Below.cell h hp
theorem Ext.cellS {w w' : World} (h : Ext w w') {p : Addr} {v : Value} (hp : w.cell? p = some v) : w'.cell? p = some v :=
  (h.cell (World.block_lt_of_cell? w p hp)).trans hp
theorem Ext.frozen {w w' : World} (h : Ext w w') {p : Addr} (hp : p.block < w.heap.size) : w'.frozen? p = w.frozen? p := Below.frozen h hp
theorem Ext.grown {a w w' : World} {row : Option Nat} (h : Ext a w) (hg : w.grownBy w' row) (hr : ∀ k, row = some k → a.heap.size ≤ k) : Ext a w' :=
  Below.grown h hg h.size hr
theorem Ext.grownOwn {a w w' : World} {B : Nat} {e : TypeId} {s n : Nat} {v : Value} {xs : List Value} (h : Ext a w) (hg : w.grownBy w' v.ownBlock) (ho : w.ownsRow B e s v n xs) (hB : a.heap.size ≤ B) : Ext a w' :=
  h.grown hg fun k hk => Nat.le_trans hB (ho.lt k hk).1
/-- The two rules that the walk uses behind a call. -/
theorem Ext.cells {W w1 : World} (h : Ext W w1) : (∀ b o, b < W.heap.size → w1.cell? ⟨b, o, none⟩ = W.cell? ⟨b, o, none⟩) ∧ (∀ b o, b < W.heap.size → w1.frozen? ⟨b, o, none⟩ = W.frozen? ⟨b, o, none⟩) :=
  ⟨fun b o hb => h.cell (p := ⟨b, o, none⟩) hb, fun b o hb => h.frozen (p := ⟨b, o, none⟩) hb⟩

/-- A bound on all numbers that are met. -/
def bigE : Nat := 4000
def Big : Nat := 10 ^ bigE

/-- A text as a value. -/
abbrev S (l : Bs) : Value := .string ⟨l.toArray⟩

def at0 (l : List Nat) (i : Nat) : Nat := l.getD i 0
theorem at0_lt {l : List Nat} {b i : Nat} (h : ∀ x ∈ l, x < b) (hi : i < l.length) : at0 l i < b := by
  unfold at0; rw [List.getD_eq_getElem?_getD, List.getElem?_eq_getElem hi]; exact h _ (List.getElem_mem hi)
theorem take_at0 {l : List Nat} {k : Nat} (h : k < l.length) : l.take (k + 1) = l.take k ++ [at0 l k] := by
  rw [List.take_succ_eq_append_getElem h]; simp [at0, h]

/-- v reads as the uint64s l in w. -/
structure RdAt (w : World) (A : Option Addr) (c : Nat) (l : List Nat) : Prop where
  cap : l.length ≤ c
  max : c ≤ 9223372036854775807
  len : l.length ≤ 100000
  ad : 0 < l.length → ∃ b o, A = some ⟨b, o, none⟩ ∧ ∀ j, j < l.length → w.cell? ⟨b, o + j, none⟩ = some (.int .u64 (at0 l j : Nat))
def Rd (w : World) (v : Value) (l : List Nat) : Prop := ∃ A c, v = .slice A l.length c ∧ RdAt w A c l
theorem RdAt.ext {w w' : World} {A : Option Addr} {c : Nat} {l : List Nat} (h : RdAt w A c l) (hx : Ext w w') : RdAt w' A c l :=
  ⟨h.cap, h.max, h.len, fun h0 => by
    obtain ⟨b, o, e, hc⟩ := h.ad h0
    exact ⟨b, o, e, fun j hj => hx.cellS (hc j hj)⟩⟩
theorem Rd.ext {w w' : World} {v : Value} {l : List Nat} (h : Rd w v l) (hx : Ext w w') : Rd w' v l := by
  obtain ⟨A, c, e, h⟩ := h
  exact ⟨A, c, e, h.ext hx⟩
def u64s (l : List Nat) : List Value := l.map fun x => .int .u64 (x : Nat)
theorem Rd.of_own {w : World} {base : Nat} {e : TypeId} {v : Value} {l : List Nat} (h : w.ownsRow base e 1 v l.length (u64s l)) (hl : l.length ≤ 100000) : Rd w v l := by
  rcases h.2 with ⟨rfl, h0⟩ | ⟨g, cap, cur, rfl, _, _, hn, hm, _, _⟩
  · exact ⟨none, 0, by rw [h0], by omega, by omega, hl, fun h => by omega⟩
  · refine ⟨some ⟨g, 0, none⟩, cap, rfl, hn, hm, hl, fun _ => ⟨g, 0, rfl, fun j hj => ?_⟩⟩
    have hj' : (u64s l)[j]? = some (.int .u64 (at0 l j : Nat)) := by simp [u64s, at0, hj]
    have := h.cells (g := g) rfl j _ hj'
    rwa [Addr.add_lit] at this

theorem Tryz.infoU : (Tryz.prog.info? 133).map (fun i => (i.zero, i.size, i.bytes)) = some (some (.int .u64 0), 1, 8) := by kernel_rfl

/-- A magnitude is returned. -/
def RetM (n : Nat) (w : World) (e : Ending) (w' : World) : Prop := ∃ v, e = .returned v ∧ Rd w' v (pc 1000000000 n) ∧ Ext w w'
/-- A magnitude is returned that lies in a block of the call's own. -/
def RetMF (n : Nat) (w : World) (e : Ending) (w' : World) : Prop := ∃ v, e = .returned v ∧ Rd w' v (pc 1000000000 n) ∧ Ext w w' ∧ ∀ b, v.ownBlock = some b → w.heap.size ≤ b
theorem RetMF.plain {n : Nat} {w : World} {e : Ending} {w' : World} (h : RetMF n w e w') : RetM n w e w' := by
  obtain ⟨v, h1, h2, h3, _⟩ := h
  exact ⟨v, h1, h2, h3⟩
end Go.Proofs.YtblijhokcjpeeaaGreatDoor
namespace Go.Proofs.YtblijhokcjpeeaaGreatDoor
open Go.RowKit Kl
/-- make([]uint64, 0, n): the equation and what it leaves. -/
theorem mk_u64 (n : Nat) (hn : n ≤ 200000) (c : Int) (hc : c = (n : Int)) (W : World) :
    (Instr.makeSlice 159 (.int .i64 0) (.int .i64 c)).run Tryz.prog W = .ok (.slice (some ⟨W.heap.size, 0, none⟩) 0 n) (W.alloc (.cells (madeCells #[.int .u64 0] n) 133)) := by
  subst hc
  obtain ⟨i0, hi, hz0, hz1, hz2⟩ := info_parts Tryz.infoU
  have h := run_make (P := Tryz.prog) W 159 133 i0 (.int .u64 0) Tryz.underlying159 hi hz0 .i64 .i64 0 n (Int.le_refl _) (by omega) (by rw [hz2]; omega) (by omega)
  rw [hz1, Nat.mul_one] at h
  simp only [Int.toNat_zero, Int.toNat_natCast] at h
  exact h
theorem own_mk (W : World) (base n : Nat) (hb : base ≤ W.heap.size) (hn : n ≤ 200000) :
    (W.alloc (.cells (madeCells #[.int .u64 0] n) 133)).ownsRow base 133 1 (.slice (some ⟨W.heap.size, 0, none⟩) 0 n) 0 [] :=
  World.ownsRow_made W _ n hb (by unfold maxLen; omega) (by rw [size_madeCells]; omega)
/-- make([]uint64, n). -/
theorem mk_u64n (n : Nat) (hn : n ≤ 200000) (c : Int) (hc : c = (n : Int)) (W : World) :
    (Instr.makeSlice 159 (.int .i64 c) (.int .i64 c)).run Tryz.prog W = .ok (.slice (some ⟨W.heap.size, 0, none⟩) n n) (W.alloc (.cells (madeCells #[.int .u64 0] n) 133)) := by
  subst hc
  obtain ⟨i0, hi, hz0, hz1, hz2⟩ := info_parts Tryz.infoU
  have h := run_make (P := Tryz.prog) W 159 133 i0 (.int .u64 0) Tryz.underlying159 hi hz0 .i64 .i64 n n (by omega) (by omega) (by rw [hz2]; omega) (by omega)
  rw [hz1, Nat.mul_one] at h
  simp only [Int.toNat_natCast] at h
  exact h
theorem own_mkn (W : World) (base n : Nat) (hb : base ≤ W.heap.size) (hn : n ≤ 200000) :
    (W.alloc (.cells (madeCells #[.int .u64 0] n) 133)).ownsRow base 133 1 (.slice (some ⟨W.heap.size, 0, none⟩) n n) n (u64s (List.replicate n 0)) := by
  have h := World.ownsRow_lit (w := W) (base := base) (e := 133) (size := 1) (madeCells #[.int .u64 0] n) n hb (by unfold maxLen; omega) (by rw [size_madeCells]; omega)
  rw [toList_madeCells_one] at h
  simpa [u64s] using h
end Go.Proofs.YtblijhokcjpeeaaGreatDoor
namespace Go.Proofs.YtblijhokcjpeeaaGreatDoor
open Go.RowKit Kl
section
variable {P : Program} {ops : Array Oper} {rest : List Oper} {o : Oper} {a : Act} {Q : Exit → Act → World → Prop}
/-- append of one uint64, which lies in a block of its own. -/
theorem wp_app1 {K : Act → World → Prop} (s x : Operand) (ho : o.op = .call { callee := .builtin .append, args := #[s, x], argTypes := #[159, 159] })
    (wr : World) (base : Nat) (v : Value) (n : Nat) (xs : List Nat) (hs : a.eval s = v) (hown : wr.ownsRow base 133 1 v n (u64s xs)) (hn : n < 200000) (z : Int) (y : Nat) (hz : z = (y : Int))
    (hx : a.eval x = .slice (some ⟨wr.heap.size, 0, none⟩) 1 1) (hbase : base ≤ wr.heap.size)
    (h : ∀ v' w', w'.ownsRow base 133 1 v' (n + 1) (u64s (xs ++ [y])) → (∀ w0, Ext w0 wr → w0.heap.size ≤ base → Ext w0 w') → K (a.put o.dst v') w') :
    o.wp Tryz.prog a (wr.alloc (.cells #[.int .u64 z] 133)) K Q := by
  obtain ⟨i0, hi, hz0, hz1, hz2⟩ := info_parts Tryz.infoU
  subst hz
  refine wp_append_own _ s x 159 ho base 133 i0 (.int .u64 0) 1 8 Tryz.underlying159 hi hz0 hz1 hz2 rfl (by omega) v n (u64s xs) hs (hown.alloc _) ⟨wr.heap.size, 0, none⟩ 1 1 [.int .u64 (y : Nat)] hx rfl ?_ ?_ ?_ ?_ ?_ ?_
  · intro j u hu
    match j, hu with
    | 0, hu =>
      simp only [List.getElem?_cons_zero, Option.some.injEq] at hu
      subst hu
      rw [Addr.add_lit, World.cell?_alloc_at _ _ _ _ (by simp)]
      rfl
    | j + 1, hu => simp at hu
  · intro u hu
    simp only [List.mem_singleton] at hu
    subst hu; rfl
  · unfold maxLen; omega
  · omega
  · simp; omega
  · intro v' w' h2 h3 _
    refine h v' w' (by simpa [u64s] using h2) fun w0 he hb => ?_
    exact (he.alloc _).grownOwn h3 (hown.alloc _) hb
theorem app1 (hgd : o.guard = none) (s x : Operand) (ho : o.op = .call { callee := .builtin .append, args := #[s, x], argTypes := #[159, 159] })
    (wr : World) (base : Nat) (v : Value) (n : Nat) (xs : List Nat) (hs : a.eval s = v) (hown : wr.ownsRow base 133 1 v n (u64s xs)) (hn : n < 200000) (z : Int) (y : Nat) (hz : z = (y : Int))
    (hx : a.eval x = .slice (some ⟨wr.heap.size, 0, none⟩) 1 1) (hbase : base ≤ wr.heap.size)
    (h : ∀ v' w', w'.ownsRow base 133 1 v' (n + 1) (u64s (xs ++ [y])) → (∀ w0, Ext w0 wr → w0.heap.size ≤ base → Ext w0 w') → wpList Tryz.prog ops Q rest (a.put o.dst v') w') :
    wpList Tryz.prog ops Q (o :: rest) a (wr.alloc (.cells #[.int .u64 z] 133)) :=
  wpList_plain hgd fun _ hK => wp_app1 s x ho wr base v n xs hs hown hn z y hz hx hbase fun v' w' h2 h3 => hK _ _ (h v' w' h2 h3)
/-- The same in a region that draws its order. -/
theorem step_app1 {K : Act → World → Prop} {E : Prop} (hgd : o.guard = none) (s x : Operand) (ho : o.op = .call { callee := .builtin .append, args := #[s, x], argTypes := #[159, 159] })
    (wr : World) (base : Nat) (v : Value) (n : Nat) (xs : List Nat) (hs : a.eval s = v) (hown : wr.ownsRow base 133 1 v n (u64s xs)) (hn : n < 200000) (z : Int) (y : Nat) (hz : z = (y : Int))
    (hx : a.eval x = .slice (some ⟨wr.heap.size, 0, none⟩) 1 1) (hbase : base ≤ wr.heap.size)
    (h : ∀ v' w', w'.ownsRow base 133 1 v' (n + 1) (u64s (xs ++ [y])) → (∀ w0, Ext w0 wr → w0.heap.size ≤ base → Ext w0 w') → K (a.put o.dst v') w') :
    if Region.wanted o (yielded ops a.tmps) = true then Oper.wp Tryz.prog o a (wr.alloc (.cells #[.int .u64 z] 133)) K Q else E := by
  have hw : Region.wanted o (yielded ops a.tmps) = true := by simp [Region.wanted, hgd]
  rw [if_pos hw]
  exact wp_app1 s x ho wr base v n xs hs hown hn z y hz hx hbase h
end
theorem own_ext {w w' : World} {base : Nat} {e : TypeId} {size : Nat} {v : Value} {n : Nat} {xs : List Value} (h : w.ownsRow base e size v n xs) (hx : Ext w w') : w'.ownsRow base e size v n xs :=
  h.kept (row := none) ⟨hx.os, hx.tape, hx.output, hx.size, fun k hk _ => hx.block k hk⟩ (by cases v.ownBlock <;> simp)
theorem own_drew {w : World} {base : Nat} {e : TypeId} {size : Nat} {v : Value} {n : Nat} {xs : List Value} (h : w.ownsRow base e size v n xs) : w.drew.ownsRow base e size v n xs := h
theorem ext_bs (l : Bs) (i j : Nat) : (⟨l.toArray⟩ : ByteArray).extract i j = ⟨((l.drop i).take (j - i)).toArray⟩ := by
  apply ByteArray.ext
  rw [ByteArray.data_extract]
  simp
theorem ext_hi (l : Bs) (k : Nat) : (⟨l.toArray⟩ : ByteArray).extract k l.length = ⟨(l.drop k).toArray⟩ := by
  rw [ext_bs, List.take_of_length_le (by simp)]
theorem ext_lo (l : Bs) (k : Nat) : (⟨l.toArray⟩ : ByteArray).extract 0 k = ⟨(l.take k).toArray⟩ := by
  rw [ext_bs]; simp
theorem ret_s {a : ByteArray} {b : Bs} (h : a = ⟨b.toArray⟩) : Ending.returned (.string a) = .returned (S b) := by rw [h]
end Go.Proofs.YtblijhokcjpeeaaGreatDoor

namespace Go.Proofs.YtblijhokcjpeeaaGreatDoor
open Go.RowKit Kl

/-! ### trim -/
def TrimInv (l : List Nat) (k : Nat) : Prop := k ≤ l.length ∧ ∀ j, k ≤ j → j < l.length → at0 l j = 0
theorem TrimInv.start (l : List Nat) : TrimInv l l.length := ⟨Nat.le_refl _, fun j h1 h2 => by omega⟩
theorem TrimInv.step {l : List Nat} {k : Nat} (h : TrimInv l k) (_h0 : k ≠ 0) (hx : at0 l (k - 1) = 0) : TrimInv l (k - 1) :=
  ⟨by have := h.1; omega, fun j h1 h2 => by
    by_cases e : j = k - 1
    · rw [e]; exact hx
    · exact h.2 j (by omega) h2⟩
theorem ofL_zeros {b : Nat} : ∀ {l : List Nat}, (∀ j, j < l.length → at0 l j = 0) → ofL b l = 0
  | [], _ => rfl
  | x :: l, h => by
    have hx : x = 0 := h 0 (by simp)
    have := ofL_zeros (b := b) (l := l) fun j hj => by have := h (j + 1) (by simpa using hj); simpa [at0] using this
    rw [ofL, this, hx]; simp
theorem TrimInv.sum {l : List Nat} {k b : Nat} (h : TrimInv l k) : ofL b (l.take k) = ofL b l := by
  conv => rhs; rw [← List.take_append_drop k l, ofL_append]
  rw [ofL_zeros (l := l.drop k)]
  · simp
  · intro j hj
    have := h.2 (k + j) (by omega) (by simp at hj; omega)
    simpa [at0] using this
theorem TrimInv.done {l : List Nat} {k : Nat} (h : TrimInv l k) (hl : ∀ x ∈ l, x < 1000000000) (hx : k = 0 ∨ at0 l (k - 1) ≠ 0) : l.take k = pc 1000000000 (ofL 1000000000 l) := by
  rw [← h.sum (b := 1000000000)]
  refine (pc_unique (by omega) (fun x hm => hl x (List.mem_of_mem_take hm)) ?_).symm
  intro hne
  rcases hx with rfl | hx
  · simp at hne
  · have hk := h.1
    have h0 : 0 < k := by
      rcases Nat.eq_zero_or_pos k with rfl | h0
      · simp at hne
      · exact h0
    rw [List.getLast_take]
    have e : l[k - 1]? = some (l[k - 1]'(by omega)) := List.getElem?_eq_getElem (by omega)
    rw [e]
    simp [at0, List.getD, e] at hx ⊢
    exact hx
theorem Rd.take {w : World} {A : Option Addr} {c : Nat} {l : List Nat} (h : RdAt w A c l) {k : Nat} (hk : k ≤ l.length) : Rd w (.slice A k c) (l.take k) := by
  have e : (l.take k).length = k := by rw [List.length_take]; omega
  refine ⟨A, c, by rw [e], by have := h.cap; omega, h.max, by have := h.len; omega, fun h0 => ?_⟩
  obtain ⟨b, o, e1, hc⟩ := h.ad (by omega)
  refine ⟨b, o, e1, fun j hj => ?_⟩
  have : at0 (l.take k) j = at0 l j := by
    rw [e] at hj
    simp [at0, hj]
  rw [this]
  exact hc j (by omega)

set_option maxHeartbeats 400000 in
theorem trim_c (l : List Nat) (v : Value) (w : World) (hv : Rd w v l) (hl : ∀ x ∈ l, x < 1000000000) :
    Calls Tryz.prog 182 #[v] w (RetM (ofL 1000000000 l) w) := by
  obtain ⟨A, c, rfl, hr⟩ := hv
  have hcap := hr.cap
  have hmax := hr.max
  have hlen := hr.len
  go_enter Tryz.func182, Tryz.ntmps182
  go_wp2
  go_loop [0] (fun v => ∃ k : Nat, TrimInv l k ∧ v = .slice A k c) (fun v => match v with | .slice _ n _ => n | _ => 0)
  case atStart => exact ⟨l.length, TrimInv.start l, rfl⟩
  case round =>
    obtain ⟨k, hk, rfl⟩ := hrel
    have hkl := hk.1
    by_cases h0 : k = 0
    · subst h0
      go_wp2
      go_ret
      exact ⟨_, rfl, by rw [← hk.done hl (.inl rfl)]; exact Rd.take hr (by omega), Ext.refl _⟩
    · obtain ⟨b, o, rfl, hc⟩ := hr.ad (by omega)
      have hg := hc (k - 1) (by omega)
      clear hc
      by_cases hx : at0 l (k - 1) = 0
      · rw [hx] at hg
        go_wp2
        go_round
        case rel => exact ⟨k - 1, hk.step h0 hx, rfl⟩
        case measure => simp; omega
      · have hx' : (((at0 l (k - 1) : Nat) : Int) == 0) = false := by simpa using hx
        go_wp2
        go_ret
        exact ⟨_, rfl, by rw [← hk.done hl (.inr hx)]; exact Rd.take hr (by omega), Ext.refl _⟩
set_option maxHeartbeats 400000 in
theorem trim_q (l : List Nat) (A : Option Addr) (c : Nat) (w : World) (hr : RdAt w A c l) (hl : ∀ x ∈ l, x < 1000000000) :
    Calls Tryz.prog 182 #[.slice A l.length c] w (fun e w' => e = .returned (.slice A (pc 1000000000 (ofL 1000000000 l)).length c) ∧ w' = w) := by
  have hcap := hr.cap
  have hmax := hr.max
  have hlen := hr.len
  go_enter Tryz.func182, Tryz.ntmps182
  go_wp2
  go_loop [0] (fun v => ∃ k : Nat, TrimInv l k ∧ v = .slice A k c) (fun v => match v with | .slice _ n _ => n | _ => 0)
  case atStart => exact ⟨l.length, TrimInv.start l, rfl⟩
  case round =>
    obtain ⟨k, hk, rfl⟩ := hrel
    have hkl := hk.1
    by_cases h0 : k = 0
    · subst h0
      go_wp2
      go_ret
      exact ⟨by rw [← hk.done hl (.inl rfl)]; simp, rfl⟩
    · obtain ⟨b, o, rfl, hc⟩ := hr.ad (by omega)
      have hg := hc (k - 1) (by omega)
      clear hc
      by_cases hx : at0 l (k - 1) = 0
      · rw [hx] at hg
        go_wp2
        go_round
        case rel => exact ⟨k - 1, hk.step h0 hx, rfl⟩
        case measure => simp; omega
      · have hx' : (((at0 l (k - 1) : Nat) : Int) == 0) = false := by simpa using hx
        go_wp2
        go_ret
        exact ⟨by rw [← hk.done hl (.inr hx)]; show Ending.returned (.slice _ k c) = .returned (.slice _ (l.take k).length c); rw [List.length_take, Nat.min_eq_left hkl], rfl⟩
theorem pc_take {l : List Nat} (hl : ∀ x ∈ l, x < 1000000000) : ∃ k, k ≤ l.length ∧ pc 1000000000 (ofL 1000000000 l) = l.take k := by
  obtain ⟨k, hk, hx⟩ : ∃ k, TrimInv l k ∧ (k = 0 ∨ at0 l (k - 1) ≠ 0) := by
    have : ∀ n k, k ≤ n → TrimInv l k → ∃ k, TrimInv l k ∧ (k = 0 ∨ at0 l (k - 1) ≠ 0) := by
      intro n
      induction n with
      | zero => intro k hk h; exact ⟨k, h, .inl (by omega)⟩
      | succ n ih =>
        intro k hk h
        by_cases h0 : k = 0
        · exact ⟨k, h, .inl h0⟩
        · by_cases hx : at0 l (k - 1) = 0
          · exact ih (k - 1) (by omega) (h.step h0 hx)
          · exact ⟨k, h, .inr hx⟩
    exact this l.length l.length (Nat.le_refl _) (TrimInv.start l)
  exact ⟨k, hk.1, (hk.done hl hx).symm⟩
theorem RdAt.pc {w : World} {A : Option Addr} {c : Nat} {l : List Nat} (h : RdAt w A c l) (hl : ∀ x ∈ l, x < 1000000000) : RdAt w A c (pc 1000000000 (ofL 1000000000 l)) := by
  obtain ⟨k, hk, e⟩ := pc_take hl
  obtain ⟨A', c', e1, h1⟩ := Rd.take h hk
  simp only [Value.slice.injEq] at e1
  obtain ⟨rfl, _, rfl⟩ := e1
  rw [e]; exact h1
theorem trim_f (l : List Nat) (v : Value) (w : World) (hv : Rd w v l) (hl : ∀ x ∈ l, x < 1000000000) :
    Calls Tryz.prog 182 #[v] w (fun e w' => ∃ v', e = .returned v' ∧ Rd w' v' (pc 1000000000 (ofL 1000000000 l)) ∧ Ext w w' ∧ v'.ownBlock = v.ownBlock) := by
  obtain ⟨A, c, rfl, hr⟩ := hv
  refine (trim_q l A c w hr hl).mono ?_
  rintro e w' ⟨rfl, rfl⟩
  exact ⟨_, rfl, ⟨A, c, rfl, hr.pc hl⟩, Ext.refl _, by cases A <;> rfl⟩
theorem own_ge {w : World} {base : Nat} {e : TypeId} {size : Nat} {v : Value} {n : Nat} {xs : List Value} (h : w.ownsRow base e size v n xs) (b : Nat) (hb : v.ownBlock = some b) : base ≤ b := by
  rcases h.2 with ⟨rfl, _⟩ | ⟨g, cap, cur, rfl, hg, _⟩
  · cases hb
  · simp only [Value.ownBlock, Option.some.injEq] at hb
    omega
end Go.Proofs.YtblijhokcjpeeaaGreatDoor

namespace Go.Proofs.YtblijhokcjpeeaaGreatDoor
open Go.RowKit Kl

/-! ### plus -/
structure PlusInv (a b out : List Nat) (k c : Nat) : Prop where
  le : k ≤ a.length
  len : out.length = k
  lt : ∀ x ∈ out, x < 1000000000
  c1 : c ≤ 1
  sum : ofL 1000000000 out + 1000000000 ^ k * c = ofL 1000000000 (a.take k) + ofL 1000000000 (b.take k)
theorem PlusInv.start (a b : List Nat) : PlusInv a b [] 0 0 := ⟨Nat.zero_le _, rfl, by simp, by omega, by simp [ofL]⟩
theorem PlusInv.step {a b out : List Nat} {k c s : Nat} (h : PlusInv a b out k c) (hk : k < a.length) (ha : ∀ x ∈ a, x < 1000000000) (hb : ∀ x ∈ b, x < 1000000000)
    (hs : s = c + at0 a k + (if k < b.length then at0 b k else 0)) : PlusInv a b (out ++ [s % 1000000000]) (k + 1) (s / 1000000000) := by
  have h1 := at0_lt ha hk
  have hs2 : s ≤ 1999999999 := by
    have := h.c1
    split at hs
    · have := at0_lt hb ‹k < b.length›; omega
    · omega
  refine ⟨hk, by simp [h.len], ?_, by omega, ?_⟩
  · intro x hx
    rcases List.mem_append.1 hx with hx | hx
    · exact h.lt x hx
    · simp at hx; subst hx; omega
  · rw [ofL_snoc, h.len, Nat.pow_succ, take_at0 hk, ofL_snoc, List.length_take, Nat.min_eq_left h.le]
    have e : ofL 1000000000 (b.take (k + 1)) = ofL 1000000000 (b.take k) + 1000000000 ^ k * (if k < b.length then at0 b k else 0) := by
      by_cases hkb : k < b.length
      · rw [if_pos hkb, take_at0 hkb, ofL_snoc, List.length_take, Nat.min_eq_left (by omega)]
      · rw [if_neg hkb, List.take_of_length_le (by omega), List.take_of_length_le (by omega)]; simp
    rw [e]
    have hm : s % 1000000000 + 1000000000 * (s / 1000000000) = c + at0 a k + (if k < b.length then at0 b k else 0) := by omega
    have hsum := h.sum
    generalize (if k < b.length then at0 b k else 0) = y at *
    generalize s % 1000000000 = r at *
    generalize s / 1000000000 = q at *
    generalize 1000000000 ^ k = p at *
    have : p * r + p * 1000000000 * q = p * c + p * at0 a k + p * y := by
      rw [Nat.mul_assoc, ← Nat.mul_add, hm, Nat.mul_add, Nat.mul_add]
    omega
theorem PlusInv.done {a b out : List Nat} {c : Nat} (h : PlusInv a b out a.length c) (hab : b.length ≤ a.length) :
    ofL 1000000000 (out ++ [c]) = ofL 1000000000 a + ofL 1000000000 b ∧ ∀ x ∈ out ++ [c], x < 1000000000 := by
  have hs := h.sum
  rw [List.take_length, List.take_of_length_le hab] at hs
  refine ⟨by rw [ofL_snoc, h.len, hs], fun x hx => ?_⟩
  rcases List.mem_append.1 hx with hx | hx
  · exact h.lt x hx
  · simp at hx; subst hx; have := h.c1; omega

set_option maxRecDepth 100000 in
set_option maxHeartbeats 1000000 in
theorem plus_ge (a b : List Nat) (u v : Value) (w : World) (hu : Rd w u a) (hv : Rd w v b) (hla : a.length < 50000) (ha : ∀ x ∈ a, x < 1000000000) (hb : ∀ x ∈ b, x < 1000000000) (hlt : ¬a.length < b.length) :
    Calls Tryz.prog 120 #[u, v] w (RetM (ofL 1000000000 a + ofL 1000000000 b) w) := by
  obtain ⟨A, ca, rfl, hra⟩ := hu
  obtain ⟨B, cb, rfl, hrb⟩ := hv
  have hca := hra.cap
  have hcb := hrb.cap
  have hma := hra.max
  have hmb := hrb.max
  have hmk := mk_u64 (a.length + 1) (by omega) ((a.length : Int) + 1) (by omega)
  have how := own_mk w w.heap.size (a.length + 1) (Nat.le_refl _) (by omega)
  go_enter Tryz.func120, Tryz.ntmps120
  go_wp2
  clear hmk
  go_loopw [5, 6, 22] (fun v c i wr => ∃ (k : Nat) (out : List Nat) (cn : Nat), PlusInv a b out k cn ∧ i = .int .i64 k ∧ c = .int .u64 cn ∧ wr.ownsRow w.heap.size 133 1 v k (u64s out) ∧ Ext w wr)
    (fun _ _ i _ => a.length - (intOf i).toNat)
  case atStart => exact ⟨0, [], 0, PlusInv.start a b, rfl, rfl, how, (Ext.refl w).alloc _⟩
  case round =>
    obtain ⟨k, out, cn, hP, rfl, rfl, hown, hext⟩ := hrel
    clear how
    have hkl := hP.le
    have hc1 := hP.c1
    have hsz := hext.size
    by_cases hk : k < a.length
    · obtain ⟨ba, oa, rfl, hcella⟩ := hra.ad (by omega)
      have hg := hext.cellS (hcella k hk)
      have hxa := at0_lt ha hk
      clear hcella
      by_cases hkb : k < b.length
      · obtain ⟨bb, ob, rfl, hcellb⟩ := hrb.ad (by omega)
        have hgb := hext.cellS (hcellb k hkb)
        have hxb := at0_lt hb hkb
        clear hcellb
        go_wp2_with (at_builtin; refine app1 rfl _ _ rfl wr w.heap.size u5 k out rfl hown (by omega) _ ((cn + at0 a k + at0 b k) % 1000000000) (by omega) rfl hsz ?_; intro v1 w1 hown1 hx1)
        go_roundw
        case rel => exact ⟨k + 1, _, _, hP.step hk ha hb (by rw [if_pos hkb]), by go_num, by go_num, hown1, hx1 _ hext (Nat.le_refl _)⟩
        case measure => simp [intOf]; omega
      · go_wp2_with (at_builtin; refine app1 rfl _ _ rfl wr w.heap.size u5 k out rfl hown (by omega) _ ((cn + at0 a k) % 1000000000) (by omega) rfl hsz ?_; intro v1 w1 hown1 hx1)
        go_roundw
        case rel => exact ⟨k + 1, _, _, hP.step (s := cn + at0 a k) hk ha hb (by rw [if_neg hkb]; rfl), by go_num, by go_num, hown1, hx1 _ hext (Nat.le_refl _)⟩
        case measure => simp [intOf]; omega
    · obtain rfl : k = a.length := by omega
      have hd := hP.done (by omega)
      have hol := hP.len
      go_wp2_with (at_builtin; refine app1 rfl _ _ rfl wr w.heap.size u5 _ out rfl hown (by omega) _ cn rfl rfl hsz ?_; intro v1 w1 hown1 hx1)
      have hrd : Rd w1 v1 (out ++ [cn]) := Rd.of_own (by simpa [hol] using hown1) (by simp; omega)
      refine (trim_c _ _ _ hrd hd.2).mono ?_
      rintro e w2 ⟨v2, rfl, hv2, hx2⟩
      go_wp2
      go_ret
      exact ⟨v2, rfl, by rw [← hd.1]; exact hv2, (hx1 _ hext (Nat.le_refl _)).trans hx2⟩
set_option maxRecDepth 100000 in
set_option maxHeartbeats 1000000 in
theorem plus_lt (a b : List Nat) (u v : Value) (w : World) (hu : Rd w u a) (hv : Rd w v b) (hla : a.length < 50000) (ha : ∀ x ∈ a, x < 1000000000) (hb : ∀ x ∈ b, x < 1000000000) (hlt : b.length < a.length) :
    Calls Tryz.prog 120 #[v, u] w (RetM (ofL 1000000000 a + ofL 1000000000 b) w) := by
  obtain ⟨A, ca, rfl, hra⟩ := hu
  obtain ⟨B, cb, rfl, hrb⟩ := hv
  have hca := hra.cap
  have hcb := hrb.cap
  have hma := hra.max
  have hmb := hrb.max
  have hmk := mk_u64 (a.length + 1) (by omega) ((a.length : Int) + 1) (by omega)
  have how := own_mk w w.heap.size (a.length + 1) (Nat.le_refl _) (by omega)
  go_enter Tryz.func120, Tryz.ntmps120
  go_wp2
  clear hmk
  go_loopw [5, 6, 22] (fun v c i wr => ∃ (k : Nat) (out : List Nat) (cn : Nat), PlusInv a b out k cn ∧ i = .int .i64 k ∧ c = .int .u64 cn ∧ wr.ownsRow w.heap.size 133 1 v k (u64s out) ∧ Ext w wr)
    (fun _ _ i _ => a.length - (intOf i).toNat)
  case atStart => exact ⟨0, [], 0, PlusInv.start a b, rfl, rfl, how, (Ext.refl w).alloc _⟩
  case round =>
    obtain ⟨k, out, cn, hP, rfl, rfl, hown, hext⟩ := hrel
    clear how
    have hkl := hP.le
    have hc1 := hP.c1
    have hsz := hext.size
    by_cases hk : k < a.length
    · obtain ⟨ba, oa, rfl, hcella⟩ := hra.ad (by omega)
      have hg := hext.cellS (hcella k hk)
      have hxa := at0_lt ha hk
      clear hcella
      by_cases hkb : k < b.length
      · obtain ⟨bb, ob, rfl, hcellb⟩ := hrb.ad (by omega)
        have hgb := hext.cellS (hcellb k hkb)
        have hxb := at0_lt hb hkb
        clear hcellb
        go_wp2_with (at_builtin; refine app1 rfl _ _ rfl wr w.heap.size u5 k out rfl hown (by omega) _ ((cn + at0 a k + at0 b k) % 1000000000) (by omega) rfl hsz ?_; intro v1 w1 hown1 hx1)
        go_roundw
        case rel => exact ⟨k + 1, _, _, hP.step hk ha hb (by rw [if_pos hkb]), by go_num, by go_num, hown1, hx1 _ hext (Nat.le_refl _)⟩
        case measure => simp [intOf]; omega
      · go_wp2_with (at_builtin; refine app1 rfl _ _ rfl wr w.heap.size u5 k out rfl hown (by omega) _ ((cn + at0 a k) % 1000000000) (by omega) rfl hsz ?_; intro v1 w1 hown1 hx1)
        go_roundw
        case rel => exact ⟨k + 1, _, _, hP.step (s := cn + at0 a k) hk ha hb (by rw [if_neg hkb]; rfl), by go_num, by go_num, hown1, hx1 _ hext (Nat.le_refl _)⟩
        case measure => simp [intOf]; omega
    · obtain rfl : k = a.length := by omega
      have hd := hP.done (by omega)
      have hol := hP.len
      go_wp2_with (at_builtin; refine app1 rfl _ _ rfl wr w.heap.size u5 _ out rfl hown (by omega) _ cn rfl rfl hsz ?_; intro v1 w1 hown1 hx1)
      have hrd : Rd w1 v1 (out ++ [cn]) := Rd.of_own (by simpa [hol] using hown1) (by simp; omega)
      refine (trim_c _ _ _ hrd hd.2).mono ?_
      rintro e w2 ⟨v2, rfl, hv2, hx2⟩
      go_wp2
      go_ret
      exact ⟨v2, rfl, by rw [← hd.1]; exact hv2, (hx1 _ hext (Nat.le_refl _)).trans hx2⟩
theorem plus_c (a b : List Nat) (u v : Value) (w : World) (hu : Rd w u a) (hv : Rd w v b) (hla : a.length < 50000) (hlb : b.length < 50000) (ha : ∀ x ∈ a, x < 1000000000) (hb : ∀ x ∈ b, x < 1000000000) :
    Calls Tryz.prog 120 #[u, v] w (RetM (ofL 1000000000 a + ofL 1000000000 b) w) := by
  by_cases h : a.length < b.length
  · rw [Nat.add_comm]; exact plus_lt b a v u w hv hu hlb hb ha h
  · exact plus_ge a b u v w hu hv hla ha hb h
end Go.Proofs.YtblijhokcjpeeaaGreatDoor
/- integer.minus: the difference of magnitudes. -/
namespace Go.Proofs.YtblijhokcjpeeaaGreatDoor
open Go.RowKit Kl

structure MinusInv (a b out : List Nat) (k c : Nat) : Prop where
  le : k ≤ a.length
  len : out.length = k
  lt : ∀ x ∈ out, x < 1000000000
  c1 : c ≤ 1
  sum : ofL 1000000000 out + ofL 1000000000 (b.take k) = ofL 1000000000 (a.take k) + 1000000000 ^ k * c
theorem MinusInv.start (a b : List Nat) : MinusInv a b [] 0 0 := ⟨Nat.zero_le _, rfl, by simp, by omega, by simp [ofL]⟩
theorem MinusInv.step {a b out : List Nat} {k c d c2 : Nat} (h : MinusInv a b out k c) (hk : k < a.length) (hd : d < 1000000000) (hc2 : c2 ≤ 1)
    (he : d + (c + (if k < b.length then at0 b k else 0)) = at0 a k + 1000000000 * c2) : MinusInv a b (out ++ [d]) (k + 1) c2 := by
  refine ⟨hk, by simp [h.len], ?_, hc2, ?_⟩
  · intro x hx
    rcases List.mem_append.1 hx with hx | hx
    · exact h.lt x hx
    · simp at hx; subst hx; exact hd
  · rw [ofL_snoc, h.len, Nat.pow_succ, take_at0 hk, ofL_snoc, List.length_take, Nat.min_eq_left h.le]
    have e : ofL 1000000000 (b.take (k + 1)) = ofL 1000000000 (b.take k) + 1000000000 ^ k * (if k < b.length then at0 b k else 0) := by
      by_cases hkb : k < b.length
      · rw [if_pos hkb, take_at0 hkb, ofL_snoc, List.length_take, Nat.min_eq_left (by omega)]
      · rw [if_neg hkb, List.take_of_length_le (by omega), List.take_of_length_le (by omega)]; simp
    rw [e]
    have hsum := h.sum
    generalize (if k < b.length then at0 b k else 0) = y at *
    generalize 1000000000 ^ k = p at *
    have : p * d + (p * c + p * y) = p * at0 a k + p * 1000000000 * c2 := by
      rw [Nat.mul_assoc, ← Nat.mul_add, ← Nat.mul_add, ← Nat.mul_add, he]
    omega
theorem MinusInv.done {a b out : List Nat} {c : Nat} (h : MinusInv a b out a.length c) (hab : b.length ≤ a.length) (hle : ofL 1000000000 b ≤ ofL 1000000000 a) :
    ofL 1000000000 out = ofL 1000000000 a - ofL 1000000000 b := by
  have hs := h.sum
  rw [List.take_length, List.take_of_length_le hab] at hs
  have hlt := ofL_lt h.lt
  rw [h.len] at hlt
  have hc : c = 0 := by
    rcases Nat.eq_zero_or_pos c with e | e
    · exact e
    · have e1 : c = 1 := by have := h.c1; omega
      rw [e1] at hs; omega
  rw [hc] at hs; omega

set_option maxRecDepth 100000 in
set_option maxHeartbeats 1000000 in
theorem minus_f (a b : List Nat) (u v : Value) (w : World) (hu : Rd w u a) (hv : Rd w v b) (hla : a.length < 50000) (ha : ∀ x ∈ a, x < 1000000000) (hb : ∀ x ∈ b, x < 1000000000)
    (hab : b.length ≤ a.length) (hle : ofL 1000000000 b ≤ ofL 1000000000 a) :
    Calls Tryz.prog 123 #[u, v] w (RetMF (ofL 1000000000 a - ofL 1000000000 b) w) := by
  obtain ⟨A, ca, rfl, hra⟩ := hu
  obtain ⟨B, cb, rfl, hrb⟩ := hv
  have hca := hra.cap
  have hcb := hrb.cap
  have hma := hra.max
  have hmb := hrb.max
  have HL := Lib.hid hle
  clear hle
  have hmk := mk_u64 a.length (by omega) (a.length : Int) rfl
  have how := own_mk w w.heap.size a.length (Nat.le_refl _) (by omega)
  go_enter Tryz.func123, Tryz.ntmps123
  go_wp2
  clear hmk
  go_loopw [5, 6, 15] (fun v c i wr => ∃ (k : Nat) (out : List Nat) (cn : Nat), MinusInv a b out k cn ∧ i = .int .i64 k ∧ c = .int .u64 cn ∧ wr.ownsRow w.heap.size 133 1 v k (u64s out) ∧ Ext w wr)
    (fun _ _ i _ => a.length - (intOf i).toNat)
  case atStart => exact ⟨0, [], 0, MinusInv.start a b, rfl, rfl, how, (Ext.refl w).alloc _⟩
  case round =>
    obtain ⟨k, out, cn, hP, rfl, rfl, hown, hext⟩ := hrel
    clear how
    have hkl := hP.le
    have hc1 := hP.c1
    have hsz := hext.size
    by_cases hk : k < a.length
    · obtain ⟨ba, oa, rfl, hcella⟩ := hra.ad (by omega)
      have hg := hext.cellS (hcella k hk)
      have hxa := at0_lt ha hk
      clear hcella
      by_cases hkb : k < b.length
      · obtain ⟨bb, ob, rfl, hcellb⟩ := hrb.ad (by omega)
        have hgb := hext.cellS (hcellb k hkb)
        have hxb := at0_lt hb hkb
        clear hcellb
        by_cases hxy : at0 a k < cn + at0 b k
        · go_wp2_with (at_builtin; refine app1 rfl _ _ rfl wr w.heap.size u5 k out rfl hown (by omega) _ (at0 a k + 1000000000 - (cn + at0 b k)) (by omega) rfl hsz ?_; intro v1 w1 hown1 hx1)
          go_roundw
          case rel => exact ⟨k + 1, _, 1, hP.step hk (by omega) (by omega) (by rw [if_pos hkb]; omega), by go_num, rfl, hown1, hx1 _ hext (Nat.le_refl _)⟩
          case measure => simp [intOf]; omega
        · go_wp2_with (at_builtin; refine app1 rfl _ _ rfl wr w.heap.size u5 k out rfl hown (by omega) _ (at0 a k - (cn + at0 b k)) (by omega) rfl hsz ?_; intro v1 w1 hown1 hx1)
          go_roundw
          case rel => exact ⟨k + 1, _, 0, hP.step hk (by omega) (by omega) (by rw [if_pos hkb]; omega), by go_num, rfl, hown1, hx1 _ hext (Nat.le_refl _)⟩
          case measure => simp [intOf]; omega
      · by_cases hxy : at0 a k < cn
        · go_wp2_with (at_builtin; refine app1 rfl _ _ rfl wr w.heap.size u5 k out rfl hown (by omega) _ (at0 a k + 1000000000 - cn) (by omega) rfl hsz ?_; intro v1 w1 hown1 hx1)
          go_roundw
          case rel => exact ⟨k + 1, _, 1, hP.step hk (by omega) (by omega) (by rw [if_neg hkb]; omega), by go_num, rfl, hown1, hx1 _ hext (Nat.le_refl _)⟩
          case measure => simp [intOf]; omega
        · go_wp2_with (at_builtin; refine app1 rfl _ _ rfl wr w.heap.size u5 k out rfl hown (by omega) _ (at0 a k - cn) (by omega) rfl hsz ?_; intro v1 w1 hown1 hx1)
          go_roundw
          case rel => exact ⟨k + 1, _, 0, hP.step hk (by omega) (by omega) (by rw [if_neg hkb]; omega), by go_num, rfl, hown1, hx1 _ hext (Nat.le_refl _)⟩
          case measure => simp [intOf]; omega
    · obtain rfl : k = a.length := by omega
      have hol := hP.len
      go_wp2_with fail
      have hrd : Rd wr u5 out := Rd.of_own (by simpa [hol] using hown) (by omega)
      refine (trim_f _ _ _ hrd hP.lt).mono ?_
      rintro e w2 ⟨v2, rfl, hv2, hx2, ho2⟩
      have HO := Lib.hid ho2
      clear ho2
      go_wp2
      go_ret
      exact ⟨v2, rfl, by rw [← hP.done hab HL.out]; exact hv2, hext.trans hx2, fun b hb => own_ge hown b (by rw [← HO.out]; exact hb)⟩
theorem minus_c (a b : List Nat) (u v : Value) (w : World) (hu : Rd w u a) (hv : Rd w v b) (hla : a.length < 50000) (ha : ∀ x ∈ a, x < 1000000000) (hb : ∀ x ∈ b, x < 1000000000)
    (hab : b.length ≤ a.length) (hle : ofL 1000000000 b ≤ ofL 1000000000 a) :
    Calls Tryz.prog 123 #[u, v] w (RetM (ofL 1000000000 a - ofL 1000000000 b) w) :=
  (minus_f a b u v w hu hv hla ha hb hab hle).mono fun _ _ h => h.plain
end Go.Proofs.YtblijhokcjpeeaaGreatDoor
/- integer.order: magnitudes are compared. -/
namespace Go.Proofs.YtblijhokcjpeeaaGreatDoor
open Go.RowKit Kl

def cmpN (x y : Nat) : Int := if x < y then -1 else if x = y then 0 else 1
theorem cmpN_lt {x y : Nat} (h : x < y) : cmpN x y = -1 := by unfold cmpN; rw [if_pos h]
theorem cmpN_gt {x y : Nat} (h : y < x) : cmpN x y = 1 := by unfold cmpN; rw [if_neg (by omega), if_neg (by omega)]
theorem cmpN_eq {x y : Nat} (h : x = y) : cmpN x y = 0 := by unfold cmpN; rw [if_neg (by omega), if_pos h]
theorem ret_i {a b : Int} (h : b = a) : Ending.returned (.int .i64 a) = .returned (.int .i64 b) := by rw [h]
/-- An int is returned. -/
def RetI (n : Int) (w : World) (e : Ending) (w' : World) : Prop := e = .returned (.int .i64 n) ∧ Ext w w'
theorem drop_at0 {l : List Nat} {k : Nat} (h : k < l.length) : l.drop k = at0 l k :: l.drop (k + 1) := by
  rw [List.drop_eq_getElem_cons h]; simp [at0, h]

set_option maxRecDepth 100000 in
set_option maxHeartbeats 1000000 in
theorem order_c (a b : List Nat) (u v : Value) (w : World) (hu : Rd w u a) (hv : Rd w v b) (ha : ∀ x ∈ a, x < 1000000000) (hb : ∀ x ∈ b, x < 1000000000) (hta : Trim a) (htb : Trim b) :
    Calls Tryz.prog 122 #[u, v] w (RetI (cmpN (ofL 1000000000 a) (ofL 1000000000 b)) w) := by
  obtain ⟨A, ca, rfl, hra⟩ := hu
  obtain ⟨B, cb, rfl, hrb⟩ := hv
  have hca := hra.cap
  have hcb := hrb.cap
  have hma := hra.max
  have hmb := hrb.max
  have hla := hra.len
  have hlb := hrb.len
  by_cases hab : a.length = b.length
  · have hne : (((a.length : Nat) : Int) != (b.length : Nat)) = false := by simp [hab]
    go_enter Tryz.func122, Tryz.ntmps122
    have HAB := Lib.hid hab
    clear hab
    go_wp2
    go_loopw [5] (fun i wr => ∃ z : Int, -1 ≤ z ∧ z < a.length ∧ a.drop (z + 1).toNat = b.drop (z + 1).toNat ∧ i = .int .i64 z ∧ Ext w wr) (fun i _ => (intOf i + 1).toNat)
    case atStart => exact ⟨(a.length : Int) - 1, by omega, by omega, by rw [show ((a.length : Int) - 1 + 1).toNat = a.length by omega, List.drop_length, HAB.out, List.drop_length], rfl, Ext.refl w⟩
    case round =>
      obtain ⟨z, hz1, hz2, hd, rfl, hext⟩ := hrel
      have HD := Lib.hid hd
      clear hd
      by_cases h0 : z < 0
      · go_wp2
        go_ret
        have e : a = b := by have := HD.out; rw [show (z + 1).toNat = 0 by omega] at this; simpa using this
        exact ⟨ret_i (by rw [e, cmpN_eq rfl]), hext⟩
      · obtain ⟨n, rfl⟩ := Int.eq_ofNat_of_zero_le (show 0 ≤ z by omega)
        have hk1 : n < a.length := by omega
        have hk2 : n < b.length := by have := HAB.out; omega
        obtain ⟨ba, oa, rfl, hcella⟩ := hra.ad (by omega)
        have hga := hext.cellS (hcella n hk1)
        obtain ⟨bb, ob, rfl, hcellb⟩ := hrb.ad (by omega)
        have hgb := hext.cellS (hcellb n hk2)
        have hxa := at0_lt ha hk1
        have hxb := at0_lt hb hk2
        have hd2 : a.drop (n + 1) = b.drop (n + 1) := by have := HD.out; rwa [show ((n : Int) + 1).toNat = n + 1 by omega] at this
        have HD2 := Lib.hid hd2
        clear hcella hcellb HD hd2
        rcases Nat.lt_trichotomy (at0 a n) (at0 b n) with hx | hx | hx
        · have h1 : (((at0 a n : Nat) : Int) != (at0 b n : Nat)) = true := by rw [bne_iff_ne]; omega
          go_wp2_with fail
          go_quiet (fail)
          go_wp2_with fail
          go_quiet (fail)
          go_wp2
          go_ret
          exact ⟨ret_i (cmpN_lt (ofL_lt_of_at n ha hb HAB.out hk1 HD2.out hx)), (hext.drewN _).drewN _⟩
        · have h1 : (((at0 a n : Nat) : Int) != (at0 b n : Nat)) = false := by simp [hx]
          have HX := Lib.hid hx
          clear hx
          go_wp2_with fail
          go_quiet (fail)
          go_wp2
          go_roundw
          case rel =>
            refine ⟨(n : Int) - 1, by omega, by omega, ?_, by go_num, hext.drewN _⟩
            rw [show ((n : Int) - 1 + 1).toNat = n by omega, drop_at0 hk1, drop_at0 hk2, HX.out, HD2.out]
          case measure => simp [intOf]
        · have h1 : (((at0 a n : Nat) : Int) != (at0 b n : Nat)) = true := by rw [bne_iff_ne]; omega
          go_wp2_with fail
          go_quiet (fail)
          go_wp2_with fail
          go_quiet (fail)
          go_wp2
          go_ret
          exact ⟨ret_i (cmpN_gt (ofL_lt_of_at n hb ha HAB.out.symm hk2 HD2.out.symm hx)), (hext.drewN _).drewN _⟩
  · have hne : (((a.length : Nat) : Int) != (b.length : Nat)) = true := by rw [bne_iff_ne]; omega
    by_cases hlt : a.length < b.length
    · go_enter Tryz.func122, Tryz.ntmps122
      go_wp2
      go_ret
      exact ⟨ret_i (cmpN_lt (ofL_lt_of_length (by omega) ha htb hlt)), Ext.refl w⟩
    · go_enter Tryz.func122, Tryz.ntmps122
      go_wp2
      go_ret
      exact ⟨ret_i (cmpN_gt (ofL_lt_of_length (by omega) hb hta (by omega))), Ext.refl w⟩
end Go.Proofs.YtblijhokcjpeeaaGreatDoor
namespace Go.Proofs.YtblijhokcjpeeaaGreatDoor
open Go.RowKit Kl

theorem ofL_set {b : Nat} : ∀ {l : List Nat} {j : Nat} (y : Nat), j < l.length → ofL b (l.set j y) + b ^ j * at0 l j = ofL b l + b ^ j * y
  | x :: l, 0, y, _ => by simp [ofL, at0]; omega
  | x :: l, j + 1, y, h => by
    have ih := ofL_set (b := b) (l := l) (j := j) y (by simpa using h)
    have e : at0 (x :: l) (j + 1) = at0 l j := by simp [at0]
    rw [List.set_cons_succ, e]
    simp only [ofL, Nat.pow_succ]
    generalize ofL b (l.set j y) = p at *
    generalize ofL b l = q at *
    generalize at0 l j = r at *
    have : b * (p + b ^ j * r) = b * (q + b ^ j * y) := by rw [ih]
    rw [Nat.mul_add, Nat.mul_add] at this
    rw [Nat.mul_comm (b ^ j) b, Nat.mul_assoc, Nat.mul_assoc]
    omega
theorem u64s_set (l : List Nat) (j y : Nat) : (u64s l).set j (.int .u64 (y : Nat)) = u64s (l.set j y) := by simp [u64s, List.map_set]
theorem mem_set_lt {l : List Nat} {j y b : Nat} (h : ∀ x ∈ l, x < b) (hy : y < b) : ∀ x ∈ l.set j y, x < b := by
  intro x hx
  rcases List.mem_or_eq_of_mem_set hx with h1 | h1
  · exact h x h1
  · rw [h1]; exact hy
theorem mul_lt_sq {x y : Nat} (hx : x < 1000000000) (hy : y < 1000000000) : x * y ≤ 999999998000000001 := by
  have h1 : x * y ≤ 999999999 * 999999999 := Nat.mul_le_mul (by omega) (by omega)
  omega
/-- The row that is filled, n its length. -/
structure TimesOut (n : Nat) (out : List Nat) (v : Nat) : Prop where
  len : out.length = n
  lt : ∀ x ∈ out, x < 1000000000
  sum : ofL 1000000000 out = v
/-- Within a round: k pieces of b are done, c is carried. -/
structure TimesIn (n i k x : Nat) (b out : List Nat) (c v : Nat) : Prop where
  len : out.length = n
  lt : ∀ x ∈ out, x < 1000000000
  le : k ≤ b.length
  cl : c < 1000000000
  sum : ofL 1000000000 out + 1000000000 ^ (i + k) * c = v + 1000000000 ^ i * (x * ofL 1000000000 (b.take k))
theorem TimesIn.start {n i x v : Nat} {b out : List Nat} (h : TimesOut n out v) : TimesIn n i 0 x b out 0 v :=
  ⟨h.len, h.lt, Nat.zero_le _, by omega, by simp [ofL, h.sum]⟩
theorem TimesIn.step {n i k x c v s : Nat} {b out : List Nat} (h : TimesIn n i k x b out c v) (hk : k < b.length) (hn : i + k < n) (hx : x < 1000000000) (hb : ∀ y ∈ b, y < 1000000000)
    (hs : s = c + (at0 out (i + k) + x * at0 b k)) : TimesIn n i (k + 1) x b (out.set (i + k) (s % 1000000000)) (s / 1000000000) v := by
  have h1 := at0_lt hb hk
  have h2 := at0_lt h.lt (show i + k < out.length by rw [h.len]; exact hn)
  have h3 := mul_lt_sq hx h1
  have h4 := h.cl
  refine ⟨by rw [List.length_set, h.len], mem_set_lt h.lt (by omega), hk, by omega, ?_⟩
  have e := ofL_set (b := 1000000000) (l := out) (j := i + k) (s % 1000000000) (by rw [h.len]; exact hn)
  have hsum := h.sum
  rw [take_at0 hk, ofL_snoc, List.length_take, Nat.min_eq_left h.le, Nat.mul_add, Nat.mul_add]
  have e1 : 1000000000 ^ (i + (k + 1)) = 1000000000 ^ (i + k) * 1000000000 := by rw [show i + (k + 1) = i + k + 1 by omega, Nat.pow_succ]
  have e2 : 1000000000 ^ i * (x * (1000000000 ^ k * at0 b k)) = 1000000000 ^ (i + k) * (x * at0 b k) := by
    rw [Nat.pow_add, Nat.mul_left_comm x, Nat.mul_assoc]
  rw [e1, e2]
  have hm : s % 1000000000 + 1000000000 * (s / 1000000000) = c + (at0 out (i + k) + x * at0 b k) := by omega
  generalize x * at0 b k = t at *
  generalize s % 1000000000 = r at *
  generalize s / 1000000000 = q at *
  generalize 1000000000 ^ (i + k) = p at *
  generalize 1000000000 ^ i * (x * ofL 1000000000 (b.take k)) = g at *
  have : p * r + p * 1000000000 * q = p * c + (p * at0 out (i + k) + p * t) := by
    rw [Nat.mul_assoc, ← Nat.mul_add, hm, Nat.mul_add, Nat.mul_add]
  omega
/-- The carry goes on upward. -/
structure TimesUp (n k : Nat) (out : List Nat) (c v : Nat) : Prop where
  len : out.length = n
  lt : ∀ x ∈ out, x < 1000000000
  cl : c < 1000000000
  sum : ofL 1000000000 out + 1000000000 ^ k * c = v
theorem TimesIn.up {n i x c v : Nat} {b out : List Nat} (h : TimesIn n i b.length x b out c v) : TimesUp n (i + b.length) out c (v + 1000000000 ^ i * (x * ofL 1000000000 b)) :=
  ⟨h.len, h.lt, h.cl, by have := h.sum; rwa [List.take_length] at this⟩
theorem TimesUp.room {n k c v m : Nat} {out : List Nat} (h : TimesUp n k out c v) (hc : 0 < c) (hv : v < 1000000000 ^ m) : k < m := by
  have h1 := h.sum
  have h2 : 1000000000 ^ k * 1 ≤ 1000000000 ^ k * c := Nat.mul_le_mul_left _ hc
  have : 1000000000 ^ k < 1000000000 ^ m := by omega
  exact (Nat.pow_lt_pow_iff_right (by omega)).1 this
theorem TimesUp.step {n k c v s : Nat} {out : List Nat} (h : TimesUp n k out c v) (hk : k < n) (hs : s = c + at0 out k) : TimesUp n (k + 1) (out.set k (s % 1000000000)) (s / 1000000000) v := by
  have h2 := at0_lt h.lt (show k < out.length by rw [h.len]; exact hk)
  have h4 := h.cl
  refine ⟨by rw [List.length_set, h.len], mem_set_lt h.lt (by omega), by omega, ?_⟩
  have e := ofL_set (b := 1000000000) (l := out) (j := k) (s % 1000000000) (by rw [h.len]; exact hk)
  have hsum := h.sum
  rw [Nat.pow_succ]
  have hm : s % 1000000000 + 1000000000 * (s / 1000000000) = c + at0 out k := by omega
  generalize s % 1000000000 = r at *
  generalize s / 1000000000 = q at *
  generalize 1000000000 ^ k = p at *
  have : p * r + p * 1000000000 * q = p * c + p * at0 out k := by
    rw [Nat.mul_assoc, ← Nat.mul_add, hm, Nat.mul_add]
  omega
theorem TimesUp.done {n k v : Nat} {out : List Nat} (h : TimesUp n k out 0 v) : TimesOut n out v := ⟨h.len, h.lt, by have := h.sum; simpa using this⟩
theorem times_next {a b : List Nat} {i : Nat} (hi : i < a.length) :
    ofL 1000000000 (a.take i) * ofL 1000000000 b + 1000000000 ^ i * (at0 a i * ofL 1000000000 b) = ofL 1000000000 (a.take (i + 1)) * ofL 1000000000 b := by
  rw [take_at0 hi, ofL_snoc, List.length_take, Nat.min_eq_left (by omega), Nat.add_mul, Nat.mul_assoc]
theorem times_lt {a b : List Nat} {i : Nat} (hi : i ≤ a.length) (ha : ∀ x ∈ a, x < 1000000000) (hb : ∀ x ∈ b, x < 1000000000) :
    ofL 1000000000 (a.take i) * ofL 1000000000 b < 1000000000 ^ (i + b.length) := by
  have h1 := ofL_lt (l := a.take i) (b := 1000000000) fun x hx => ha x (List.mem_of_mem_take hx)
  have h2 := ofL_lt hb
  rw [List.length_take, Nat.min_eq_left hi] at h1
  rw [Nat.pow_add]
  exact Nat.mul_lt_mul'' h1 h2

set_option maxRecDepth 100000 in
set_option maxHeartbeats 2000000 in
theorem times_f (a b : List Nat) (u v : Value) (w : World) (hu : Rd w u a) (hv : Rd w v b) (hla : a.length < 40000) (hlb : b.length < 40000) (ha : ∀ x ∈ a, x < 1000000000) (hb : ∀ x ∈ b, x < 1000000000) :
    Calls Tryz.prog 180 #[u, v] w (RetMF (ofL 1000000000 a * ofL 1000000000 b) w) := by
  obtain ⟨A, ca, rfl, hra⟩ := hu
  obtain ⟨B, cb, rfl, hrb⟩ := hv
  have hca := hra.cap
  have hcb := hrb.cap
  have hma := hra.max
  have hmb := hrb.max
  have hmk := mk_u64n (a.length + b.length + 1) (by omega) ((a.length : Int) + (b.length : Int) + 1) (by omega)
  have how := own_mkn w w.heap.size (a.length + b.length + 1) (Nat.le_refl _) (by omega)
  go_enter Tryz.func180, Tryz.ntmps180
  go_wp2
  clear hmk
  obtain ⟨N, hN⟩ : ∃ N, N = a.length + b.length + 1 := ⟨_, rfl⟩
  rw [← hN] at how ⊢
  have HN := Lib.hid hN
  clear hN
  obtain ⟨H, hH⟩ : ∃ H, H = w.heap.size := ⟨_, rfl⟩
  rw [← hH] at how
  simp only [← hH]
  have HH := Lib.hid hH
  clear hH
  go_loopw [21] (fun i wr => ∃ (k : Nat) (out : List Nat), k ≤ a.length ∧ i = .int .i64 k ∧ TimesOut N out (ofL 1000000000 (a.take k) * ofL 1000000000 b) ∧ wr.ownsRow H 133 1 (.slice (some ⟨H, 0, none⟩) N N) N (u64s out) ∧ Ext w wr)
    (fun i _ => a.length - (intOf i).toNat)
  case atStart => exact ⟨0, List.replicate N 0, Nat.zero_le _, rfl, ⟨by simp, by intro x hx; rw [List.mem_replicate] at hx; omega, by rw [ofL_zeros (fun j hj => by simp at hj; simp [at0, hj])]; simp [ofL]⟩, how, (Ext.refl w).alloc _⟩
  case round =>
    obtain ⟨i, out, hi, rfl, hT, hown, hext⟩ := hrel
    obtain ⟨wo, rfl⟩ : ∃ wo : World, wo = wr := ⟨_, rfl⟩
    clear how
    by_cases hk : i < a.length
    · obtain ⟨ba, oa, rfl, hcella⟩ := hra.ad (by omega)
      have hg := hext.cellS (hcella i hk)
      have hxa := at0_lt ha hk
      clear hcella
      go_wp2
      go_loopw [8, 28] (fun c k wr => ∃ (q cn : Nat) (out : List Nat), k = .int .i64 q ∧ c = .int .u64 cn ∧ TimesIn N i q (at0 a i) b out cn (ofL 1000000000 (a.take i) * ofL 1000000000 b) ∧ wr.ownsRow H 133 1 (.slice (some ⟨H, 0, none⟩) N N) N (u64s out) ∧ Ext w wr)
        (fun _ k _ => b.length - (intOf k).toNat)
      case atStart => exact ⟨0, 0, out, rfl, rfl, TimesIn.start hT, hown, hext⟩
      case round =>
        clear hT hown hext hg
        obtain ⟨q, cn, out, rfl, rfl, hT, hown, hext⟩ := hrel
        have hq := hT.le
        have hcn := hT.cl
        have hNN := HN.out
        have hxa := at0_lt ha hk
        by_cases hkb : q < b.length
        · obtain ⟨bb, ob, rfl, hcellb⟩ := hrb.ad (by omega)
          have hgb := hext.cellS (hcellb q hkb)
          have hxb := at0_lt hb hkb
          clear hcellb
          have hol := hT.len
          have hxo := at0_lt hT.lt (show i + q < out.length by omega)
          have hgo : wr.cell? ⟨H, i + q, none⟩ = some (.int .u64 (at0 out (i + q) : Nat)) := by
            rw [hown.cellAt (i + q) (by omega)]; simp [u64s, at0, show i + q < out.length by omega]
          have hfo := hown.frozenAt (i + q)
          have hmu := mul_lt_sq hxa hxb
          clear hol
          go_wp2
          go_roundw
          case rel =>
            have hst := (hown.stored (i + q) (.int .u64 ((cn + (at0 out (i + q) + at0 a i * at0 b q)) % 1000000000 : Nat))).1
            rw [u64s_set] at hst
            exact ⟨q + 1, _, _, by go_num, by go_num, hT.step hkb (by omega) hxa hb rfl, by simpa using hst, hext.setCell (by have := HH.out; simp; omega) _⟩
          case measure => simp [intOf]; omega
        · obtain rfl : q = b.length := by omega
          go_wp2
          go_loopw [8, 11] (fun c k wr => ∃ (q cn : Nat) (out : List Nat), k = .int .i64 q ∧ c = .int .u64 cn ∧ q ≤ i + b.length + 1 ∧ TimesUp N q out cn (ofL 1000000000 (a.take (i + 1)) * ofL 1000000000 b) ∧ wr.ownsRow H 133 1 (.slice (some ⟨H, 0, none⟩) N N) N (u64s out) ∧ Ext w wr)
            (fun _ k _ => i + b.length + 1 - (intOf k).toNat)
          case atStart =>
            have hup := hT.up
            rw [times_next hk] at hup
            exact ⟨i + b.length, cn, out, by go_num, rfl, by omega, hup, hown, hext⟩
          case round =>
            clear hT hown hext hcn hq
            obtain ⟨q, cn, out, rfl, rfl, hq, hT, hown, hext⟩ := hrel
            have hcn := hT.cl
            by_cases hc0 : 0 < cn
            · have hroom := hT.room hc0 (times_lt (i := i + 1) hk ha hb)
              have hol := hT.len
              have hxo := at0_lt hT.lt (show q < out.length by omega)
              have hgo : wr.cell? ⟨H, q, none⟩ = some (.int .u64 (at0 out q : Nat)) := by
                rw [hown.cellAt q (by omega)]; simp [u64s, at0, show q < out.length by omega]
              have hfo := hown.frozenAt q
              clear hol
              go_wp2
              go_roundw
              case rel =>
                have hst := (hown.stored q (.int .u64 ((cn + at0 out q) % 1000000000 : Nat))).1
                rw [u64s_set] at hst
                exact ⟨q + 1, _, _, by go_num, by go_num, by omega, hT.step (by omega) rfl, by simpa using hst, hext.setCell (by have := HH.out; simp; omega) _⟩
              case measure => simp [intOf]; omega
            · obtain rfl : cn = 0 := by omega
              go_wp2
              go_roundw
              case rel => exact ⟨i + 1, out, hk, by go_num, hT.done, hown, hext⟩
              case measure => simp [intOf]; omega
    · obtain rfl : i = a.length := by omega
      have hol := hT.len
      have hsum := hT.sum
      rw [List.take_length] at hsum
      have HS := Lib.hid hsum
      have HO := Lib.hid hol
      clear hsum hol
      go_wp2_with fail
      have hrd : Rd wo (.slice (some ⟨H, 0, none⟩) N N) out := Rd.of_own (by rw [HO.out]; exact hown) (by have := HN.out; have := HO.out; omega)
      refine (trim_f _ _ _ hrd hT.lt).mono ?_
      rintro e w2 ⟨v2, rfl, hv2, hx2, ho2⟩
      have HO2 := Lib.hid ho2
      clear ho2
      go_wp2
      go_ret
      exact ⟨v2, rfl, by rw [← HS.out]; exact hv2, hext.trans hx2, fun b hb => by have := own_ge hown b (by rw [← HO2.out]; exact hb); have := HH.out; omega⟩
theorem times_c (a b : List Nat) (u v : Value) (w : World) (hu : Rd w u a) (hv : Rd w v b) (hla : a.length < 40000) (hlb : b.length < 40000) (ha : ∀ x ∈ a, x < 1000000000) (hb : ∀ x ∈ b, x < 1000000000) :
    Calls Tryz.prog 180 #[u, v] w (RetM (ofL 1000000000 a * ofL 1000000000 b) w) :=
  (times_f a b u v w hu hv hla hlb ha hb).mono fun _ _ h => h.plain
end Go.Proofs.YtblijhokcjpeeaaGreatDoor
