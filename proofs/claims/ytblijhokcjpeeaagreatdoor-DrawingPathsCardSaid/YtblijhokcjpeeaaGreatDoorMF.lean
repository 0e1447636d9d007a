/- integer.small; the estimate of a digit of a quotient. -/
import Derived.Test.YtblijhokcjpeeaaGreatDoorME
import Derived.OneCell
import Derived.Deep.RegionHeld3
/- integer.divide: the way out where the first magnitude is less, and division by one piece. -/
namespace Go.Proofs.YtblijhokcjpeeaaGreatDoor
open Go.RowKit Kl Go.Shelf
attribute [local go_sem] Oper.semAt_some

/-- Quotient and remainder are returned. -/
def RetQR (q r : Nat) (w : World) (e : Ending) (w' : World) : Prop :=
  ∃ vq vr, e = .returned (.tuple #[vq, vr]) ∧ Rd w' vq (pc 1000000000 q) ∧ Rd w' vr (pc 1000000000 r) ∧ Ext w w'
theorem Rd.nil (w : World) : Rd w (.slice none 0 0) [] := ⟨none, 0, rfl, by simp, by omega, by simp, fun h => by simp at h⟩
theorem b9 : (2 : Nat) ≤ 1000000000 := by omega

set_option maxRecDepth 100000 in
set_option maxHeartbeats 1000000 in
theorem divide_lt (x y : Nat) (hxy : x < y) (u v : Value) (w : World) (hu : Rd w u (pc 1000000000 x)) (hv : Rd w v (pc 1000000000 y)) :
    Calls Tryz.prog 179 #[u, v] w (RetQR 0 x w) := by
  have hord := fun W hu hv => order_c (pc 1000000000 x) (pc 1000000000 y) u v W hu hv (pc_lt b9 x) (pc_lt b9 y) (trim_pc b9 x) (trim_pc b9 y)
  rw [ofL_pc b9, ofL_pc b9, cmpN_lt hxy] at hord
  have hx1 := ((Ext.refl w).alloc (.cells #[v] 159)).alloc (.cells #[.slice none 0 0] 159)
  have ho := hord _ (hu.ext hx1) (hv.ext hx1)
  have hud := hu
  have hvd := hv
  obtain ⟨A, ca, e1, hra⟩ := hud
  obtain ⟨B, cb, e2, hrb⟩ := hvd
  clear hord
  rw [e1, e2] at ho
  subst e1 e2
  go_enter Tryz.func179, Tryz.ntmps179
  go_wp2_with fail
  ((with_reducible refine ho.mono ?_); rintro e w1 ⟨rfl, hx2⟩)
  obtain ⟨hc2, hf2⟩ := hx2.cells
  go_wp2
  refine bodyPost_ret (v := .tuple #[.slice none 0 0, .slice A (pc 1000000000 x).length ca]) (by simp [results, Tryz.results179, go_sem, hc2]) rfl ?_
  have e0 := hc2 (w.heap.size + 1) 0 (by simp)
  rw [World.cell?_alloc_at _ _ _ _ (by simp)] at e0
  exact ⟨_, _, rfl, by rw [pc_zero]; exact Rd.nil _, ⟨A, ca, rfl, ((hra.ext hx1).ext hx2).setCell e0 (by simp)⟩, (hx1.trans hx2).setCell (by show w.heap.size ≤ w.heap.size + 1; omega) _⟩

/-! ### One piece -/
structure Div1Inv (a qs : List Nat) (y i r : Nat) : Prop where
  len : qs.length = a.length
  lt : ∀ x ∈ qs, x < 1000000000
  le : i ≤ a.length
  rl : r < y
  sum : ofL 1000000000 (qs.drop i) * y + r = ofL 1000000000 (a.drop i)
theorem Div1Inv.start {a : List Nat} {y : Nat} (hy : 0 < y) : Div1Inv a (List.replicate a.length 0) y a.length 0 :=
  ⟨by simp, by intro x hx; rw [List.mem_replicate] at hx; omega, Nat.le_refl _, hy, by simp [ofL]⟩
theorem Div1Inv.step {a qs : List Nat} {y i r t : Nat} (h : Div1Inv a qs y (i + 1) r) (hy : 0 < y) (ha : ∀ x ∈ a, x < 1000000000) (ht : t = r * 1000000000 + at0 a i) :
    Div1Inv a (qs.set i (t / y)) y i (t % y) := by
  have hi : i < a.length := h.le
  have hai := at0_lt ha hi
  have hq : t / y < 1000000000 := by
    rw [Nat.div_lt_iff_lt_mul hy]
    have h1 : r + 1 ≤ y := h.rl
    have : (r + 1) * 1000000000 ≤ y * 1000000000 := Nat.mul_le_mul_right _ h1
    omega
  refine ⟨by rw [List.length_set, h.len], mem_set_lt h.lt hq, by omega, Nat.mod_lt _ hy, ?_⟩
  have e1 : (qs.set i (t / y)).drop i = t / y :: qs.drop (i + 1) := by
    rw [drop_at0 (by rw [List.length_set, h.len]; exact hi), List.drop_set_of_lt (by omega)]
    simp [at0, h.len, hi]
  rw [e1, drop_at0 hi]
  simp only [ofL]
  have hs := h.sum
  have hm := Nat.div_add_mod t y
  generalize ofL 1000000000 (qs.drop (i + 1)) = Q at *
  generalize ofL 1000000000 (a.drop (i + 1)) = V at *
  generalize t / y = d at *
  generalize t % y = m at *
  have e2 : (d + 1000000000 * Q) * y = y * d + 1000000000 * (Q * y) := by rw [Nat.add_mul, Nat.mul_comm d y, Nat.mul_assoc]
  rw [e2]
  omega
theorem Div1Inv.done {a qs : List Nat} {y r : Nat} (h : Div1Inv a qs y 0 r) : ofL 1000000000 qs = ofL 1000000000 a / y ∧ r = ofL 1000000000 a % y := by
  have hs := h.sum
  have hr := h.rl
  rw [List.drop_zero, List.drop_zero] at hs
  rw [← hs, Nat.mul_comm]
  exact ⟨by rw [Nat.mul_add_div (by omega), Nat.div_eq_of_lt hr, Nat.add_zero], by rw [Nat.mul_add_mod, Nat.mod_eq_of_lt hr]⟩

abbrev D1T (n : Nat) := { p : Nat × Nat // p.2 < 1000000000 ∧ p.1 < n }
theorem d1_of (zs : List Nat) (h0 : 0 < zs.length) (hz : ∀ x ∈ zs, x < 1000000000) : ∃ g : Nat → D1T zs.length, ∀ k, k < zs.length → (g k).1 = fromBack zs k :=
  ⟨fun k => if h : k < zs.length then ⟨fromBack zs k, at0_lt hz (by omega), by simp only [fromBack]; omega⟩ else ⟨(0, 0), by omega, h0⟩, fun k hk => by simp [hk]⟩
/-- What stands between two rounds: n pieces of the quotient's row, the rest; all as it should be if the pairs came in order. -/
def D1 (w : World) (zs : List Nat) (y : Nat) (g : Nat → D1T zs.length) (qb bb ob cb xb : Nat) (pre : List (D1T zs.length)) (W : World) : Prop :=
  ∃ (vs : List Nat) (r : Nat), vs.length = zs.length ∧ W.ownsRow qb 133 1 (.slice (some ⟨qb, 0, none⟩) zs.length zs.length) zs.length (u64s vs)
    ∧ W.heap[qb + 1]? = some (.cells #[.int .u64 (r : Nat)] 133 (0, 0))
    ∧ W.cell? ⟨w.heap.size, 0, none⟩ = some (.slice (some ⟨bb, ob, none⟩) 1 cb)
    ∧ W.heap[w.heap.size + 1]? = some (.cells #[.slice (some ⟨qb, 0, none⟩) zs.length zs.length] 159 (0, 0))
    ∧ W.cell? ⟨bb, ob, none⟩ = some (.int .u64 (y : Nat))
    ∧ (∃ x, W.heap[xb]? = some (.cells x 159 (0, 0)))
    ∧ Ext w W
    ∧ ∀ k, k ≤ zs.length → pre = upto g k → Div1Inv zs vs y (zs.length - k) r

theorem RdAt.putObj {w : World} {A : Option Addr} {c D : Nat} {l : List Nat} {o : Obj} (h : RdAt w A c l) (hD : w.heap[D]? = some o) (ho : o.isCells = false) (o' : Obj) : RdAt (w.putObj D o') A c l :=
  ⟨h.cap, h.max, h.len, fun h0 => by
    obtain ⟨b, o1, e, hc⟩ := h.ad h0
    exact ⟨b, o1, e, fun j hj => cell_kept (hc j hj) (grownBy_putObj' w D o') (fun r e => by cases e; exact ⟨o, hD, ho⟩)⟩⟩
theorem d1_arith (r x y : Nat) (hy : y < 1000000000) (hx : x < 1000000000) : ∃ t : Nat, IntKind.u64.wrap (IntKind.u64.wrap ((r : Int) * 1000000000) + (x : Int)) = (t : Int) ∧ (r < y → t = r * 1000000000 + x) ∧ IntKind.u64.wrap ((t : Int) / (y : Int)) = ((t / y : Nat) : Int) := by
  refine ⟨(r * 1000000000 % 18446744073709551616 + x) % 18446744073709551616, ?_, fun h => by omega, ?_⟩
  · simp only [IntKind.wrap_u64]; omega
  · simp only [IntKind.wrap_u64]
    generalize hm : (r * 1000000000 % 18446744073709551616 + x) % 18446744073709551616 = m
    have h1 : m / y ≤ m := Nat.div_le_self _ _
    have h2 : (m : Int) / (y : Int) = ((m / y : Nat) : Int) := by simp
    have h3 : m < 18446744073709551616 := by omega
    rw [h2]
    generalize m / y = q at *
    omega
set_option maxRecDepth 100000 in
set_option maxHeartbeats 4000000 in
theorem divide_one (x y : Nat) (hyx : y ≤ x) (hy0 : 0 < y) (hyB : y < 1000000000) (u v : Value) (w : World) (hu : Rd w u (pc 1000000000 x)) (hv : Rd w v (pc 1000000000 y)) :
    Calls Tryz.prog 179 #[u, v] w (RetQR (x / y) (x % y) w) := by
  have hord := fun W hu hv => order_c (pc 1000000000 x) (pc 1000000000 y) u v W hu hv (pc_lt b9 x) (pc_lt b9 y) (trim_pc b9 x) (trim_pc b9 y)
  obtain ⟨s, hs, hs0⟩ : ∃ s : Int, s = cmpN x y ∧ ¬ s < 0 := by
    rcases Nat.lt_or_eq_of_le hyx with h | h
    · exact ⟨_, rfl, by rw [cmpN_gt h]; omega⟩
    · exact ⟨_, rfl, by rw [cmpN_eq h.symm]; omega⟩
  rw [ofL_pc b9, ofL_pc b9, ← hs] at hord
  clear hs
  have hx1 := ((Ext.refl w).alloc (.cells #[v] 159)).alloc (.cells #[.slice none 0 0] 159)
  have ho := hord _ (hu.ext hx1) (hv.ext hx1)
  obtain ⟨zs, hzs⟩ : ∃ zs, zs = pc 1000000000 x := ⟨_, rfl⟩
  have hlt : ∀ x ∈ zs, x < 1000000000 := by rw [hzs]; exact pc_lt b9 x
  rw [← hzs] at hu
  have hzp : 0 < zs.length := by
    rw [List.length_pos_iff, hzs]
    intro e
    have := (pc_eq_nil b9).1 e
    omega
  rw [pc_small b9 hy0 hyB] at hv
  have HZ := Lib.hid hzs
  clear hzs hord
  have hrd := hu
  obtain ⟨A, ca, e1, hra⟩ := hu
  obtain ⟨B, cb, e2, hrb⟩ := hv
  have hl1 := hra.len
  obtain ⟨bb, ob, rfl, hcb⟩ := hrb.ad (by simp)
  have hcy := hcb 0 (by simp)
  simp only [List.length_singleton] at e2
  have hcy : w.cell? ⟨bb, ob, none⟩ = some (.int .u64 (y : Nat)) := by simpa [at0] using hcy
  have hcap := hrb.cap
  have hmax := hrb.max
  simp only [List.length_singleton] at hcap
  have hmk := mk_u64n zs.length (by omega) (zs.length : Int) rfl
  rw [e1, e2] at ho
  rw [e2] at hx1
  subst e1 e2
  refine (callsIn_wide (n := 4)).1 ?_
  refine callsIn_of_wp_marks Tryz.func179 rfl trivial ?_ rfl
  simp only [Tryz.ntmps179, List.size_toArray, List.length_cons, List.length_nil, Nat.reduceAdd, Nat.reduceSub, Array.replicate_succ, Array.replicate_zero, List.push_toArray, List.append_toArray, List.nil_append, List.cons_append]
  gi_wp2
  refine ⟨trivial, ?_⟩
  refine (callsIn_wide.2 ho).mono ?_
  rintro e w1 ⟨rfl, hx2⟩
  obtain ⟨hc2, hf2⟩ := hx2.cells
  have hsz2 := hx2.size
  simp only [World.size_alloc] at hsz2
  have hs20 : w.heap.size < w1.heap.size := by omega
  have hs21 : w.heap.size + 1 < w1.heap.size := by omega
  gi_wp2
  obtain ⟨W2, hW2⟩ : ∃ W2, W2 = ((w1.setCell ⟨w.heap.size + 1, 0, none⟩ (.slice (some ⟨w1.heap.size, 0, none⟩) zs.length zs.length)).alloc (.cells (madeCells #[.int .u64 0] zs.length) 133)).alloc (.cells #[.int .u64 0] 133) := ⟨_, rfl⟩
  rw [← hW2]
  have hn : zs.length ≤ 200000 := by omega
  have k3 : W2.cell? ⟨w.heap.size, 0, none⟩ = some (.slice (some ⟨bb, ob, none⟩) 1 cb) := by
    have h := hc2 (w.heap.size) 0 (by simp; omega)
    rw [hW2]
    go_simp
  have k4 : W2.cell? ⟨w.heap.size + 1, 0, none⟩ = some (.slice (some ⟨w1.heap.size, 0, none⟩) zs.length zs.length) := by
    have h := hc2 (w.heap.size + 1) 0 (by simp)
    have h2 := hf2 (w.heap.size + 1) 0
    rw [hW2]
    go_simp
  have k4b : W2.heap[w.heap.size + 1]? = some (.cells #[.slice (some ⟨w1.heap.size, 0, none⟩) zs.length zs.length] 159 (0, 0)) := by
    have h1 := hx2.block (w.heap.size + 1) (by simp)
    have h2 := heap_alloc_new (w.alloc (.cells #[.slice (some ⟨bb, ob, none⟩) 1 cb] 159)) (.cells #[.slice none 0 0] 159)
    rw [World.size_alloc] at h2
    have h3 := one_setCell (u := .slice (some ⟨w1.heap.size, 0, none⟩) zs.length zs.length) (h1.trans h2)
    rw [hW2, Below.heap_alloc _ _ _ (by simp; omega), Below.heap_alloc _ _ _ (by simp; omega)]
    exact h3
  have k6 : W2.heap[w1.heap.size + 1]? = some (.cells #[.int .u64 0] 133 (0, 0)) := by
    rw [hW2]
    have h := heap_alloc_new ((w1.setCell ⟨w.heap.size + 1, 0, none⟩ (.slice (some ⟨w1.heap.size, 0, none⟩) zs.length zs.length)).alloc (.cells (madeCells #[.int .u64 0] zs.length) 133)) (.cells #[.int .u64 0] 133)
    simpa using h
  have hcyW : W2.cell? ⟨bb, ob, none⟩ = some (.int .u64 (y : Nat)) := by
    have hb := World.block_lt_of_cell? w _ hcy
    have h1 : w1.cell? ⟨bb, ob, none⟩ = some (.int .u64 (y : Nat)) := ((((Ext.refl w).alloc _).alloc _).trans hx2).cellS hcy
    have h2 : bb ≠ w.heap.size + 1 := by have : bb < w.heap.size := hb; omega
    have h3 : bb < w1.heap.size := by have : bb < w.heap.size := hb; omega
    rw [hW2]
    go_simp
  have hszW : W2.heap.size = w1.heap.size + 2 := by rw [hW2]; simp
  have hxW : Ext w W2 := by
    rw [hW2]; exact ((((Ext.refl w).alloc _).alloc _).trans hx2 |>.setCell (by show w.heap.size ≤ w.heap.size + 1; omega) _).alloc _ |>.alloc _
  have ho2 : W2.ownsRow w1.heap.size 133 1 (.slice (some ⟨w1.heap.size, 0, none⟩) zs.length zs.length) zs.length (u64s (List.replicate zs.length 0)) := by
    rw [hW2]
    have h := own_mkn (w1.setCell ⟨w.heap.size + 1, 0, none⟩ (.slice (some ⟨w1.heap.size, 0, none⟩) zs.length zs.length)) w1.heap.size zs.length (by simp) hn
    rw [World.size_setCell] at h
    exact h.alloc _
  have HSZ := Lib.hid hszW
  have hszW1 : w1.heap.size + 2 ≤ W2.heap.size := by omega
  clear hW2 hc2 hf2 hmk hcb hszW
  obtain ⟨g, hg⟩ : ∃ g : Nat → D1T zs.length, ∀ k, k < zs.length → (g k).1 = fromBack zs k := d1_of zs hzp hlt
  refine ⟨trivial, ?_⟩
  refine (back_in Fence.wide 3 trivial rfl _ _ ⟨_, _, _, rfl⟩).mono ?_
  rintro e W3 ⟨rfl, rfl⟩
  gi_wp2
  refine wpIn_rangeFunc_ownG rfl (by omega) (gf := 230) (lb := #[.pointer (some ⟨W2.heap.size, 0, none⟩)]) rfl trivial (enters_of Tryz.func230 (by kernel_rfl) rfl)
    (back_stops (fun p : D1T zs.length => p.1.1) (fun p : D1T zs.length => p.1.2) Fence.wide 3 trivial rfl (by omega) W2.heap.size w.heap.size _ zs g (fun k hk => by have := hg k hk; simpa using this) (W2.alloc (.cells #[.slice A zs.length ca] 159)) (by simp) (by simp; omega) (by simp) ⟨w, hrd, Nat.le_refl _, hxW.alloc _⟩)
    (fun h k => h.trans k) (KpB.put (by simp; omega) (by simp)) (Below.refl _ _) (fun _ => rfl)
    (D1 w zs y g w1.heap.size bb ob cb W2.heap.size)
    (fun _ _ _ => False) ?hI (fun _ _ _ _ _ hs _ _ => hs) ?h0 ?a1 ?assign ?body ?done ?stop
  case a1 => exact fun x => { tmps := #[.slice A zs.length ca, .slice (some ⟨bb, ob, none⟩) 1 cb, undef, .pointer (some ⟨w.heap.size, 0, none⟩), .pointer (some ⟨w.heap.size + 1, 0, none⟩), .slice none 0 0, .pointer (some ⟨w1.heap.size + 1, 0, none⟩), .int .i64 (x.1.1 : Nat), .int .u64 (x.1.2 : Nat), undef, undef, undef, undef, undef, .slice A zs.length ca, .slice (some ⟨bb, ob, none⟩) 1 cb, .int .i64 s, .bool (decide (s < 0)), undef, .slice (some ⟨bb, ob, none⟩) 1 cb, .int .i64 1, .bool true, .slice A zs.length ca, .int .i64 zs.length, .slice (some ⟨w1.heap.size, 0, none⟩) zs.length zs.length, .slice A zs.length ca, .func (.func 230) #[] #[.pointer (some ⟨W2.heap.size, 0, none⟩)], .int .i64 (x.1.1 : Nat), .int .u64 (x.1.2 : Nat), undef, undef, undef, undef, undef, undef, undef, undef, undef, undef, undef, undef, undef, undef, undef, undef, undef, undef, undef, undef, undef, undef, undef, undef, undef, undef, undef, undef, undef, undef, undef, undef, undef, undef, undef, undef, undef, undef, undef, undef, undef, undef, undef, undef, undef, undef, undef, undef, undef, undef, undef, undef, undef, undef, undef, undef, undef, undef, undef, undef, undef, undef, undef, undef, undef, undef, undef, undef, undef, undef, undef, undef, undef, undef, undef, undef, undef, undef, undef, undef, undef, undef, undef, undef, undef, undef, undef, undef, undef, undef, undef, undef, undef, undef, undef, undef, undef, undef, undef, undef, undef, undef, undef, undef, undef, undef, undef, undef, undef, undef, undef, undef, undef, undef, undef, undef, undef], defers := [] }
  case hI =>
    rintro pre W W' row ⟨vs, r, hvl, hown, hrest, h3, h4b, hy, ⟨bx, hbox⟩, hxx, hgood⟩ hg' hr'
    have hro : ∀ r, row = some r → ∃ o : Obj, W.heap[r]? = some o ∧ o.isCells = false := fun r e => (hr' r e).2
    refine ⟨vs, r, hvl, ?_, grownBy_block hg' hrest hro, cell_kept h3 hg' hro, grownBy_block hg' h4b hro, cell_kept hy hg' hro, ⟨bx, grownBy_block hg' hbox hro⟩, ?_, hgood⟩
    · refine hown.kept hg' (.inr fun e => ?_)
      obtain ⟨c, fz, hk⟩ := own_cells hown w1.heap.size rfl
      obtain ⟨o, ho, hc⟩ := hro w1.heap.size e.symm
      rw [hk] at ho
      obtain rfl := Option.some.inj ho
      simp [Obj.isCells] at hc
    · exact (ownFrom_below (Nat.le_refl _) (by simp; omega)) () W W' row hxx hg' hr'
  case h0 =>
    have hxa := (Ext.refl W2).alloc (.cells #[.slice A zs.length ca] 159)
    refine ⟨List.replicate zs.length 0, 0, by simp, own_ext ho2 hxa, (hxa.block _ (by omega)).trans k6, hxa.cellS k3, (hxa.block _ (by omega)).trans k4b, hxa.cellS hcyW, ⟨_, heap_alloc_new _ _⟩, Below.trans hxW (Below.mono hxa (by omega)), fun k hk e => ?_⟩
    cases k with
    | zero => exact Div1Inv.start hy0
    | succ k => have := congrArg List.length e; rw [upto_length] at this; simp at this
  case assign =>
    intro l x W K hK
    gi_wp2
    exact hK
  case body =>
    rintro l pre x W ⟨vs, r, hvl, hown, hrest, h3, h4b, hy, hbox, hxx, hgood⟩ hlen
    have h4 := cell_of_one h4b
    have hc6 := cell_of_one hrest
    have hf6 := free_of_one hrest
    have hix := x.2.2
    obtain ⟨t, ht, htg, hq⟩ : ∃ t : Nat, IntKind.u64.wrap (IntKind.u64.wrap ((r : Int) * 1000000000) + (x.1.2 : Int)) = (t : Int) ∧ (r < y → t = r * 1000000000 + x.1.2) ∧ IntKind.u64.wrap ((t : Int) / (y : Int)) = ((t / y : Nat) : Int) := d1_arith r x.1.2 y hyB x.2.1
    gi_wp2
    clear ht
    obtain ⟨W0, hW0⟩ : ∃ W0, W0 = (W.setCell ⟨w1.heap.size + 1, 0, none⟩ (.int .u64 (t : Nat))).drew := ⟨_, rfl⟩
    obtain ⟨W1', hW1⟩ : ∃ W1', W1' = W0.setCell ⟨w1.heap.size, x.1.1, none⟩ (.int .u64 ((t / y : Nat) : Int)) := ⟨_, rfl⟩
    obtain ⟨W2', hW2⟩ : ∃ W2', W2' = W1'.setCell ⟨w1.heap.size + 1, 0, none⟩ (.int .u64 ((t % y : Nat) : Int)) := ⟨_, rfl⟩
    refine wpIn_region_any (by kernel_rfl) ?_
    have hbb : bb < w.heap.size := World.block_lt_of_cell? w ⟨bb, ob, none⟩ hcy
    have hqn : ∀ k, k ≠ w1.heap.size → ¬ Value.ownBlock (.slice (some ⟨w1.heap.size, 0, none⟩) zs.length zs.length) = some k := by
      intro k hk e
      simp only [Value.ownBlock, Option.some.injEq] at e
      exact hk e.symm
    have own0 : W0.ownsRow w1.heap.size 133 1 (.slice (some ⟨w1.heap.size, 0, none⟩) zs.length zs.length) zs.length (u64s vs) := by
      rw [hW0]; exact own_drew (ownsRow_setCell_other hown (hqn (w1.heap.size + 1) (by omega)) _)
    have own1 : W1'.ownsRow w1.heap.size 133 1 (.slice (some ⟨w1.heap.size, 0, none⟩) zs.length zs.length) zs.length (u64s (vs.set x.1.1 (t / y))) := by
      rw [hW1, ← u64s_set]; exact (own0.stored _ _).1
    have own2 : W2'.ownsRow w1.heap.size 133 1 (.slice (some ⟨w1.heap.size, 0, none⟩) zs.length zs.length) zs.length (u64s (vs.set x.1.1 (t / y))) := by
      rw [hW2]; exact ownsRow_setCell_other own1 (hqn (w1.heap.size + 1) (by omega)) _
    have rest0 : W0.heap[w1.heap.size + 1]? = some (.cells #[.int .u64 (t : Nat)] 133 (0, 0)) := by rw [hW0]; exact one_setCell hrest
    have rest1 : W1'.heap[w1.heap.size + 1]? = some (.cells #[.int .u64 (t : Nat)] 133 (0, 0)) := by
      rw [hW1, Below.heap_setCell _ _ _ _ (show w1.heap.size + 1 ≠ w1.heap.size by omega)]; exact rest0
    have rest2 : W2'.heap[w1.heap.size + 1]? = some (.cells #[.int .u64 ((t % y : Nat) : Int)] 133 (0, 0)) := by rw [hW2]; exact one_setCell rest1
    have hcW0 := cell_of_one rest0
    have hcW1 := cell_of_one rest1
    have hfW1 := free_of_one rest1
    have hb0 : ∀ k, k ≠ w1.heap.size + 1 → W0.heap[k]? = W.heap[k]? := fun k hk => by rw [hW0]; exact Below.heap_setCell W _ _ k hk
    have hb1 : ∀ k, k ≠ w1.heap.size → k ≠ w1.heap.size + 1 → W1'.heap[k]? = W.heap[k]? := fun k hk hk2 => by rw [hW1, Below.heap_setCell _ _ _ _ hk]; exact hb0 k hk2
    have hb2 : ∀ k, k ≠ w1.heap.size → k ≠ w1.heap.size + 1 → W2'.heap[k]? = W.heap[k]? := fun k hk hk2 => by rw [hW2, Below.heap_setCell _ _ _ _ hk2]; exact hb1 k hk hk2
    have h3W0 := (World.cell?_of_block (a := ⟨w.heap.size, 0, none⟩) (hb0 w.heap.size (by omega))).trans h3
    have h4W0 := (World.cell?_of_block (a := ⟨w.heap.size + 1, 0, none⟩) (hb0 (w.heap.size + 1) (by omega))).trans h4
    have hyW0 := (World.cell?_of_block (a := ⟨bb, ob, none⟩) (hb0 bb (by omega))).trans hy
    have h3W1 := (World.cell?_of_block (a := ⟨w.heap.size, 0, none⟩) (hb1 w.heap.size (by omega) (by omega))).trans h3
    have h4W1 := (World.cell?_of_block (a := ⟨w.heap.size + 1, 0, none⟩) (hb1 (w.heap.size + 1) (by omega) (by omega))).trans h4
    have hyW1 := (World.cell?_of_block (a := ⟨bb, ob, none⟩) (hb1 bb (by omega) (by omega))).trans hy
    have h3W2 := (World.cell?_of_block (a := ⟨w.heap.size, 0, none⟩) (hb2 w.heap.size (by omega) (by omega))).trans h3
    have h4bW2 := (hb2 (w.heap.size + 1) (by omega) (by omega)).trans h4b
    have hyW2 := (World.cell?_of_block (a := ⟨bb, ob, none⟩) (hb2 bb (by omega) (by omega))).trans hy
    have hbel : Below w.heap.size W W2' := by
      rw [hW2, hW1, hW0]
      exact (((Below.refl _ W).setCell (by show w.heap.size ≤ w1.heap.size + 1; omega) _).drew.setCell (by show w.heap.size ≤ w1.heap.size; omega) _).setCell (by show w.heap.size ≤ w1.heap.size + 1; omega) _
    have hfq := own0.frozenAt (g := w1.heap.size) x.1.1
    have hqc : (W0.cell? ⟨w1.heap.size, x.1.1, none⟩).isSome := by
      have h1 : (u64s vs)[x.1.1]? = some (.int .u64 (at0 vs x.1.1 : Nat)) := by simp [u64s, at0, hvl, hix]
      have h2 := own0.cells (g := w1.heap.size) rfl x.1.1 _ h1
      rw [Addr.add_lit, Nat.zero_add] at h2
      rw [h2]; rfl
    refine wpAnyIn_stable 33 13
      (fun i => #[.slice (some ⟨w1.heap.size, 0, none⟩) zs.length zs.length, .int .i64 (x.1.1 : Nat), .int .u64 (t : Nat), .slice (some ⟨bb, ob, none⟩) 1 cb, .pointer (some ⟨bb, ob, none⟩), .int .u64 (y : Nat), .int .u64 ((t / y : Nat) : Int), .int .u64 (t : Nat), .slice (some ⟨bb, ob, none⟩) 1 cb, .pointer (some ⟨bb, ob, none⟩), .int .u64 (y : Nat), .int .u64 ((t % y : Nat) : Int), .pointer (some ⟨w1.heap.size, x.1.1, none⟩)].getD i undef)
      (ws3 13 14 W0 W1' W2') (by kernel_rfl) (by simp) hW0 ?_ ?_
    · intro listed a i o hok hr ho K hK
      obtain ⟨hun, o', ho', hdeps⟩ := mem_ready.1 hr
      obtain rfl := Option.some.inj (ho'.symm.trans ho)
      have hi : i < 15 := (Array.getElem?_eq_some_iff.1 ho).1
      have h14 : listed.getD 14 false = false := by
        by_cases h : listed.getD 14 false = true
        · exfalso
          have h1 : ∀ j, j < 15 → listed.getD j false = true := by
            intro j hj
            by_cases e : j = 14
            · rw [e]; exact h
            · exact hok.waits (j := 14) rfl h j (by
                rcases (by omega : j = 0 ∨ j = 1 ∨ j = 2 ∨ j = 3 ∨ j = 4 ∨ j = 5 ∨ j = 6 ∨ j = 7 ∨ j = 8 ∨ j = 9 ∨ j = 10 ∨ j = 11 ∨ j = 12 ∨ j = 13) with rfl | rfl | rfl | rfl | rfl | rfl | rfl | rfl | rfl | rfl | rfl | rfl | rfl | rfl <;> kernel_rfl)
          have h2 := h1 i hi
          rw [getD_both hun] at h2
          cases h2
        · simpa using h
      have e3 := hok.out (s := 33) (m := 13) (by kernel_rfl) (d := 3) (by omega) rfl
      have e4 := hok.out (s := 33) (m := 13) (by kernel_rfl) (d := 4) (by omega) rfl
      have e6 := hok.out (s := 33) (m := 13) (by kernel_rfl) (d := 6) (by omega) rfl
      have e7 := hok.out (s := 33) (m := 13) (by kernel_rfl) (d := 7) (by omega) rfl
      have hval := fun i {d} hd hi hl {v} hv => hok.val (s := 33) (m := 13) (by kernel_rfl) i (d := d) hd hi hl (v := v) hv
      refine ⟨fun _ _ => trivial, ?_⟩
      rw [Oper.semAt_eq _ _ _ (noDefer_spec (l := _) (by kernel_rfl) i o' ho)]
      have hok13 := hok.lsz
      clear ho' hok
      by_cases hi13 : i < 13
      · rw [ws3_set (by omega) (by omega)] at hK
        obtain ⟨V, hV, hcV, h3V, h4V, hyV⟩ : ∃ V, ws3 13 14 W0 W1' W2' listed = V ∧ V.cell? ⟨w1.heap.size + 1, 0, none⟩ = some (.int .u64 (t : Nat)) ∧ V.cell? ⟨w.heap.size, 0, none⟩ = some (.slice (some ⟨bb, ob, none⟩) 1 cb)
            ∧ V.cell? ⟨w.heap.size + 1, 0, none⟩ = some (.slice (some ⟨w1.heap.size, 0, none⟩) zs.length zs.length) ∧ V.cell? ⟨bb, ob, none⟩ = some (.int .u64 (y : Nat)) := by
          by_cases h13 : listed.getD 13 false = true
          · exact ⟨W1', ws3_one h13 h14, hcW1, h3W1, h4W1, hyW1⟩
          · exact ⟨W0, ws3_none (by simpa using h13), hcW0, h3W0, h4W0, hyW0⟩
        rw [hV] at hK ⊢
        clear hV
        rcases (by omega : i = 0 ∨ i = 1 ∨ i = 2 ∨ i = 3 ∨ i = 4 ∨ i = 5 ∨ i = 6 ∨ i = 7 ∨ i = 8 ∨ i = 9 ∨ i = 10 ∨ i = 11 ∨ i = 12) with rfl | rfl | rfl | rfl | rfl | rfl | rfl | rfl | rfl | rfl | rfl | rfl | rfl
        all_goals simp only [List.getElem?_toArray, List.getElem?_cons_zero, List.getElem?_cons_succ, Option.some.injEq] at ho
        all_goals subst ho
        all_goals have hdep := waits_spec hdeps
        all_goals simp only [Act.eval] at e3 e4 e6 e7
        all_goals clear hok13
        · clear hval hdep hdeps hun hr
          simp [execOp, go_sem, Oper.uponIn, e4, h4V]
          exact hK
        · clear hval hdep hdeps hun hr
          simp [execOp, go_sem, Oper.uponIn, e7]
          exact hK
        · clear hval hdep hdeps hun hr
          simp [execOp, go_sem, Oper.uponIn, e6, hcV]
          exact hK
        · clear hval hdep hdeps hun hr
          simp [execOp, go_sem, Oper.uponIn, e3, h3V]
          exact hK
        · have f36 := hval 3 (d := 36) rfl (by omega) (hdep 3 (by kernel_rfl)) rfl
          simp only [Act.eval] at f36
          clear hval hdep hdeps hun hr
          simp [execOp, go_sem, Oper.uponIn, f36]
          exact hK
        · have f37 := hval 4 (d := 37) rfl (by omega) (hdep 4 (by kernel_rfl)) rfl
          simp only [Act.eval] at f37
          clear hval hdep hdeps hun hr
          simp [execOp, go_sem, Oper.uponIn, hyV, f37]
          exact hK
        · have f35 := hval 2 (d := 35) rfl (by omega) (hdep 2 (by kernel_rfl)) rfl
          have f38 := hval 5 (d := 38) rfl (by omega) (hdep 5 (by kernel_rfl)) rfl
          simp only [Act.eval] at f35 f38
          clear hval hdep hdeps hun hr
          have hy1 : y ≠ 0 := by omega
          simp [execOp, go_sem, Oper.uponIn, hy1, f35, f38, hq]
          exact hK
        · clear hval hdep hdeps hun hr
          simp [execOp, go_sem, Oper.uponIn, e6, hcV]
          exact hK
        · clear hval hdep hdeps hun hr
          simp [execOp, go_sem, Oper.uponIn, e3, h3V]
          exact hK
        · have f41 := hval 8 (d := 41) rfl (by omega) (hdep 8 (by kernel_rfl)) rfl
          simp only [Act.eval] at f41
          clear hval hdep hdeps hun hr
          simp [execOp, go_sem, Oper.uponIn, f41]
          exact hK
        · have f42 := hval 9 (d := 42) rfl (by omega) (hdep 9 (by kernel_rfl)) rfl
          simp only [Act.eval] at f42
          clear hval hdep hdeps hun hr
          simp [execOp, go_sem, Oper.uponIn, hyV, f42]
          exact hK
        · have f40 := hval 7 (d := 40) rfl (by omega) (hdep 7 (by kernel_rfl)) rfl
          have f43 := hval 10 (d := 43) rfl (by omega) (hdep 10 (by kernel_rfl)) rfl
          simp only [Act.eval] at f40 f43
          clear hval hdep hdeps hun hr
          have hy1 : y ≠ 0 := by omega
          have hm : (t : Int).tmod (y : Int) = ((t % y : Nat) : Int) := by rw [Int.tmod_eq_emod_of_nonneg (by omega)]; simp
          simp [execOp, go_sem, Oper.uponIn, hy1, f40, f43, hm]
          exact hK
        · have f33 := hval 0 (d := 33) rfl (by omega) (hdep 0 (by kernel_rfl)) rfl
          have f34 := hval 1 (d := 34) rfl (by omega) (hdep 1 (by kernel_rfl)) rfl
          simp only [Act.eval] at f33 f34
          clear hval hdep hdeps hun hr
          simp [execOp, go_sem, Oper.uponIn, hix, f33, f34]
          exact hK
      · have hsz := hok13
        rcases (by omega : i = 13 ∨ i = 14) with rfl | rfl
        · have h13 : listed.getD 13 false = false := getD_both hun
          rw [ws3_one (getD_set_same (by rw [hsz]; exact hi)) (by rw [getD_set_ne false (by omega)]; exact h14)] at hK
          rw [ws3_none h13]
          simp only [List.getElem?_toArray, List.getElem?_cons_zero, List.getElem?_cons_succ, Option.some.injEq] at ho
          subst ho
          have hdep := waits_spec hdeps
          have f39 := hval 6 (d := 39) rfl (by omega) (hdep 6 (by kernel_rfl)) rfl
          have f45 := hval 12 (d := 45) rfl (by omega) (hdep 12 (by kernel_rfl)) rfl
          simp only [Act.eval] at f39 f45
          clear hval hdep hdeps hun hr
          obtain ⟨vq, hvq⟩ := Option.isSome_iff_exists.1 hqc
          simp [execOp, go_sem, Oper.uponIn, f39, f45, hfq, hvq]
          rw [hW1] at hK
          exact hK
        · simp only [List.getElem?_toArray, List.getElem?_cons_zero, List.getElem?_cons_succ, Option.some.injEq] at ho
          subst ho
          have hdep := waits_spec hdeps
          have h13 := hdep 13 (by kernel_rfl)
          rw [ws3_two (getD_set_true h13) (getD_set_same (by rw [hsz]; exact hi))] at hK
          rw [ws3_one h13 h14]
          have f44 := hval 11 (d := 44) rfl (by omega) (hdep 11 (by kernel_rfl)) rfl
          simp only [Act.eval] at f44 e6
          clear hval hdep hdeps hun hr
          simp [execOp, go_sem, Oper.uponIn, f44, e6, hfW1, hcW1]
          rw [hW2] at hK
          exact hK
    · intro listed a hok hall
      rw [ws3_two (hall 13 (by decide)) (hall 14 (by decide))]
      refine ⟨⟨hbel.size, fun k o hk hko _ => ?_⟩, ⟨hbel, hb2 _ (by omega) (by omega)⟩, vs.set x.1.1 (t / y), t % y, by rw [List.length_set, hvl], own2, rest2, h3W2, h4bW2, hyW2, ?_, ?_, ?_⟩
      · rw [World.size_alloc] at hk
        rw [hb2 k (by omega) (by omega)]; exact hko
      · obtain ⟨bx, hbx⟩ := hbox
        exact ⟨bx, by rw [hb2 _ (by omega) (by omega)]; exact hbx⟩
      · exact Below.trans hxx hbel
      · intro k hk e
        cases k with
        | zero => simp [upto] at e
        | succ k =>
          rw [upto_succ] at e
          obtain ⟨e1, e2⟩ := List.append_inj' e rfl
          simp only [List.cons.injEq, and_true] at e2
          have hgk := hg k hk
          rw [← e2] at hgk
          have h5 := hgood k (by omega) e1
          have h6 : x.1.1 = zs.length - 1 - k := by rw [hgk]; rfl
          have h7 : x.1.2 = at0 zs x.1.1 := by rw [h6, hgk]; rfl
          rw [show zs.length - k = x.1.1 + 1 by omega] at h5
          rw [show zs.length - (k + 1) = x.1.1 by omega]
          exact h5.step hy0 hlt (by rw [← h7]; exact htg h5.rl)
  case done =>
    rintro D ys W hD rfl ⟨vs, r, hvl, hown, hrest, h3, h4b, hy, hbox, hxx, hgood⟩ hK
    have h4 := cell_of_one h4b
    have hdone := hgood zs.length (Nat.le_refl _) rfl
    rw [Nat.sub_self] at hdone
    have hc6 := cell_of_one hrest
    simp only [World.size_alloc] at hD
    have hxd := (Ext.refl W).drew
    have hxa := ((Ext.refl W).alloc (.cells #[.int .u64 (r : Nat)] 133)).drew
    have hrq : RdAt W (some ⟨w1.heap.size, 0, none⟩) zs.length vs := by
      obtain ⟨A', c', e1, h1⟩ := Rd.of_own (base := w1.heap.size) (l := vs) (by rw [hvl]; exact hown) (by omega)
      simp only [Value.slice.injEq] at e1
      obtain ⟨rfl, _, rfl⟩ := e1
      exact h1
    have hr9 : r < 1000000000 := by have := hdone.rl; omega
    have hrr : RdAt (W.alloc (.cells #[.int .u64 (r : Nat)] 133)).drew (some ⟨W.heap.size, 0, none⟩) 1 [r] :=
      ⟨by simp, by omega, by simp, fun _ => ⟨W.heap.size, 0, rfl, fun j hj => by
        obtain rfl : j = 0 := by simpa using hj
        show (W.alloc (.cells #[.int .u64 (r : Nat)] 133)).cell? ⟨W.heap.size, 0, none⟩ = _
        rw [World.cell?_alloc_at _ _ _ _ (by rfl)]; simp [at0]⟩⟩
    have hq1 := trim_q vs _ _ W.drew (hrq.ext hxd) hdone.lt
    have hq2 := trim_q vs _ _ _ (hrq.ext hxa) hdone.lt
    have hq3 := trim_q [r] _ _ _ hrr (by intro z hz; simp only [List.mem_singleton] at hz; omega)
    rw [hvl] at hq1 hq2
    have h4' := hxa.cellS h4
    have f4 := free_of_one ((hxa.block _ (lt_of_block h4b)).trans h4b)
    simp only [List.length_singleton] at hq3
    have hDW := lt_of_block hK
    have hKX : (((W.alloc (.cells #[.int .u64 (r : Nat)] 133)).setCell ⟨w.heap.size + 1, 0, none⟩ (.slice (some ⟨w1.heap.size, 0, none⟩) (pc 1000000000 (ofL 1000000000 vs)).length zs.length)).drew).heap[D]? = some (.deferred (some [])) := by
      show (((W.alloc (.cells #[.int .u64 (r : Nat)] 133)).setCell ⟨w.heap.size + 1, 0, none⟩ (.slice (some ⟨w1.heap.size, 0, none⟩) (pc 1000000000 (ofL 1000000000 vs)).length zs.length))).heap[D]? = _
      rw [Below.heap_setCell _ _ _ _ (show D ≠ w.heap.size + 1 by omega), Below.heap_alloc _ _ _ hDW]
      exact hK
    obtain ⟨X, hX⟩ : ∃ X, X = ((W.alloc (.cells #[.int .u64 (r : Nat)] 133)).setCell ⟨w.heap.size + 1, 0, none⟩ (.slice (some ⟨w1.heap.size, 0, none⟩) (pc 1000000000 (ofL 1000000000 vs)).length zs.length)).drew := ⟨_, rfl⟩
    have h4a := (hxa.block _ (lt_of_block h4b)).trans h4b
    have hcX : (X.putObj D (.deferred none)).cell? ⟨w.heap.size + 1, 0, none⟩ = some (.slice (some ⟨w1.heap.size, 0, none⟩) (pc 1000000000 (ofL 1000000000 vs)).length zs.length) := by
      refine cell_of_one (t := 159) ?_
      rw [World.putObj_heap_other (by omega), hX]
      exact one_setCell h4a
    have hpost : RetQR (x / y) (x % y) w (.returned (.tuple #[.slice (some ⟨w1.heap.size, 0, none⟩) (pc 1000000000 (ofL 1000000000 vs)).length zs.length, .slice (some ⟨W.heap.size, 0, none⟩) (pc 1000000000 (ofL 1000000000 [r])).length 1])) (X.putObj D (.deferred none)) := by
      have hsum := hdone.done
      have hzx : ofL 1000000000 zs = x := by rw [HZ.out, ofL_pc b9]
      rw [hzx] at hsum
      have e1 : ofL 1000000000 [r] = x % y := by simp [ofL, hsum.2]
      have k1 : RdAt (X.putObj D (.deferred none)) (some ⟨w1.heap.size, 0, none⟩) zs.length (pc 1000000000 (x / y)) := by
        rw [← hsum.1]
        refine RdAt.putObj ?_ (by rw [hX]; exact hKX) rfl _
        rw [hX]
        exact ((hrq.ext hxa).pc hdone.lt).setCell (w := (W.alloc (.cells #[.int .u64 (r : Nat)] 133)).drew) (cell_of_one h4a) (by simp)
      have k2 : RdAt (X.putObj D (.deferred none)) (some ⟨W.heap.size, 0, none⟩) 1 (pc 1000000000 (x % y)) := by
        rw [← e1]
        refine RdAt.putObj ?_ (by rw [hX]; exact hKX) rfl _
        rw [hX]
        exact (hrr.pc (by intro z hz; simp only [List.mem_singleton] at hz; omega)).setCell (w := (W.alloc (.cells #[.int .u64 (r : Nat)] 133)).drew) (cell_of_one h4a) (by simp)
      rw [hsum.1, e1]
      refine ⟨_, _, rfl, ⟨_, _, rfl, k1⟩, ⟨_, _, rfl, k2⟩, ?_⟩
      have hX2 : Ext w X := by
        rw [hX]
        exact (((hxx.alloc _).setCell (by show w.heap.size ≤ w.heap.size + 1; omega) _)).drew
      exact Below.trans hX2 (belowK_b (w := w) (Nat.le_refl _) X D _ _ (by omega) (by rw [hX]; exact hKX) rfl rfl)
    rw [hX] at hcX hpost
    clear hX
    gi_wp2
    refine wpIn_wide.2 (wp_region_noPanic ?_)
    go_region_with (go_at_call 182; ((first | (with_reducible refine hq1.mono ?_) | (with_reducible refine hq2.mono ?_) | (with_reducible refine hq3.mono ?_)); rintro e w' ⟨rfl, rfl⟩))
    all_goals refine NoPanic.normal ?_
    all_goals gi_wp2
    all_goals simp only [List.getElem_toArray, List.getElem_cons_succ, List.getElem_cons_zero, Act.put, List.setIfInBounds_toArray, List.set_cons_succ, List.set_cons_zero]
    all_goals refine ⟨by simp, .inl ⟨_, _, rfl, run_takeDeferred hKX, ?_⟩⟩
    all_goals exact ⟨_, by simp [results, Tryz.results179, go_sem, hcX], hpost⟩
  case stop =>
    rintro D c pre W _ _ h _
    exact h.elim
end Go.Proofs.YtblijhokcjpeeaaGreatDoor
namespace Go.Proofs.YtblijhokcjpeeaaGreatDoor
open Go.RowKit Kl Go.Shelf

set_option maxRecDepth 100000 in
set_option maxHeartbeats 1000000 in
theorem small_f (x d : Nat) (hd : d < 1000000000) (hl : (pc 1000000000 x).length < 40000) (u : Value) (w : World) (hu : Rd w u (pc 1000000000 x)) :
    Calls Tryz.prog 227 #[u, .int .u64 (d : Nat)] w (RetMF (x * d) w) := by
  have hx1 := (Ext.refl w).alloc (.cells #[.int .u64 (d : Nat)] 133)
  have hrr : RdAt (w.alloc (.cells #[.int .u64 (d : Nat)] 133)) (some ⟨w.heap.size, 0, none⟩) 1 [d] :=
    ⟨by simp, by omega, by simp, fun _ => ⟨w.heap.size, 0, rfl, fun j hj => by
      obtain rfl : j = 0 := by simpa using hj
      rw [World.cell?_alloc_at _ _ _ _ (by rfl)]; simp [at0]⟩⟩
  have hd' : ∀ z ∈ [d], z < 1000000000 := by intro z hz; simp only [List.mem_singleton] at hz; omega
  have hq := trim_q [d] _ _ _ hrr hd'
  have e1 : ofL 1000000000 [d] = d := by simp [ofL]
  have hl2 : (pc 1000000000 d).length ≤ 1 := pc_length_le b9 (by omega)
  have ht := times_f (pc 1000000000 x) (pc 1000000000 d) u _ _ (hu.ext hx1) ⟨_, _, rfl, by have := hrr.pc hd'; rw [e1] at this; exact this⟩ hl (by omega) (pc_lt b9 x) (pc_lt b9 d)
  rw [ofL_pc b9, ofL_pc b9] at ht
  rw [e1] at hq
  simp only [List.length_singleton] at hq
  clear hrr hd' e1
  go_enter Tryz.func227, Tryz.ntmps227
  go_wp2_with fail
  ((with_reducible refine hq.mono ?_); rintro e w1 ⟨rfl, rfl⟩)
  go_wp2_with fail
  ((with_reducible refine ht.mono ?_); rintro e w1 ⟨v, rfl, hv, hxv, hf⟩)
  have HF := Lib.hid hf
  clear hf
  go_wp2
  go_ret
  exact ⟨v, rfl, hv, hx1.trans hxv, fun b hb => by have := HF.out b hb; simp at this; omega⟩

theorem ofL_drop {b : Nat} (hb : 0 < b) : ∀ {l : List Nat} (k : Nat), (∀ x ∈ l, x < b) → ofL b (l.drop k) = ofL b l / b ^ k
  | l, 0, _ => by simp
  | [], k + 1, _ => by simp [ofL]
  | x :: l, k + 1, h => by
    rw [List.drop_succ_cons, ofL_drop hb k (fun y hy => h y (by simp [hy]))]
    simp only [ofL]
    have hx := h x (by simp)
    rw [Nat.pow_succ, Nat.mul_comm (b ^ k) b, ← Nat.div_div_eq_div_mul, Nat.add_mul_div_left _ _ hb, Nat.div_eq_of_lt hx, Nat.zero_add]

/-- The first piece of the divisor, the first one or two of the rest, and the estimate. -/
theorem est {y t : Nat} (hyt : y ≤ t) (htb : t < y * 1000000000) (hy0 : 0 < y) :
    let m := (pc 1000000000 y).length
    let n := (pc 1000000000 t).length
    0 < m ∧ 0 < at0 (pc 1000000000 y) (m - 1) ∧ m ≤ n ∧ n ≤ m + 1 ∧
      t / y ≤ (if m < n then at0 (pc 1000000000 t) (n - 1) * 1000000000 + at0 (pc 1000000000 t) (n - 2) else at0 (pc 1000000000 t) (n - 1)) / at0 (pc 1000000000 y) (m - 1) := by
  intro m n
  have hty := trim_pc b9 y
  have hltY := pc_lt b9 y
  have hltT := pc_lt b9 t
  have hoY := ofL_pc b9 y
  have hoT := ofL_pc b9 t
  have hneY : pc 1000000000 y ≠ [] := fun e => by have := (pc_eq_nil b9).1 e; omega
  have hm : 0 < m := List.length_pos_iff.2 hneY
  have hpy := pow_le_of_trim (b := 1000000000) hty hneY
  rw [hoY] at hpy
  have hyl : y < 1000000000 ^ m := by have := ofL_lt hltY; rwa [hoY] at this
  have htl : t < 1000000000 ^ n := by have := ofL_lt hltT; rwa [hoT] at this
  have hmn : m ≤ n := by
    rcases Nat.lt_or_ge n m with h | h
    · exfalso
      have h1 : (1000000000 : Nat) ^ n ≤ 1000000000 ^ (m - 1) := Nat.pow_le_pow_right (by omega) (by omega)
      change (1000000000 : Nat) ^ (m - 1) ≤ y at hpy
      omega
    · exact h
  have hnm : n ≤ m + 1 := by
    refine pc_length_le b9 ?_
    rw [Nat.pow_succ]
    calc t < y * 1000000000 := htb
      _ ≤ 1000000000 ^ m * 1000000000 := Nat.mul_le_mul_right _ (by omega)
  have e1 : at0 (pc 1000000000 y) (m - 1) = y / 1000000000 ^ (m - 1) := by
    have h := ofL_drop (b := 1000000000) (by omega) (m - 1) hltY
    rw [hoY] at h
    rw [← h, drop_at0 (by omega), List.drop_eq_nil_of_le (by omega)]
    simp [ofL]
  have e2 : (if m < n then at0 (pc 1000000000 t) (n - 1) * 1000000000 + at0 (pc 1000000000 t) (n - 2) else at0 (pc 1000000000 t) (n - 1)) = t / 1000000000 ^ (m - 1) := by
    have h := ofL_drop (b := 1000000000) (by omega) (m - 1) hltT
    rw [hoT] at h
    rw [← h]
    split
    · have e : n = m + 1 := by omega
      rw [drop_at0 (by omega), drop_at0 (by omega), List.drop_eq_nil_of_le (by omega)]
      simp only [ofL]
      rw [show n - 1 = m - 1 + 1 by omega, show n - 2 = m - 1 by omega]
      omega
    · have e : n = m := by omega
      rw [drop_at0 (by omega), List.drop_eq_nil_of_le (by omega)]
      simp only [ofL]
      rw [e]; omega
  have htop : 0 < at0 (pc 1000000000 y) (m - 1) := by
    rw [e1]
    exact Nat.div_pos hpy (Nat.pow_pos (by omega))
  refine ⟨hm, htop, hmn, hnm, ?_⟩
  rw [e2, Nat.le_div_iff_mul_le htop, Nat.le_div_iff_mul_le (Nat.pow_pos (by omega)), e1]
  calc t / y * (y / 1000000000 ^ (m - 1)) * 1000000000 ^ (m - 1) = t / y * (y / 1000000000 ^ (m - 1) * 1000000000 ^ (m - 1)) := by rw [Nat.mul_assoc]
    _ ≤ t / y * y := Nat.mul_le_mul_left _ (Nat.div_mul_le_self _ _)
    _ ≤ t := Nat.div_mul_le_self _ _

theorem run_append_none_c {P : Program} (w : World) (base : Nat) (t ty e : TypeId) (i : TypeInfo) (size : Nat) (ht : P.underlying t = some (.slice e)) (hi : P.info? e = some i)
    (v : Value) (n c : Nat) (xs : List Value) (hown : w.ownsRow base e size v n xs) :
    (Builtin.append_ #[t, t] ty #[v, .slice none 0 c]).run P w = .ok v w := by
  rcases hown.2 with ⟨rfl, rfl⟩ | ⟨g, cap, cur, rfl, _, _, hnc, _⟩
  · simp [Builtin.append_, run_underlying ht, sizeOf, typeInfo, hi, Builtin.lenOf, Builtin.firstCells]
  · simp [Builtin.append_, run_underlying ht, sizeOf, typeInfo, hi, Builtin.lenOf, Builtin.firstCells, hnc, storeCells]
/-- append of a list that can be read. -/
theorem appl {ops : Array Oper} {rest : List Oper} {o : Oper} {a : Act} {Q : Exit → Act → World → Prop} (hgd : o.guard = none) (s x : Operand) (ho : o.op = .call { callee := .builtin .append, args := #[s, x], argTypes := #[159, 159] })
    (wr : World) (base : Nat) (v : Value) (n : Nat) (xs : List Nat) (hs : a.eval s = v) (hown : wr.ownsRow base 133 1 v n (u64s xs)) (l : List Nat) (vx : Value) (hx : a.eval x = vx) (hr : Rd wr vx l) (hn : n + l.length < 200000) (hbase : base ≤ wr.heap.size)
    (h : ∀ v' w', w'.ownsRow base 133 1 v' (n + l.length) (u64s (xs ++ l)) → (∀ w0, Ext w0 wr → w0.heap.size ≤ base → Ext w0 w') → wpList Tryz.prog ops Q rest (a.put o.dst v') w') :
    wpList Tryz.prog ops Q (o :: rest) a wr := by
  obtain ⟨i0, hi, hz0, hz1, hz2⟩ := info_parts Tryz.infoU
  obtain ⟨A, c, rfl, hra⟩ := hr
  refine wpList_plain hgd fun K hK => ?_
  by_cases h0 : l.length = 0
  · obtain rfl : l = [] := List.length_eq_zero_iff.1 h0
    rw [List.append_nil] at h
    cases A with
    | none =>
      have hrun := run_append_none_c (P := Tryz.prog) wr base 159 o.type 133 i0 1 Tryz.underlying159 hi v n c (u64s xs) hown
      unfold Oper.wp execOp
      simp only [ho, resolve, invoke, builtin, Sem.run_bind, Sem.run_pure, Result.andThen_ok, List.map_toArray, List.map_cons, List.map_nil, hs, hx, List.length_nil, hrun]
      exact hK _ _ (h v wr hown fun w0 he hb => he)
    | some ad =>
      refine wp_append_own _ s x 159 ho base 133 i0 (.int .u64 0) 1 8 Tryz.underlying159 hi hz0 hz1 hz2 rfl (by omega) v n (u64s xs) hs hown ad 0 c [] hx rfl (fun j u hu => by simp at hu) (fun u hu => by simp at hu) (by unfold maxLen; omega) (by omega) hbase ?_
      intro v' w' h2 h3 _
      exact hK _ _ (h v' w' (by simpa using h2) fun w0 he hb => he.grownOwn h3 hown hb)
  · obtain ⟨b, off, rfl, hc⟩ := hra.ad (by omega)
    refine wp_append_own _ s x 159 ho base 133 i0 (.int .u64 0) 1 8 Tryz.underlying159 hi hz0 hz1 hz2 rfl (by omega) v n (u64s xs) hs hown ⟨b, off, none⟩ l.length c (u64s l) hx (by simp [u64s]) ?_ ?_ (by unfold maxLen; omega) (by omega) hbase ?_
    · intro j u hu
      have hj : j < l.length := by
        have := (List.getElem?_eq_some_iff.1 hu).1
        simpa [u64s] using this
      have e : (u64s l)[j]? = some (.int .u64 (at0 l j : Nat)) := by simp [u64s, at0, hj]
      rw [e] at hu
      rw [← Option.some.inj hu, Addr.add_lit]
      exact hc j hj
    · intro u hu
      simp only [u64s, List.mem_map] at hu
      obtain ⟨z, _, rfl⟩ := hu
      rfl
    · intro v' w' h2 h3 _
      exact hK _ _ (h v' w' (by simpa [u64s] using h2) fun w0 he hb => he.grownOwn h3 hown hb)

/-- Division by a piece, whatever is divided. -/
theorem divide_piece (x y : Nat) (hy0 : 0 < y) (hyB : y < 1000000000) (u v : Value) (w : World) (hu : Rd w u (pc 1000000000 x)) (hv : Rd w v (pc 1000000000 y)) :
    Calls Tryz.prog 179 #[u, v] w (RetQR (x / y) (x % y) w) := by
  rcases Nat.lt_or_ge x y with h | h
  · rw [Nat.div_eq_of_lt h, Nat.mod_eq_of_lt h]
    exact divide_lt x y h u v w hu hv
  · exact divide_one x y h hy0 hyB u v w hu hv
end Go.Proofs.YtblijhokcjpeeaaGreatDoor
