/- drawing: at, pixel. -/
import Derived.Test.YtblijhokcjpeeaaGreatDoorMK
/- vector.numbers, CheckPoint, drawing.points. -/
namespace Go.Proofs.YtblijhokcjpeeaaGreatDoor
open Go.RowKit Kl

/-- The cells of a row. -/
structure RdC (w : World) (A : Option Addr) (cs : List Value) : Prop where
  ad : 0 < cs.length → ∃ b o, A = some ⟨b, o, none⟩ ∧ ∀ j (h : j < cs.length), w.cell? ⟨b, o + j, none⟩ = some cs[j]
theorem RdC.ext {w w' : World} {A : Option Addr} {cs : List Value} (h : RdC w A cs) (hx : Ext w w') : RdC w' A cs :=
  ⟨fun h0 => by
    obtain ⟨b, o, e, hc⟩ := h.ad h0
    exact ⟨b, o, e, fun j hj => hx.cellS (hc j hj)⟩⟩
theorem RdC.lit (w : World) (cs : Array Value) (t : TypeId) : RdC (w.alloc (.cells cs t)) (some ⟨w.heap.size, 0, none⟩) cs.toList :=
  ⟨fun _ => ⟨w.heap.size, 0, rfl, fun j hj => by
    refine cell_of_blk (heap_alloc_new w _) ?_
    rw [Nat.zero_add, ← Array.getElem?_toList, List.getElem?_eq_getElem hj]⟩⟩
def okAll (l : List Bs) : Prop := ∀ x ∈ l, OkR x
theorem okAll_pair {x y : Bs} : okAll [x, y] ↔ OkR x ∧ OkR y := by unfold okAll; simp

open Classical in
set_option maxRecDepth 100000 in
set_option maxHeartbeats 1000000 in
theorem numbers_c (l : List Bs) (ok : Bool) (hok : ok = true ↔ okAll l) (A : Option Addr) (c : Nat) (w : World) (hw : Okw w) (hr : RdC w A (l.map S)) (_ : l.length ≤ c) (_ : c ≤ 9223372036854775807) (hl : l.length ≤ 100000) (hlen : ∀ x ∈ l, x.length < 100000) :
    Calls Tryz.prog 85 #[.slice A l.length c] w (RetI (chkV ok) w) := by
  have HV := Lib.hid hok
  have HL := Lib.hid hlen
  clear hok hlen
  go_enter Tryz.func85, Tryz.ntmps85
  go_wp2
  go_loopw [8] (fun i wr => ∃ j : Nat, i = .int .i64 (j : Nat) ∧ j ≤ l.length ∧ (∀ x ∈ l.take j, OkR x) ∧ Ext w wr) (fun i _ => l.length - (intOf i).toNat)
  case atStart => exact ⟨0, rfl, by omega, by simp, Ext.refl _⟩
  case round =>
    obtain ⟨j, rfl, hj, hok, hext⟩ := hrel
    have HO := Lib.hid hok
    clear hok
    by_cases hlt : j < l.length
    · obtain ⟨b, o, rfl, hcs⟩ := (hr.ext hext).ad (by simp; omega)
      have hg := hcs j (by simp; omega)
      rw [List.getElem_map] at hg
      clear hcs
      obtain ⟨x, hx⟩ : ∃ x, x = l[j] := ⟨_, rfl⟩
      rw [← hx] at hg
      have hmem : x ∈ l := by rw [hx]; exact List.getElem_mem hlt
      have ck := rCheck_c x (HL.out x hmem) wr (hw.ext hext)
      have HX := Lib.hid hx
      clear hx
      have hj0 : (0 : Int) ≤ (j : Int) := by omega
      have hjl : (j : Int) < (l.length : Int) := by omega
      by_cases hx : OkR x
      · rw [decide_eq_true hx, chkV_t] at ck
        go_wp2_with fail
        ((with_reducible refine ck.mono ?_); rintro e w2 ⟨rfl, hx2⟩)
        go_wp2
        go_roundw
        case rel =>
          refine ⟨j + 1, by go_num, hlt, ?_, hext.trans hx2⟩
          intro y hy
          rw [List.take_succ_eq_append_getElem hlt, ← HX.out] at hy
          rcases List.mem_append.1 hy with h | h
          · exact HO.out y h
          · simp only [List.mem_singleton] at h; rw [h]; exact hx
        case measure => simp [intOf]; omega
      · rw [decide_eq_false hx, chkV_f] at ck
        have hv : ok = false := by
          cases ok
          · rfl
          · exact absurd (HV.out.1 rfl x hmem) hx
        subst hv
        rw [chkV_f]
        go_wp2_with fail
        ((with_reducible refine ck.mono ?_); rintro e w2 ⟨rfl, hx2⟩)
        go_wp2
        go_ret
        exact ⟨rfl, hext.trans hx2⟩
    · have hv : ok = true := HV.out.2 (by
        have := HO.out
        rwa [List.take_of_length_le (by omega)] at this)
      subst hv
      rw [chkV_t]
      go_wp2
      go_ret
      exact ⟨rfl, hext⟩
set_option maxHeartbeats 1000000 in
theorem checkPoint_c (x y : Bs) (ok : Bool) (hok : ok = true ↔ OkR x ∧ OkR y) (hx : x.length < 100000) (hy : y.length < 100000) (w : World) (hw : Okw w) :
    Calls Tryz.prog 36 #[.agg #[S x, S y]] w (RetI (chkV ok) w) := by
  have e1 := (Ext.refl w).alloc (.cells #[S x, S y] 29)
  have e2 := e1.alloc (.cells #[S x, S y] 27)
  have hr := RdC.lit (w.alloc (.cells #[S x, S y] 29)) #[S x, S y] 27
  have nm := numbers_c [x, y] ok (by rw [hok, okAll_pair]) _ 2 _ (hw.ext e2) hr (by simp) (by omega) (by simp) (by intro z hz; simp only [List.mem_cons, List.not_mem_nil, or_false] at hz; rcases hz with rfl | rfl <;> assumption)
  simp only [List.length_cons, List.length_nil, Nat.zero_add, Nat.reduceAdd, World.size_alloc] at nm
  clear hr hok
  go_enter Tryz.func36, Tryz.ntmps36
  go_wp2_with fail
  ((with_reducible refine nm.mono ?_); rintro e w2 ⟨rfl, hx2⟩)
  go_wp2
  go_ret
  exact ⟨rfl, e2.trans hx2⟩

/-- A list of places, as texts. -/
def flat (l : List (Bs × Bs)) : List Value := l.flatMap fun p => [S p.1, S p.2]
theorem flat_length (l : List (Bs × Bs)) : (flat l).length = l.length * 2 := by
  induction l with
  | nil => rfl
  | cons p l ih => unfold flat at *; simp only [List.flatMap_cons, List.length_append, List.length_cons, List.length_nil]; omega
theorem flat_get : ∀ (l : List (Bs × Bs)) (j : Nat) (h : j < l.length), (flat l)[j * 2]? = some (S l[j].1) ∧ (flat l)[j * 2 + 1]? = some (S l[j].2)
  | p :: l, 0, _ => ⟨rfl, rfl⟩
  | p :: l, j + 1, h => by
    have ih := flat_get l j (by simpa using h)
    have e : flat (p :: l) = S p.1 :: S p.2 :: flat l := rfl
    rw [e, show (j + 1) * 2 = j * 2 + 1 + 1 by omega]
    exact ih
def okPts (l : List (Bs × Bs)) : Prop := ∀ p ∈ l, OkR p.1 ∧ OkR p.2
def shortPts (l : List (Bs × Bs)) : Prop := ∀ p ∈ l, p.1.length < 100000 ∧ p.2.length < 100000
open Classical in
set_option maxRecDepth 100000 in
set_option maxHeartbeats 1000000 in
theorem points_c (l : List (Bs × Bs)) (ok : Bool) (hok : ok = true ↔ okPts l) (A : Option Addr) (c : Nat) (w : World) (hw : Okw w) (hr : RdC w A (flat l)) (hc : l.length ≤ c) (hcm : c ≤ 9223372036854775807) (hlen : shortPts l) :
    Calls Tryz.prog 30 #[.slice A l.length c] w (RetI (chkV ok) w) := by
  have HV := Lib.hid hok
  have HL := Lib.hid hlen
  clear hok hlen
  go_enter Tryz.func30, Tryz.ntmps30
  go_wp2
  go_loopw [7] (fun i wr => ∃ j : Nat, i = .int .i64 (j : Nat) ∧ j ≤ l.length ∧ okPts (l.take j) ∧ Ext w wr) (fun i _ => l.length - (intOf i).toNat)
  case atStart => exact ⟨0, rfl, by omega, by simp [okPts], Ext.refl _⟩
  case round =>
    obtain ⟨j, rfl, hj, hok, hext⟩ := hrel
    have HO := Lib.hid hok
    clear hok
    by_cases hlt : j < l.length
    · obtain ⟨b, o, rfl, hcs⟩ := (hr.ext hext).ad (by rw [flat_length]; omega)
      obtain ⟨f1, f2⟩ := flat_get l j hlt
      have hg1 := hcs (j * 2) (by rw [flat_length]; omega)
      have hg2 := hcs (j * 2 + 1) (by rw [flat_length]; omega)
      rw [List.getElem?_eq_getElem (by rw [flat_length]; omega), Option.some.injEq] at f1 f2
      rw [f1] at hg1
      rw [f2, ← Nat.add_assoc] at hg2
      clear hcs f1 f2
      obtain ⟨p, hp⟩ : ∃ p, p = l[j] := ⟨_, rfl⟩
      rw [← hp] at hg1 hg2
      have hmem : p ∈ l := by rw [hp]; exact List.getElem_mem hlt
      obtain ⟨x, y⟩ := p
      have hx1 := hext.alloc (.cells #[S x, S y] 29)
      have HX := Lib.hid hp
      clear hp
      have hj0 : (0 : Int) ≤ (j : Int) := by omega
      have hjl : (j : Int) < (l.length : Int) := by omega
      by_cases hx : OkR x ∧ OkR y
      · have ck := checkPoint_c x y true (by simp [hx]) (HL.out _ hmem).1 (HL.out _ hmem).2 _ (hw.ext hx1)
        rw [chkV_t] at ck
        go_wp2_with fail
        ((with_reducible refine ck.mono ?_); rintro e w2 ⟨rfl, hx2⟩)
        go_wp2
        go_roundw
        case rel =>
          refine ⟨j + 1, by go_num, hlt, ?_, hx1.trans hx2⟩
          intro y hy
          rw [List.take_succ_eq_append_getElem hlt, ← HX.out] at hy
          rcases List.mem_append.1 hy with h | h
          · exact HO.out y h
          · simp only [List.mem_singleton] at h; rw [h]; exact hx
        case measure => simp [intOf]; omega
      · have ck := checkPoint_c x y false (by simp only [Bool.false_eq_true, false_iff]; exact hx) (HL.out _ hmem).1 (HL.out _ hmem).2 _ (hw.ext hx1)
        rw [chkV_f] at ck
        have hv : ok = false := by
          cases ok
          · rfl
          · exact absurd (HV.out.1 rfl _ hmem) hx
        subst hv
        rw [chkV_f]
        go_wp2_with fail
        ((with_reducible refine ck.mono ?_); rintro e w2 ⟨rfl, hx2⟩)
        go_wp2
        go_ret
        exact ⟨rfl, hx1.trans hx2⟩
    · have hv : ok = true := HV.out.2 (by
        have := HO.out
        rwa [List.take_of_length_le (by omega)] at this)
      subst hv
      rw [chkV_t]
      go_wp2
      go_ret
      exact ⟨rfl, hext⟩
end Go.Proofs.YtblijhokcjpeeaaGreatDoor
/- drawing: nearest, at. -/
namespace Go.Proofs.YtblijhokcjpeeaaGreatDoor
open Go.RowKit Kl

theorem half_eq : (1/2 : Rat) = mkRat 1 2 := by rw [Rat.mkRat_eq_div]; rfl
theorem half_num : (1/2 : Rat).num = 1 := by rw [half_eq, Rat.num_mkRat]; decide
theorem half_den : (1/2 : Rat).den = 2 := by rw [half_eq, Rat.den_mkRat]; decide
theorem R_half : R (1/2) = [49, 47, 50] := by
  rw [R_def, half_num, half_den]
  unfold frac
  rw [if_neg (by omega), I_one, D_small (by omega)]
  rfl
theorem Sz_half : Sz 1 (1/2) := ⟨by rw [half_num]; decide, by rw [half_den]; decide⟩
theorem Sz_int4 {n : Nat} (hn : n ≤ 2000) : Sz 4 ((n : Int) : Rat) := Sz.int (by omega) (by
  have : (10 : Nat) ^ 4 = 10000 := by decide
  rw [Int.natAbs_natCast]; omega)
set_option maxRecDepth 100000 in
set_option maxHeartbeats 1000000 in
theorem nearest_ok (p q : Rat) (n : Nat) (hq : q ≠ 0) {a b : Nat} (hp : Sz a p) (hqz : Sz b q) (ha : 0 < a) (hb : 0 < b) (hab : a + b ≤ 3900) (hn : n ≤ 2000) (h1 : -1000000 ≤ nearR p q n) (h2 : nearR p q n ≤ 1000000) (w : World) (hw : Okw w) :
    Calls Tryz.prog 81 #[S (R p), S (R q), .int .i64 (n : Nat)] w (RetV (.tuple #[.int .i64 (nearR p q n), .bool true]) w) := by
  have wh := rWhole_c (n : Int) (by omega) (by omega)
  have hnz : Sz 4 ((n : Int) : Rat) := Sz_int4 hn
  have ml := rMul_c p ((n : Int) : Rat) (a := a) (b := 4) ⟨hp, hnz, ha, by omega, by omega⟩
  have dv := rDiv_c (p * ((n : Int) : Rat)) q hq (a := a + 4) (b := b) ⟨hp.mul hnz, hqz, by omega, hb, by omega⟩
  have hxz : Sz (a + 4 + b) (p * ((n : Int) : Rat) / q) := Sz.div hb (hp.mul hnz) hqz
  have ad := rAdd_c (p * ((n : Int) : Rat) / q) (1/2) (a := a + 4 + b) (b := 1) ⟨hxz, Sz_half, by omega, by omega, by omega⟩
  rw [R_half] at ad
  have fl := rFloor_c (p * ((n : Int) : Rat) / q + 1/2) (k := a + 4 + b + 1 + 1) (by omega) (by omega) (hxz.add Sz_half)
  have e : nearR p q n = (p * ((n : Int) : Rat) / q + 1/2).floor := by unfold nearR; rfl
  rw [← e] at fl
  obtain ⟨z, hz⟩ : ∃ z, z = nearR p q n := ⟨_, rfl⟩
  rw [← hz] at fl h1 h2 ⊢
  have sm := iSmall_c z (Bnd.small (by omega) (by omega))
  have es : smallI z = .tuple #[.int .i64 z, .bool true] := if_pos ⟨by omega, by omega⟩
  rw [es] at sm
  have d1 : decide (z ≤ 1000000) = true := by rw [decide_eq_true_eq]; exact h2
  have d2 : decide (-1000000 ≤ z) = true := by rw [decide_eq_true_eq]; exact h1
  unfold retRE at dv
  clear hq hp hqz ha hb hab hnz hxz e hz es
  go_enter Tryz.func81, Tryz.ntmps81
  go_wp2_with fail
  ((with_reducible refine (wh _ hw).mono ?_); rintro e w1 ⟨rfl, hx⟩)
  go_wp2_with fail
  ((with_reducible refine (ml _ (hw.ext hx)).mono ?_); rintro e w2 ⟨rfl, hx2⟩)
  replace hx := hx.trans hx2
  go_wp2_with fail
  ((with_reducible refine (dv _ (hw.ext hx)).mono ?_); rintro e w3 ⟨rfl, hx3⟩)
  replace hx := hx.trans hx3
  go_wp2_with fail
  ((with_reducible refine (ad _ (hw.ext hx)).mono ?_); rintro e w4 ⟨rfl, hx4⟩)
  replace hx := hx.trans hx4
  go_wp2_with fail
  ((with_reducible refine (fl _ (hw.ext hx)).mono ?_); rintro e w5 ⟨rfl, hx5⟩)
  replace hx := hx.trans hx5
  go_wp2_with fail
  ((with_reducible refine (sm _ (hw.ext hx)).mono ?_); rintro e w6 ⟨rfl, hx6⟩)
  replace hx := hx.trans hx6
  go_wp2
  go_ret2
  exact ⟨rfl, hx⟩

set_option maxRecDepth 100000 in
set_option maxHeartbeats 1000000 in
theorem part_c (x y k : Rat) {i j m : Nat} (hx : Sz i x) (hy : Sz j y) (hk : Sz m k) (hi : 0 < i) (hj : 0 < j) (hm : 0 < m) (hs : 2 * i + j + m ≤ 3900) (b : Nat) (w : World) (hw : Okw w) (hc : w.cell? ⟨b, 0, none⟩ = some (S (R k))) :
    Calls Tryz.prog 103 #[S (R x), S (R y), .pointer (some ⟨b, 0, none⟩)] w (RetS (R (stepR x y k)) w) := by
  have sb := rSub_c y x (a := j) (b := i) ⟨hy, hx, hj, hi, by omega⟩
  have ml := rMul_c k (y - x) (a := m) (b := j + i + 1) ⟨hk, hy.sub hx, hm, by omega, by omega⟩
  have ad := rAdd_c x (k * (y - x)) (a := i) (b := m + (j + i + 1)) ⟨hx, hk.mul (hy.sub hx), hi, by omega, by omega⟩
  have hxd := (Ext.refl w).drew
  clear hx hy hk
  go_enter Tryz.func103, Tryz.ntmps103
  go_wp2_with fail
  go_region_held3 (fun w' => w'.cell? ⟨b, 0, none⟩ = some (S (R k)))
    (first | go_keep | exact (hxd.trans hx1).cellS hc | exact (hxd.trans (hx1.trans hx2)).cellS hc | exact (hxd.trans (hx1.trans (hx2.trans hx3))).cellS hc)
    (first | ((with_reducible refine (sb _ (hw.ext hxd)).mono ?_); rintro e w1 ⟨rfl, hx1⟩) | ((with_reducible refine (ml _ (hw.ext (hxd.trans hx1))).mono ?_); rintro e w2 ⟨rfl, hx2⟩) | ((with_reducible refine (ad _ (hw.ext (hxd.trans (hx1.trans hx2)))).mono ?_); rintro e w3 ⟨rfl, hx3⟩))
  go_wp2
  go_ret
  exact ⟨rfl, hxd.trans (hx1.trans (hx2.trans hx3))⟩
end Go.Proofs.YtblijhokcjpeeaaGreatDoor
namespace Go.Proofs.YtblijhokcjpeeaaGreatDoor
open Go.RowKit Kl

theorem blk3 (w : World) (o1 o2 o3 : Obj) : ∃ W, W = ((w.alloc o1).alloc o2).alloc o3 ∧ Ext w W ∧ W.heap[w.heap.size]? = some o1 ∧ W.heap[w.heap.size + 1]? = some o2 ∧ W.heap[w.heap.size + 1 + 1]? = some o3 := by
  have h2 := heap_alloc_new (w.alloc o1) o2
  have h3 := heap_alloc_new ((w.alloc o1).alloc o2) o3
  rw [World.size_alloc] at h2
  rw [World.size_alloc, World.size_alloc] at h3
  refine ⟨_, rfl, (((Ext.refl _).alloc _).alloc _).alloc _, ?_, ?_, h3⟩
  · exact (Below.heap_alloc _ _ _ (by simp; omega)).trans ((Below.heap_alloc _ _ _ (by simp)).trans (heap_alloc_new w o1))
  · exact (Below.heap_alloc _ _ _ (by simp)).trans h2
theorem set2 {w : World} {b : Nat} {a0 a1 : Value} (v0 v1 : Value) (g1 : w.cell? ⟨b, 0, none⟩ = some a0) (g2 : w.cell? ⟨b, 1, none⟩ = some a1) :
    ((w.setCell ⟨b, 0, none⟩ v0).setCell ⟨b, 1, none⟩ v1).cell? ⟨b, 0, none⟩ = some v0 ∧ ((w.setCell ⟨b, 0, none⟩ v0).setCell ⟨b, 1, none⟩ v1).cell? ⟨b, 1, none⟩ = some v1 := by
  refine ⟨(World.cell?_setCell_other _ _ _ _ (by simp)).trans (World.cell?_setCell_same _ _ _ g1), ?_⟩
  exact World.cell?_setCell_same _ _ _ ((World.cell?_setCell_other _ _ _ _ (by simp)).trans g2)
def ptV (p : Pt) : Value := .agg #[S (R p.x), S (R p.y)]
def sgV (s : Sg) : Value := .agg #[S (R s.a.x), S (R s.a.y), S (R s.b.x), S (R s.b.y)]
def cvV (c : Cv) : Value := .agg #[S (R c.low.x), S (R c.low.y), S (R c.high.x), S (R c.high.y), .int .i64 (c.W : Nat), .int .i64 (c.H : Nat)]
structure SzP (k : Nat) (p : Pt) : Prop where
  x : Sz k p.x
  y : Sz k p.y
structure SzS (k : Nat) (s : Sg) : Prop where
  a : SzP k s.a
  b : SzP k s.b
theorem sz_step {i j m : Nat} {x y k : Rat} (hx : Sz i x) (hy : Sz j y) (hk : Sz m k) : Sz (2 * i + j + m + 2) (stepR x y k) :=
  (hx.add (hk.mul (hy.sub hx))).mono (by omega)
theorem szs_at {i m : Nat} {s : Sg} {k : Rat} (hs : SzS i s) (hk : Sz m k) : SzP (3 * i + m + 2) (atR s k) :=
  ⟨(sz_step hs.a.x hs.b.x hk).mono (by omega), (sz_step hs.a.y hs.b.y hk).mono (by omega)⟩

set_option maxRecDepth 100000 in
set_option maxHeartbeats 2000000 in
theorem at_c (s : Sg) (k : Rat) {i m : Nat} (hs : SzS i s) (hk : Sz m k) (hi : 0 < i) (hm : 0 < m) (him : 3 * i + m ≤ 3900) (w : World) (hw : Okw w) :
    Calls Tryz.prog 52 #[sgV s, S (R k)] w (RetV (ptV (atR s k)) w) := by
  have hmf : ∀ (fn : Fn) (first cap : Array Value) (w : World), (Instr.makeFunc fn first cap).run Tryz.prog w = .ok (.func fn first cap) w := fun _ _ _ _ => rfl
  have p1 := part_c s.a.x s.b.x k hs.a.x hs.b.x hk hi hi hm (by omega)
  have p2 := part_c s.a.y s.b.y k hs.a.y hs.b.y hk hi hi hm (by omega)
  unfold sgV ptV
  clear hs hk
  go_enter Tryz.func52, Tryz.ntmps52
  go_wp2_with fail
  clear hmf
  obtain ⟨W, hW, hE, hb1, hb2, hb3⟩ := blk3 w (.cells #[S (R s.a.x), S (R s.a.y), S (R s.b.x), S (R s.b.y)] 31) (.cells #[S (R k)] 27) (.cells #[S [], S []] 29)
  rw [show (⟨#[]⟩ : ByteArray) = ⟨([] : Bs).toArray⟩ from rfl, ← hW]
  have k1 : W.cell? ⟨w.heap.size, 0, none⟩ = some (S (R s.a.x)) := cell_of_blk hb1 rfl
  have k2 : W.cell? ⟨w.heap.size, 1, none⟩ = some (S (R s.a.y)) := cell_of_blk hb1 rfl
  have k3 : W.cell? ⟨w.heap.size, 2, none⟩ = some (S (R s.b.x)) := cell_of_blk hb1 rfl
  have k4 : W.cell? ⟨w.heap.size, 3, none⟩ = some (S (R s.b.y)) := cell_of_blk hb1 rfl
  have k5 : W.cell? ⟨w.heap.size + 1, 0, none⟩ = some (S (R k)) := cell_of_blk hb2 rfl
  have k5d : W.drew.cell? ⟨w.heap.size + 1, 0, none⟩ = some (S (R k)) := k5
  have hbl : w.heap.size + 1 + 1 < W.drew.heap.size := lt_of_block hb3
  have hb3d : W.drew.heap[w.heap.size + 1 + 1]? = _ := hb3
  have hWd := (Ext.refl W).drew
  have hEd := hE.drew
  clear hW hb1 hb2
  go_region_held3 (fun w' => w'.cell? ⟨w.heap.size, 0, none⟩ = some (S (R s.a.x)) ∧ w'.cell? ⟨w.heap.size, 1, none⟩ = some (S (R s.a.y)) ∧ w'.cell? ⟨w.heap.size, 2, none⟩ = some (S (R s.b.x)) ∧ w'.cell? ⟨w.heap.size, 3, none⟩ = some (S (R s.b.y)))
    (first | go_keep | (refine ⟨?_, ?_, ?_, ?_⟩ <;> (rw [World.cell?_setCell_far _ _ _ _ (by show w.heap.size + 1 + 1 ≠ w.heap.size; omega), World.cell?_setCell_far _ _ _ _ (by show w.heap.size + 1 + 1 ≠ w.heap.size; omega)]; assumption)))
    (first | (go_simp; (with_reducible refine (p1 (w.heap.size + 1) _ (hw.ext hEd) k5d).mono ?_); rintro e w1 ⟨rfl, hx1⟩; dsimp only; have r1 := (hWd.trans hx1).cellS k1; have r2 := (hWd.trans hx1).cellS k2; have r3 := (hWd.trans hx1).cellS k3; have r4 := (hWd.trans hx1).cellS k4) | (go_simp; (with_reducible refine (p2 (w.heap.size + 1) _ (hw.ext (hEd.trans hx1)) (hx1.cellS k5d)).mono ?_); rintro e w2 ⟨rfl, hx2⟩; dsimp only; have q1 := hx2.cellS r1; have q2 := hx2.cellS r2; have q3 := hx2.cellS r3; have q4 := hx2.cellS r4; have hb4 := ((hx1.trans hx2).block _ hbl).trans hb3d; have g1 : w2.cell? ⟨w.heap.size + 1 + 1, 0, none⟩ = some (S []) := cell_of_blk hb4 rfl; have g2 : w2.cell? ⟨w.heap.size + 1 + 1, 1, none⟩ = some (S []) := cell_of_blk hb4 rfl; have g3 : w2.frozen? ⟨w.heap.size + 1 + 1, 0, none⟩ = false := free_of_blk hb4; have g4 : w2.frozen? ⟨w.heap.size + 1 + 1, 1, none⟩ = false := free_of_blk hb4))
  obtain ⟨e1, e2⟩ := set2 (S (R (stepR s.a.x s.b.x k))) (S (R (stepR s.a.y s.b.y k))) g1 g2
  go_wp2
  refine bodyPost_ret (v := .agg #[S (R (stepR s.a.x s.b.x k)), S (R (stepR s.a.y s.b.y k))]) (by simp [results, Tryz.results52, go_sem, e1, e2]) rfl ?_
  exact ⟨rfl, ((hEd.trans (hx1.trans hx2)).setCell (by show w.heap.size ≤ w.heap.size + 1 + 1; omega) _).setCell (by show w.heap.size ≤ w.heap.size + 1 + 1; omega) _⟩
end Go.Proofs.YtblijhokcjpeeaaGreatDoor
