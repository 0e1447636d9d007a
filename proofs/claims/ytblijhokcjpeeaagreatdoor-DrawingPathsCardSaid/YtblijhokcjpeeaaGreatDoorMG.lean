/- integer: the operations. -/
import Derived.Test.YtblijhokcjpeeaaGreatDoorMF
import Derived.Deep.DeepCutAuto
import Derived.Deep.RegionHeld3
import Derived.Deep.QuietTactic
import Derived.BigQuiet
/- integer.divide: long division. -/
namespace Go.Proofs.YtblijhokcjpeeaaGreatDoor
open Go.RowKit Kl Go.Shelf

theorem Rd.setCell {w : World} {v0 : Value} {l : List Nat} (h : Rd w v0 l) {p : Addr} {v u : Value} (hp : w.cell? p = some v) (hv : ∀ n, v ≠ .int .u64 n) : Rd (w.setCell p u) v0 l := by
  obtain ⟨A, c, e, h⟩ := h
  exact ⟨A, c, e, h.setCell hp hv⟩
theorem RdAt.block_lt {w : World} {A : Option Addr} {c : Nat} {l : List Nat} (h : RdAt w A c l) (h0 : 0 < l.length) : ∃ b o, A = some ⟨b, o, none⟩ ∧ b < w.heap.size := by
  obtain ⟨b, o, e, hc⟩ := h.ad h0
  exact ⟨b, o, e, World.block_lt_of_cell? w ⟨b, o + 0, none⟩ (hc 0 h0)⟩
theorem RdAt.setOther {w : World} {A : Option Addr} {c : Nat} {l : List Nat} (h : RdAt w A c l) {p : Addr} (u : Value) (hp : ∀ b o, 0 < l.length → A = some ⟨b, o, none⟩ → b ≠ p.block) : RdAt (w.setCell p u) A c l :=
  ⟨h.cap, h.max, h.len, fun h0 => by
    obtain ⟨b, o, e, hc⟩ := h.ad h0
    refine ⟨b, o, e, fun j hj => ?_⟩
    rw [World.cell?_setCell_other _ _ _ _ (fun e2 => hp b o h0 e (by rw [e2]))]
    exact hc j hj⟩

theorem pc_len_mono {a b : Nat} (h : a ≤ b) : (pc 1000000000 a).length ≤ (pc 1000000000 b).length := by
  refine pc_length_le b9 ?_
  have h1 := ofL_lt (pc_lt b9 b)
  rw [ofL_pc b9] at h1
  omega
theorem pc_len_mul {x f k : Nat} (h : (pc 1000000000 x).length < k) (hf : f < 1000000000) : (pc 1000000000 (x * f)).length ≤ k := by
  refine pc_length_le b9 ?_
  have h1 := ofL_lt (pc_lt b9 x)
  rw [ofL_pc b9] at h1
  have h2 : (1000000000 : Nat) ^ (pc 1000000000 x).length * 1000000000 ≤ 1000000000 ^ k := by
    rw [← Nat.pow_succ]; exact Nat.pow_le_pow_right (by omega) h
  exact Nat.lt_of_lt_of_le (Nat.mul_lt_mul'' h1 hf) h2
theorem set_at0 {l : List Nat} {j y : Nat} (h : at0 l j = y) (hj : j < l.length) : l.set j y = l := by
  rw [← h]
  apply List.ext_getElem?
  intro i
  rw [List.getElem?_set]
  split
  · next e => subst e; simp [at0, hj]
  · rfl
/-- Between two rounds. -/
def LongR (wb : World) (xs : List Nat) (Y Q : Nat) (r i : Value) (wr : World) : Prop :=
  ∃ (k : Nat) (vs : List Nat) (rn : Nat) (z : Int), i = .int .i64 z ∧ z = (k : Int) - 1 ∧ Div1Inv xs vs Y k rn ∧ (∀ j, j < k → at0 vs j = 0) ∧ Rd wr r (pc 1000000000 rn)
    ∧ wr.ownsRow Q 133 1 (.slice (some ⟨Q, 0, none⟩) xs.length xs.length) xs.length (u64s vs) ∧ Ext wb wr

set_option maxRecDepth 100000 in
set_option maxHeartbeats 4000000 in
theorem divide_long (x y : Nat) (hyx : y ≤ x) (hyB : 1000000000 ≤ y) (hlx : (pc 1000000000 x).length < 39000) (u v : Value) (w : World) (hu : Rd w u (pc 1000000000 x)) (hv : Rd w v (pc 1000000000 y)) :
    Calls Tryz.prog 179 #[u, v] w (RetQR (x / y) (x % y) w) := by
  have hord := fun W hu hv => order_c (pc 1000000000 x) (pc 1000000000 y) u v W hu hv (pc_lt b9 x) (pc_lt b9 y) (trim_pc b9 x) (trim_pc b9 y)
  obtain ⟨s, hs, hs0⟩ : ∃ s : Int, s = cmpN x y ∧ ¬ s < 0 := by
    rcases Nat.lt_or_eq_of_le hyx with h | h
    · exact ⟨_, rfl, by rw [cmpN_gt h]; omega⟩
    · exact ⟨_, rfl, by rw [cmpN_eq h.symm]; omega⟩
  rw [ofL_pc b9, ofL_pc b9, ← hs] at hord
  clear hs
  have hx1 := ((Ext.refl w).alloc (.cells #[v] 159)).alloc (.cells #[.slice none 0 0] 159)
  have ho := hord _ (hu.ext hx1) (hv.ext hx1)
  clear hord
  obtain ⟨hm0, htop, -, -, -⟩ := est (y := y) (t := y) (Nat.le_refl _) (by omega) (by omega)
  have hm2 : 2 ≤ (pc 1000000000 y).length := by
    rcases Nat.lt_or_ge (pc 1000000000 y).length 2 with h | h
    · exfalso
      have h1 := ofL_lt (pc_lt b9 y)
      rw [ofL_pc b9] at h1
      have h2 : (1000000000 : Nat) ^ (pc 1000000000 y).length ≤ 1000000000 ^ 1 := Nat.pow_le_pow_right (by omega) (by omega)
      omega
    · exact h
  have htl : at0 (pc 1000000000 y) ((pc 1000000000 y).length - 1) < 1000000000 := at0_lt (pc_lt b9 y) (by omega)
  have hud := hu
  have hvd := hv
  obtain ⟨A, ca, e1, hra⟩ := hud
  obtain ⟨B, cb, e2, hrb⟩ := hvd
  have hlb := hrb.len
  have hcb := hrb.cap
  have hmb := hrb.max
  obtain ⟨bb, ob, rfl, hcs⟩ := hrb.ad (by omega)
  have hcy := hcs ((pc 1000000000 y).length - 1) (by omega)
  clear hcs
  obtain ⟨m, hm⟩ : ∃ m, m = (pc 1000000000 y).length := ⟨_, rfl⟩
  obtain ⟨tp, htp⟩ : ∃ tp, tp = at0 (pc 1000000000 y) (m - 1) := ⟨_, rfl⟩
  rw [← hm] at hlb hcb hm2 hm0 e2 hcy htl htop
  rw [← htp] at htop htl hcy
  have HM := Lib.hid hm
  have HT := Lib.hid htp
  clear hm htp
  obtain ⟨f, hfe, hf0, hf9⟩ : ∃ f : Nat, (1000000000 : Int) / ((tp : Int) + 1) = (f : Int) ∧ 0 < f ∧ f < 1000000000 := by
    refine ⟨1000000000 / (tp + 1), by simp, Nat.div_pos (by omega) (by omega), Nat.div_lt_self (by omega) (by omega)⟩
  rw [e1, e2] at ho
  rw [e2] at hx1
  have hm1 : (((m : Nat) : Int) == 1) = false := by rw [beq_eq_false_iff_ne]; omega
  subst e1 e2
  go_enter Tryz.func179, Tryz.ntmps179
  go_wp2_with fail
  ((with_reducible refine ho.mono ?_); rintro e w1 ⟨rfl, hx2⟩)
  obtain ⟨hc2, hf2⟩ := hx2.cells
  have hcy1 := hx2.cellS (hx1.cellS hcy)
  have hb0 := (hx2.block w.heap.size (by simp; omega)).trans ((Below.heap_alloc _ _ _ (by simp)).trans (heap_alloc_new w _))
  have hb1 := hx2.block (w.heap.size + 1) (by simp)
  have hb1' := heap_alloc_new (w.alloc (.cells #[.slice (some ⟨bb, ob, none⟩) m cb] 159)) (.cells #[.slice none 0 0] 159)
  rw [World.size_alloc] at hb1'
  have hb1 := hb1.trans hb1'
  clear hb1'
  go_upto_region 13 with fail
  have hxd : Ext w w1.drew := (hx1.trans hx2).drew
  have hlm : (pc 1000000000 y).length ≤ (pc 1000000000 x).length := pc_length_le b9 (by have := ofL_lt (pc_lt b9 x); rw [ofL_pc b9] at this; omega)
  have c1 := small_f x f hf9 (by omega) _ w1.drew (hu.ext hxd)
  have c2 := fun W (hW : Ext w1.drew W) => small_f y f hf9 (by omega) _ W (hv.ext (hxd.trans hW))
  have HLM := Lib.hid hlm
  simp only [← hfe] at c1 c2
  have HFE := Lib.hid hfe
  clear hfe hlm
  go_cut [0] (fun v0 wx => ∃ vb, Rd wx v0 (pc 1000000000 (x * f)) ∧ Rd wx vb (pc 1000000000 (y * f)) ∧ wx.heap[w.heap.size]? = some (.cells #[vb] 159 (0, 0)) ∧ wx.heap[w.heap.size + 1]? = some (.cells #[.slice none 0 0] 159 (0, 0)) ∧ Ext w wx)
  case first =>
    refine wp_region_noPanic ?_
    go_region_with (go_at_call 227; (first | ((with_reducible refine c1.mono ?_); rintro e w2 ⟨va, rfl, hva, hx3, hf3⟩; clear hf3; have hb2 := (hx3.block _ (lt_of_block hb0)).trans hb0; have hg0 := cell_of_one hb2) | ((with_reducible refine (c2 _ (by assumption)).mono ?_); rintro e w3 ⟨vb, rfl, ⟨B2, cb2, rfl, hvb⟩, hx4, hf4⟩; clear hf4; have hb3 := (hx4.block _ (lt_of_block hb2)).trans hb2; have hg3 := cell_of_one hb3; have hg4 := free_of_one hb3)))
    all_goals refine NoPanic.normal ?_
    all_goals go_wp2
    all_goals go_meet
    all_goals exact ⟨_, (hva.ext hx4).setCell hg3 (by simp), Rd.setCell ⟨B2, cb2, rfl, hvb⟩ hg3 (by simp), one_setCell hb3, by rw [Below.heap_setCell _ _ _ _ (by show w.heap.size + 1 ≠ w.heap.size; omega)]; exact (hx4.block _ (by have := hx3.size; have := lt_of_block hb1; show w.heap.size + 1 < _; have h9 : w1.drew.heap.size = w1.heap.size := rfl; omega)).trans ((hx3.block _ (lt_of_block hb1)).trans hb1), ((hxd.trans hx3).trans hx4).setCell (by show w.heap.size ≤ w.heap.size; omega) _⟩
  case rest =>
    obtain ⟨vb, ⟨A1, ca1, rfl, hra1⟩, ⟨B1, cb1, rfl, hrb1⟩, hkb, hkq, hxc⟩ := hcut
    clear c1 c2 hb0 hb1 hxd hx2 hc2 hf2 hcy1 hcy ho hx1 hu hv hra hrb
    have hlX : (pc 1000000000 (x * f)).length ≤ 39000 := pc_len_mul hlx hf9
    have hY0 : 0 < y * f := Nat.mul_pos (by omega) hf0
    have hlY : (pc 1000000000 (y * f)).length ≤ 39000 := Nat.le_trans (pc_len_mono (Nat.mul_le_mul_right f hyx)) hlX
    obtain ⟨X, hX⟩ : ∃ X, X = x * f := ⟨_, rfl⟩
    obtain ⟨Y, hY⟩ : ∃ Y, Y = y * f := ⟨_, rfl⟩
    rw [← hX] at hra1 hlX ⊢
    rw [← hY] at hrb1 hlY hY0 hkb
    have HX := Lib.hid hX
    have HY := Lib.hid hY
    clear hX hY
    obtain ⟨hM0, hTop0, -, -, -⟩ := est (y := Y) (t := Y) (Nat.le_refl _) (by omega) hY0
    have hTop9 : at0 (pc 1000000000 Y) ((pc 1000000000 Y).length - 1) < 1000000000 := at0_lt (pc_lt b9 Y) (by omega)
    obtain ⟨b1, o1, rfl, hcs1⟩ := hrb1.ad hM0
    have hct := hcs1 ((pc 1000000000 Y).length - 1) (by omega)
    clear hcs1
    have hcapY := hrb1.cap
    have hmaxY := hrb1.max
    obtain ⟨M, hM⟩ : ∃ M, M = (pc 1000000000 Y).length := ⟨_, rfl⟩
    obtain ⟨T, hT⟩ : ∃ T, T = at0 (pc 1000000000 Y) (M - 1) := ⟨_, rfl⟩
    obtain ⟨xs, hxs⟩ : ∃ xs, xs = pc 1000000000 X := ⟨_, rfl⟩
    have hltx : ∀ z ∈ xs, z < 1000000000 := by rw [hxs]; exact pc_lt b9 X
    rw [← hM] at hlY hM0 hct hcapY hTop0 hTop9 hkb
    rw [← hT] at hct hTop0 hTop9
    rw [← hxs] at hra1 hlX ⊢
    have HM' := Lib.hid hM
    have HT' := Lib.hid hT
    have HXS := Lib.hid hxs
    clear hM hT hxs
    have hgq := cell_of_one hkq
    have hfq := free_of_one hkq
    have hgb := cell_of_one hkb
    have hsb := lt_of_block hkb
    have hsq := lt_of_block hkq
    have hb1 := World.block_lt_of_cell? wc _ hct
    have hmk := mk_u64n xs.length (by omega) (xs.length : Int) rfl
    go_upto_region 15 with fail
    clear hmk
    have hra2 := hra1.setCell (u := .slice (some ⟨wc.heap.size, 0, none⟩) xs.length xs.length) hgq (by simp)
    have hrb2 := hrb1.setCell (u := .slice (some ⟨wc.heap.size, 0, none⟩) xs.length xs.length) hgq (by simp)
    have hkq2 := one_setCell (u := .slice (some ⟨wc.heap.size, 0, none⟩) xs.length xs.length) hkq
    have hkb2 := (Below.heap_setCell wc ⟨w.heap.size + 1, 0, none⟩ (.slice (some ⟨wc.heap.size, 0, none⟩) xs.length xs.length) w.heap.size (by show w.heap.size ≠ w.heap.size + 1; omega)).trans hkb
    have hxb := hxc.setCell (p := ⟨w.heap.size + 1, 0, none⟩) (by show w.heap.size ≤ w.heap.size + 1; omega) (.slice (some ⟨wc.heap.size, 0, none⟩) xs.length xs.length)
    have hszb : (wc.setCell ⟨w.heap.size + 1, 0, none⟩ (.slice (some ⟨wc.heap.size, 0, none⟩) xs.length xs.length)).heap.size = wc.heap.size := by simp
    generalize wc.setCell ⟨w.heap.size + 1, 0, none⟩ (.slice (some ⟨wc.heap.size, 0, none⟩) xs.length xs.length) = wb at *
    clear hra1 hrb1 hkq hkb hgq hfq hgb hb1 hct hxc
    rw [← hszb] at hsb hsq hkq2 ⊢
    clear hszb
    have hct : wb.cell? ⟨b1, o1 + (M - 1), none⟩ = some (.int .u64 (T : Nat)) := by
      obtain ⟨b3, o3, e3, hcs3⟩ := hrb2.ad (by have := HM'.out; omega)
      simp only [Option.some.injEq, Addr.mk.injEq, and_true] at e3
      obtain ⟨rfl, rfl⟩ := e3
      have h := hcs3 (M - 1) (by have := HM'.out; omega)
      rw [← HT'.out] at h
      exact h
    have hb1 := World.block_lt_of_cell? wb _ hct
    have hgb := cell_of_one hkb2
    have how := own_mkn wb wb.heap.size xs.length (Nat.le_refl _) (by omega)
    go_wp2
    go_loopw [5, 11] (fun r i wr => LongR wb xs Y wb.heap.size r i wr) (fun _ i _ => (intOf i + 1).toNat)
    case atStart =>
      exact ⟨xs.length, List.replicate xs.length 0, 0, _, rfl, rfl, Div1Inv.start hY0, fun j hj => by simp only [at0, List.getD_eq_getElem?_getD, List.getElem?_replicate]; split <;> rfl, ⟨none, 0, by rw [pc_zero]; rfl, by rw [pc_zero]; exact ⟨by simp, by omega, by simp, fun h => by simp at h⟩⟩, how, (Ext.refl wb).alloc _⟩
    case round =>
      obtain ⟨k, vs, rn, z, rfl, hz, hI, hzero, hrr, hown, hext⟩ := hrel
      clear how
      have hZ := Lib.hid hz
      have hkl := hI.le
      by_cases hk : 0 < k
      · have hz0 : 0 ≤ z := by omega
        obtain ⟨j, rfl⟩ := Int.eq_ofNat_of_zero_le hz0
        obtain rfl : k = j + 1 := by omega
        clear hz
        obtain ⟨ba, oa, rfl, hcsa⟩ := hra2.ad (by omega)
        have hg := hext.cellS (hcsa j (by omega))
        clear hcsa
        obtain ⟨wo, rfl⟩ : ∃ wo : World, wo = wr := ⟨_, rfl⟩
        have hjx : j < xs.length := hkl
        have hx9 := at0_lt hltx hjx
        have hlrn : (pc 1000000000 rn).length ≤ M := by rw [HM'.out]; exact pc_len_mono (Nat.le_of_lt hI.rl)
        have hlit : (wo.alloc (.cells #[.int .u64 (at0 xs j : Nat)] 133)).ownsRow wo.heap.size 133 1 (.slice (some ⟨wo.heap.size, 0, none⟩) 1 1) 1 (u64s [at0 xs j]) := by
          have h := World.ownsRow_lit (w := wo) (base := wo.heap.size) (e := 133) (size := 1) #[.int .u64 (at0 xs j : Nat)] 1 (Nat.le_refl _) (by unfold maxLen; omega) (by simp)
          simpa [u64s] using h
        have hrr1 := hrr.ext ((Ext.refl wo).alloc (.cells #[.int .u64 (at0 xs j : Nat)] 133))
        go_wp2_with (at_builtin; go_loud (refine appl rfl _ _ rfl _ wo.heap.size (.slice (some ⟨wo.heap.size, 0, none⟩) 1 1) 1 [at0 xs j] rfl hlit (pc 1000000000 rn) u5 rfl hrr1 (by omega) (by rw [World.size_alloc]; omega) ?_); intro v1 w1 hown1 hx1)
        have hrd1 : Rd w1 v1 ([at0 xs j] ++ pc 1000000000 rn) := Rd.of_own (by simpa [Nat.add_comm] using hown1) (by simp; omega)
        have hlt1 : ∀ z ∈ [at0 xs j] ++ pc 1000000000 rn, z < 1000000000 := by
          intro z hz
          rcases List.mem_append.1 hz with h | h
          · simp only [List.mem_singleton] at h; omega
          · exact pc_lt b9 rn z h
        have e1 : Ext wo w1 := hx1 wo ((Ext.refl wo).alloc _) (Nat.le_refl _)
        refine (trim_c _ _ _ hrd1 hlt1).mono ?_
        rintro e w2 ⟨v2, rfl, hv2, hx2⟩
        have e2 : Ext wo w2 := e1.trans hx2
        obtain ⟨t, ht⟩ : ∃ t, t = rn * 1000000000 + at0 xs j := ⟨_, rfl⟩
        rw [show ofL 1000000000 ([at0 xs j] ++ pc 1000000000 rn) = t by simp [ofL, ofL_pc b9]; omega] at hv2
        have hst := hI.step hY0 hltx ht
        have HTT := Lib.hid ht
        have htb : t < Y * 1000000000 := by
          have h1 : rn + 1 ≤ Y := hI.rl
          have h2 : (rn + 1) * 1000000000 ≤ Y * 1000000000 := Nat.mul_le_mul_right _ h1
          omega
        clear ht hown1 hx1 hlit hrr1 hrd1 hlt1 hg hrr
        have hxbw : Ext wb w2 := hext.trans e2
        have hgb2 := hxbw.cellS hgb
        have hrbW : ∀ W, Ext wb W → Rd W (.slice (some ⟨b1, o1, none⟩) M cb1) (pc 1000000000 Y) := fun W hW => ⟨_, _, by rw [HM'.out], hrb2.ext hW⟩
        have ho := order_c (pc 1000000000 t) (pc 1000000000 Y) v2 _ w2 hv2 (hrbW w2 hxbw) (pc_lt b9 t) (pc_lt b9 Y) (trim_pc b9 t) (trim_pc b9 Y)
        rw [ofL_pc b9, ofL_pc b9] at ho
        have hown2 := own_ext hown e2
        have hlen := hI.len
        have HLEN := Lib.hid hlen
        have hzj := hzero j (by omega)
        have HZJ := Lib.hid hzj
        clear hlen hzj
        by_cases htY : t < Y
        · rw [cmpN_lt htY] at ho
          go_wp2_with fail
          ((with_reducible refine ho.mono ?_); rintro e w3 ⟨rfl, hx3⟩)
          go_wp2
          go_roundw
          case rel =>
            rw [Nat.div_eq_of_lt htY, Nat.mod_eq_of_lt htY, set_at0 HZJ.out (by rw [HLEN.out]; exact hjx)] at hst
            exact ⟨j, vs, t, _, by go_num, rfl, hst, fun i hi => hzero i (by omega), hv2.ext hx3, own_ext hown2 hx3, hxbw.trans hx3⟩
          case measure => simp [intOf]
        · have hYt : Y ≤ t := by omega
          obtain ⟨s2, hs2, hs20⟩ : ∃ s2 : Int, s2 = cmpN t Y ∧ ¬ s2 < 0 := by
            rcases Nat.lt_or_eq_of_le hYt with h | h
            · exact ⟨_, rfl, by rw [cmpN_gt h]; omega⟩
            · exact ⟨_, rfl, by rw [cmpN_eq h.symm]; omega⟩
          rw [← hs2] at ho
          clear hs2
          obtain ⟨-, -, hE2, hE3, hE4⟩ := est hYt htb hY0
          have hN9 := pc_lt b9 t
          obtain ⟨A2, c2, rfl, hr2⟩ := hv2
          have hcap2 := hr2.cap
          have hmax2 := hr2.max
          have hlen2 := hr2.len
          have hM1 := HM'.out
          rw [← hM1] at hE2 hE3 hE4
          rw [← HT'.out] at hE4
          clear hM1
          obtain ⟨b2, o2, rfl, hcs2⟩ := hr2.ad (by omega)
          have hc21 := hcs2 ((pc 1000000000 t).length - 1) (by omega)
          have hc22 := hcs2 ((pc 1000000000 t).length - 2) (by omega)
          clear hcs2
          have hq1 := at0_lt hN9 (show (pc 1000000000 t).length - 1 < (pc 1000000000 t).length by omega)
          have hq2 := at0_lt hN9 (show (pc 1000000000 t).length - 2 < (pc 1000000000 t).length by omega)
          obtain ⟨N, hN⟩ : ∃ N, N = (pc 1000000000 t).length := ⟨_, rfl⟩
          rw [← hN] at hE2 hE3 hE4 hcap2 hlen2 hc21 hc22 hq1 hq2 ho ⊢
          obtain ⟨q1, hqq1⟩ : ∃ q1, q1 = at0 (pc 1000000000 t) (N - 1) := ⟨_, rfl⟩
          obtain ⟨q2, hqq2⟩ : ∃ q2, q2 = at0 (pc 1000000000 t) (N - 2) := ⟨_, rfl⟩
          rw [← hqq1] at hE4 hc21 hq1
          rw [← hqq2] at hE4 hc22 hq2
          have HN := Lib.hid hN
          clear hN hqq1 hqq2 hN9
          obtain ⟨d0, hd0, hdl, hd9⟩ : ∃ d0 : Nat, d0 = (if M < N then q1 * 1000000000 + q2 else q1) ∧ t / Y ≤ d0 / T ∧ d0 < 1000000000000000000 := by
            refine ⟨_, rfl, hE4, ?_⟩
            split <;> omega
          have HD0 := Lib.hid hd0
          clear hd0 hE4
          go_wp2_with fail
          ((with_reducible refine ho.mono ?_); rintro e w3 ⟨rfl, hx3⟩)
          have hgb3 := hx3.cellS hgb2
          have hc31 := hx3.cellS hc21
          have hc32 := hx3.cellS hc22
          clear hc21 hc22 hgb2 ho
          go_upto_if 103 with fail
          go_cut [12] (fun d wx => d = .int .u64 (d0 : Nat) ∧ wx = w3)
          case first =>
            by_cases hMN : M < N
            · have e0 : ((q1 : Int) * 1000000000 + (q2 : Int)) = (d0 : Int) := by rw [HD0.out, if_pos hMN]; omega
              go_wp2
              go_meet
              case rel => exact ⟨by go_num, rfl⟩
            · have e0 : d0 = q1 := by rw [HD0.out, if_neg hMN]
              go_wp2
              go_meet
              case rel => exact ⟨by rw [e0], rfl⟩
          case rest =>
            obtain ⟨rfl, rfl⟩ := hcut
            have hqd : t / Y < 1000000000 := by rw [Nat.div_lt_iff_lt_mul hY0, Nat.mul_comm]; exact htb
            obtain ⟨dm, hdm, hdm1, hdm2⟩ : ∃ dm : Nat, min (IntKind.u64.wrap ((d0 : Int) / (T : Int))) 999999999 = (dm : Int) ∧ t / Y ≤ dm ∧ dm < 1000000000 := by
              have e1 : (d0 : Int) / (T : Int) = ((d0 / T : Nat) : Int) := by simp
              refine ⟨min (d0 / T) 999999999, ?_, ?_, ?_⟩
              · have h1 : d0 / T ≤ d0 := Nat.div_le_self _ _
                rw [e1, IntKind.wrap_u64]
                generalize d0 / T = q at *
                omega
              · omega
              · omega
            have hx3b := hxbw.trans hx3
            have hs4 := small_f Y dm hdm2 (by rw [← HM'.out]; omega) _ _ (hrbW _ hx3b)
            have hrT : ∀ W, Ext w2 W → Rd W (.slice (some ⟨b2, o2, none⟩) N c2) (pc 1000000000 t) := fun W hW => ⟨_, _, by rw [HN.out], hr2.ext hW⟩
            go_wp2_with fail
            ((with_reducible refine hs4.mono ?_); rintro e w4 ⟨vp, rfl, hvp, hx4, hfp⟩)
            clear hfp hdm
            have hgb4 := hx4.cellS hgb3
            have hx24 := hx3.trans hx4
            have hxb4 := hxbw.trans hx24
            go_wp2
            go_loopw [12, 13] (fun d p wr => ∃ dn : Nat, d = .int .u64 (dn : Nat) ∧ t / Y ≤ dn ∧ dn < 1000000000 ∧ Rd wr p (pc 1000000000 (dn * Y)) ∧ Ext w4 wr) (fun d _ _ => (intOf d).toNat)
            case atStart => exact ⟨dm, rfl, hdm1, hdm2, by rw [Nat.mul_comm]; exact hvp, Ext.refl _⟩
            case round =>
              obtain ⟨dn, rfl, hd1, hd2, hp, hx5⟩ := hrel
              have ho5 := order_c (pc 1000000000 (dn * Y)) (pc 1000000000 t) _ _ wr hp (hrT wr (hx24.trans hx5)) (pc_lt b9 _) (pc_lt b9 t) (trim_pc b9 _) (trim_pc b9 t)
              rw [ofL_pc b9, ofL_pc b9] at ho5
              clear hs4 hc31 hc32
              by_cases hgt : t < dn * Y
              · rw [cmpN_gt hgt] at ho5
                go_wp2_with fail
                ((with_reducible refine ho5.mono ?_); rintro e w5 ⟨rfl, hx6⟩)
                have hgb5 := (hx5.trans hx6).cellS hgb4
                have hdY : dn * Y ≤ 1000000000 * Y := Nat.mul_le_mul_right _ (by omega)
                have hd0 : 0 < dn := by
                  rcases Nat.eq_zero_or_pos dn with h | h
                  · rw [h] at hgt; omega
                  · exact h
                have hYd : Y ≤ dn * Y := Nat.le_mul_of_pos_left _ hd0
                have hlp : (pc 1000000000 (dn * Y)).length ≤ M + 1 := by
                  refine pc_length_le b9 ?_
                  have h1 := ofL_lt (pc_lt b9 Y)
                  rw [ofL_pc b9, ← HM'.out] at h1
                  rw [Nat.pow_succ, Nat.mul_comm]
                  exact Nat.mul_lt_mul'' h1 hd2
                have hm6 := minus_c (pc 1000000000 (dn * Y)) (pc 1000000000 Y) _ _ w5 (hp.ext hx6) (hrbW _ (hxb4.trans (hx5.trans hx6))) (by omega) (pc_lt b9 _) (pc_lt b9 Y) (pc_len_mono hYd) (by rw [ofL_pc b9, ofL_pc b9]; exact hYd)
                rw [ofL_pc b9, ofL_pc b9] at hm6
                go_wp2_with fail
                ((with_reducible refine hm6.mono ?_); rintro e w6 ⟨p2, rfl, hp2, hx7⟩)
                have hdq : t / Y ≤ dn - 1 := by
                  have : t / Y < dn := by rw [Nat.div_lt_iff_lt_mul hY0]; exact hgt
                  omega
                go_wp2
                go_roundw
                case rel => exact ⟨dn - 1, by go_num, hdq, by omega, by rw [Nat.sub_mul, Nat.one_mul]; exact hp2, hx5.trans (hx6.trans hx7)⟩
                case measure => simp [intOf]; omega
              · have hdn : dn = t / Y := by
                  have h : dn ≤ t / Y := by rw [Nat.le_div_iff_mul_le hY0]; omega
                  omega
                obtain ⟨s5, hs5, hs50⟩ : ∃ s5 : Int, s5 = cmpN (dn * Y) t ∧ ¬ s5 > 0 := by
                  rcases Nat.lt_or_eq_of_le (Nat.le_of_not_lt hgt) with h | h
                  · exact ⟨_, rfl, by rw [cmpN_lt h]; omega⟩
                  · exact ⟨_, rfl, by rw [cmpN_eq h]; omega⟩
                rw [← hs5] at ho5
                have HDN := Lib.hid hdn
                clear hs5 hdn
                go_wp2_with fail
                ((with_reducible refine ho5.mono ?_); rintro e w5 ⟨rfl, hx6⟩)
                have hx56 := hx5.trans hx6
                have hxb5 := hxb4.trans hx56
                have hgq5 := hxb5.cellS (cell_of_one hkq2)
                have hle5 : dn * Y ≤ t := Nat.le_of_not_lt hgt
                have hm6 := minus_f (pc 1000000000 t) (pc 1000000000 (dn * Y)) _ _ w5.drew ((hrT _ (hx24.trans hx56)).ext (Ext.refl w5).drew) ((hp.ext hx6).ext (Ext.refl w5).drew) (by rw [← HN.out]; omega) (pc_lt b9 t) (pc_lt b9 _) (pc_len_mono hle5) (by rw [ofL_pc b9, ofL_pc b9]; exact hle5)
                rw [ofL_pc b9, ofL_pc b9] at hm6
                have hown5 := own_ext hown2 (hx24.trans hx56)
                have hvl : vs.length = xs.length := HLEN.out
                have HVL := Lib.hid hvl
                go_upto_region 29 with fail
                clear hvl
                refine wp_region_noPanic ?_
                go_region_with (go_at_call 123; ((with_reducible refine hm6.mono ?_); rintro e w6 ⟨v6, rfl, ⟨A6, c6, rfl, hv6⟩, hx7, hf6⟩; have HF6 := Lib.hid hf6; clear hf6; have hgq6 := hx7.cellS (show w5.drew.cell? ⟨w.heap.size + 1, 0, none⟩ = _ from hgq5); have hown6 := own_ext (own_drew hown5) hx7; have hgo : w6.cell? ⟨wb.heap.size, j, none⟩ = some (.int .u64 (at0 vs j : Nat)) := (by rw [hown6.cellAt j (by omega)]; simp [u64s, at0, HVL.out, hjx]); have hfo := hown6.frozenAt j))
                all_goals refine NoPanic.normal ?_
                all_goals go_wp2
                all_goals
                  go_roundw
                  case rel =>
                    have hlt5 : wb.heap.size < w5.heap.size := World.block_lt_of_cell? w5 ⟨wb.heap.size, j, none⟩ (u := .int .u64 (at0 vs j : Nat)) (by rw [hown5.cellAt j (by omega)]; simp [u64s, at0, HVL.out, hjx])
                    obtain rfl := HDN.out
                    have hst2 := (hown6.stored j (.int .u64 ((t / Y : Nat) : Int))).1
                    rw [u64s_set] at hst2
                    rw [show t - t / Y * Y = t % Y by rw [Nat.mod_eq_sub_mul_div, Nat.mul_comm]] at hv6 ⊢
                    refine ⟨j, vs.set j (t / Y), t % Y, _, by go_num, rfl, hst, fun i hi => ?_, ⟨A6, c6, rfl, hv6.setOther _ (fun b o _ hb => ?_)⟩, hst2, ?_⟩
                    · have h := hzero i (by omega)
                      simp only [at0, List.getD_eq_getElem?_getD, List.getElem?_set_ne (show j ≠ i by omega)] at h ⊢
                      exact h
                    · have h : w5.heap.size ≤ b := HF6.out b (by rw [hb]; rfl)
                      show b ≠ wb.heap.size
                      omega
                    · exact ((hxb5.drew).trans hx7).setCell (by show wb.heap.size ≤ wb.heap.size; omega) _
                  case measure => simp [intOf]
      · obtain rfl : k = 0 := by omega
        obtain rfl : z = -1 := by omega
        obtain ⟨hq, hr⟩ := hI.done
        rw [HXS.out, ofL_pc b9] at hq hr
        rw [HX.out, HY.out, Nat.mul_div_mul_right _ _ hf0] at hq
        rw [HX.out, HY.out, Nat.mul_mod_mul_right] at hr
        have hrf : rn / f = x % y := by rw [hr, Nat.mul_div_cancel _ hf0]
        have hlt9 := hI.lt
        have HQ := Lib.hid hq
        have HRF := Lib.hid hrf
        clear hz hq hr hrf hzero
        have hgq := hext.cellS (cell_of_one hkq2)
        have hrq : RdAt wr (some ⟨wb.heap.size, 0, none⟩) xs.length vs := by
          obtain ⟨A', c', e1, h1⟩ := Rd.of_own (base := wb.heap.size) (l := vs) (by rw [hI.len]; exact hown) (by rw [hI.len]; omega)
          simp only [Value.slice.injEq] at e1
          obtain ⟨rfl, _, rfl⟩ := e1
          exact h1
        have hlit : RdAt (wr.alloc (.cells #[.int .u64 (f : Nat)] 133)) (some ⟨wr.heap.size, 0, none⟩) 1 (pc 1000000000 f) := by
          have h : RdAt (wr.alloc (.cells #[.int .u64 (f : Nat)] 133)) (some ⟨wr.heap.size, 0, none⟩) 1 [f] :=
            ⟨by simp, by omega, by simp, fun _ => ⟨wr.heap.size, 0, rfl, fun j hj => by
              obtain rfl : j = 0 := by simpa using hj
              rw [World.cell?_alloc_at _ _ _ _ (by rfl)]; simp [at0]⟩⟩
          rw [pc_small b9 hf0 hf9]; exact h
        have hdp := divide_piece rn f hf0 hf9 _ _ _ (hrr.ext ((Ext.refl wr).alloc _)) ⟨_, _, rfl, hlit⟩
        rw [pc_small b9 hf0 hf9] at hdp
        simp only [List.length_singleton] at hdp
        simp only [← HFE.out] at hdp
        go_wp2_with fail
        ((with_reducible refine hdp.mono ?_); rintro e w7 ⟨vq, vr, rfl, hvq, hvr, hx7⟩)
        clear hvr hdp
        have hx7' := ((Ext.refl wr).alloc (.cells #[.int .u64 (1000000000 / (tp + 1))] 133)).trans hx7
        have hgq7 := hx7'.cellS hgq
        have hrq7 := hrq.ext hx7'
        have hfq7 := free_of_one ((hx7'.block _ (by have := hext.size; omega)).trans ((hext.block _ hsq).trans hkq2))
        have ht := trim_q vs _ _ w7 hrq7 hlt9
        rw [hI.len] at ht
        go_wp2_with fail
        ((with_reducible refine ht.mono ?_); rintro e w8 ⟨rfl, rfl⟩)
        go_wp2
        refine bodyPost_ret (v := .tuple #[.slice (some ⟨wb.heap.size, 0, none⟩) (pc 1000000000 (ofL 1000000000 vs)).length xs.length, vq]) (by simp [results, Tryz.results179, go_sem, hgq7]) rfl ?_
        refine ⟨_, _, rfl, ⟨_, _, by rw [HQ.out], ?_⟩, ?_, ?_⟩
        · rw [← HQ.out]; exact (hrq7.pc hlt9).setCell hgq7 (by simp)
        · rw [← HRF.out]; exact hvq.setCell hgq7 (by simp)
        · exact ((hxb.trans hext).trans hx7').setCell (by show w.heap.size ≤ w.heap.size + 1; omega) _

/-- Division. -/
theorem divide_c (x y : Nat) (hy : 0 < y) (hlx : (pc 1000000000 x).length < 39000) (u v : Value) (w : World) (hu : Rd w u (pc 1000000000 x)) (hv : Rd w v (pc 1000000000 y)) :
    Calls Tryz.prog 179 #[u, v] w (RetQR (x / y) (x % y) w) := by
  rcases Nat.lt_or_ge x y with h | h
  · rw [Nat.div_eq_of_lt h, Nat.mod_eq_of_lt h]
    exact divide_lt x y h u v w hu hv
  · rcases Nat.lt_or_ge y 1000000000 with h2 | h2
    · exact divide_piece x y hy h2 u v w hu hv
    · exact divide_long x y h h2 hlx u v w hu hv
end Go.Proofs.YtblijhokcjpeeaaGreatDoor
namespace Go.Proofs.YtblijhokcjpeeaaGreatDoor
open Go.RowKit Kl

theorem pc_of_pow {n k : Nat} (h : n < 10 ^ (9 * k)) : (pc 1000000000 n).length ≤ k := by
  refine pc_length_le b9 ?_
  rw [Nat.pow_mul] at h
  exact h
theorem lt_pow_up {x a b : Nat} (h : x < 10 ^ a) (hab : a ≤ b) : x < 10 ^ b := Nat.lt_of_lt_of_le h (Nat.pow_le_pow_right (by omega) hab)
theorem Bnd.pc {z : Int} (h : Bnd z) : (pc 1000000000 z.natAbs).length ≤ 445 := by
  obtain ⟨m, hm⟩ : ∃ m, m = 445 := ⟨_, rfl⟩
  rw [← hm]
  exact pc_of_pow (lt_pow_up h (show bigE ≤ 9 * m by rw [hm]; decide))
theorem closeT_of (m : Bool) (x : Nat) : closeT m x = I (if m then -(x : Int) else x) := by
  unfold closeT
  by_cases h : x = 0
  · subst h; rw [if_pos rfl]; cases m <;> simp [I_zero]
  · rw [if_neg h]
    cases m
    · rw [if_neg (by simp), if_neg (by simp), I_nat]
    · rw [if_pos rfl, if_pos rfl, I_neg x (by omega)]
theorem quick_yes {z : Int} {k : Nat} (h : (I z).length ≤ k) : quickI z k = .tuple #[.int .i64 z, .bool true] := if_pos h
theorem quick_no {z : Int} {k : Nat} (h : ¬ (I z).length ≤ k) : quickI z k = .tuple #[.int .i64 0, .bool false] := if_neg h
theorem quick9_c (z : Int) (w : World) : Calls Tryz.prog 118 #[S (I z), .int .i64 9] w (RetV (quickI z 9) w) := quick_c z 9 (by omega) w
theorem quick18_c (z : Int) (w : World) : Calls Tryz.prog 118 #[S (I z), .int .i64 18] w (RetV (quickI z 18) w) := quick_c z 18 (by omega) w
theorem short_lt {z : Int} {k : Nat} (h : (I z).length ≤ k) : z.natAbs < 10 ^ k := by
  rcases I_cases z with ⟨n, rfl, e⟩ | ⟨n, hn, rfl, e⟩
  · rw [e] at h; simpa using lt_pow_of_len (n := n) (k := k) (by omega)
  · rw [e, List.length_cons] at h; simpa using lt_pow_of_len (n := n) (k := k) (by omega)
theorem wrap64_mul {x y : Int} (hx : x.natAbs < 1000000000) (hy : y.natAbs < 1000000000) : IntKind.i64.wrap (x * y) = x * y := by
  have h := mul_lt_sq hx hy
  rw [← Int.natAbs_mul] at h
  exact IntWalk.i64_in _ (by omega)
theorem mul_in {x y : Int} (hx : x.natAbs < 1000000000) (hy : y.natAbs < 1000000000) : -9223372036854775808 ≤ x * y ∧ x * y ≤ 9223372036854775807 := by
  have h := mul_lt_sq hx hy
  rw [← Int.natAbs_mul] at h
  omega
theorem mul_sign (x y : Int) : x * y = if (decide (x < 0) != decide (y < 0)) = true then -((x.natAbs * y.natAbs : Nat) : Int) else ((x.natAbs * y.natAbs : Nat) : Int) := by
  rw [← Int.natAbs_mul]
  by_cases hx : x < 0 <;> by_cases hy : y < 0 <;> simp [hx, hy]
  · have := Int.mul_nonneg_of_nonpos_of_nonpos (Int.le_of_lt hx) (Int.le_of_lt hy); omega
  · have := Int.mul_nonpos_of_nonpos_of_nonneg (Int.le_of_lt hx) (show 0 ≤ y by omega); omega
  · have := Int.mul_nonpos_of_nonneg_of_nonpos (show 0 ≤ x by omega) (Int.le_of_lt hy); omega
  · have := Int.mul_nonneg (show 0 ≤ x by omega) (show 0 ≤ y by omega); omega

set_option maxRecDepth 100000 in
set_option maxHeartbeats 1000000 in
theorem iMul_quick (x y : Int) (hx : (I x).length ≤ 9) (hy : (I y).length ≤ 9) (w : World) (hw : Okw w) :
    Calls Tryz.prog 117 #[S (I x), S (I y)] w (RetS (I (x * y)) w) := by
  have q1 := quick9_c x
  have q2 := quick9_c y
  rw [quick_yes hx] at q1
  rw [quick_yes hy] at q2
  have b1 := short_lt hx
  have b2 := short_lt hy
  have hwr := wrap64_mul b1 b2
  have hin := mul_in b1 b2
  have ho := fun W hW => iOf_c (x * y) hin.1 hin.2 W hW
  clear hx hy b1 b2 hin
  go_enter Tryz.func117, Tryz.ntmps117
  go_wp2_with fail
  ((with_reducible refine (q1 _).mono ?_); rintro e w1 ⟨rfl, hx1⟩)
  go_wp2_with fail
  ((with_reducible refine (q2 _).mono ?_); rintro e w2 ⟨rfl, hx2⟩)
  have hx12 := hx1.trans hx2
  go_wp2_with fail
  ((with_reducible refine (ho _ (hw.ext hx12)).mono ?_); rintro e w3 ⟨rfl, hx3⟩)
  go_wp2
  go_ret
  exact ⟨rfl, hx12.trans hx3⟩

theorem cell_of_blk {W : World} {b o : Nat} {cs : Array Value} {t : TypeId} {fz : Nat × Nat} {v : Value} (h : W.heap[b]? = some (.cells cs t fz)) (hv : cs[o]? = some v) : W.cell? ⟨b, o, none⟩ = some v := by
  unfold World.cell?
  simp [h, hv]
/-- Two boxes of two cells each. -/
theorem boxes2 (w : World) (a b c d : Value) (s t : TypeId) : ∃ W, W = (w.alloc (.cells #[a, b] s)).alloc (.cells #[c, d] t) ∧ Ext w W ∧ W.heap[w.heap.size]? = some (.cells #[a, b] s) ∧ W.heap[w.heap.size + 1]? = some (.cells #[c, d] t) := by
  refine ⟨_, rfl, ((Ext.refl _).alloc _).alloc _, (Below.heap_alloc _ _ _ (by simp)).trans (heap_alloc_new w _), ?_⟩
  have h := heap_alloc_new (w.alloc (.cells #[a, b] s)) (.cells #[c, d] t)
  rwa [World.size_alloc] at h

set_option maxRecDepth 100000 in
set_option maxHeartbeats 4000000 in
theorem iMul_long (x y : Int) (hx : Bnd x) (hy : Bnd y) (hn : ¬ ((I x).length ≤ 9 ∧ (I y).length ≤ 9)) (w : World) (hw : Okw w) :
    Calls Tryz.prog 117 #[S (I x), S (I y)] w (RetS (I (x * y)) w) := by
  have q1 := quick9_c x
  have q2 := quick9_c y
  have lx := hx.pc
  have ly := hy.pc
  have o1 := open_c x hx
  have o2 := open_c y hy
  have HS : Hid (x * y = if (!(decide (x < 0) == decide (y < 0))) = true then -((x.natAbs * y.natAbs : Nat) : Int) else ((x.natAbs * y.natAbs : Nat) : Int)) := Lib.hid (mul_sign x y)
  clear hx hy
  by_cases h1 : (I x).length ≤ 9
  case' pos =>
    rw [quick_yes h1] at q1
    rw [quick_no fun h => hn ⟨h1, h⟩] at q2
    clear h1 hn
    go_enter Tryz.func117, Tryz.ntmps117
    go_wp2_with fail
    ((with_reducible refine (q1 _).mono ?_); rintro e w1 ⟨rfl, hx1⟩)
    go_wp2_with fail
    ((with_reducible refine (q2 _).mono ?_); rintro e w2 ⟨rfl, hx2⟩)
    have hx := hx1.trans hx2
    clear hx1 hx2
    go_wp2_with fail
  case' neg =>
    rw [quick_no h1] at q1
    clear h1 hn
    go_enter Tryz.func117, Tryz.ntmps117
    go_wp2_with fail
    ((with_reducible refine (q1 _).mono ?_); rintro e w2 ⟨rfl, hx⟩)
    go_wp2_with fail
  all_goals
    clear q1 q2
    ((with_reducible refine (o1 _).mono ?_); rintro e w3 ⟨v3, rfl, ⟨A3, c3, rfl, hv3⟩, hx3⟩)
    go_wp2_with fail
    ((with_reducible refine (o2 _).mono ?_); rintro e w4 ⟨v4, rfl, ⟨A4, c4, rfl, hv4⟩, hx4⟩)
    have hx := (hx.trans hx3).trans hx4
    have hv3 := hv3.ext hx4
    clear o1 o2 hx3 hx4
    go_wp2_with fail
    obtain ⟨W, hW, hE, hb1, hb2⟩ := boxes2 w4 (.bool (decide (x < 0))) (.slice A3 (pc 1000000000 x.natAbs).length c3) (.bool (decide (y < 0))) (.slice A4 (pc 1000000000 y.natAbs).length c4) 161 161
    rw [← hW]
    have hv3 := hv3.ext hE.drew
    have hv4 := hv4.ext hE.drew
    have hxW := hx.trans hE
    have k1 : W.cell? ⟨w4.heap.size, 0, none⟩ = some (.bool (decide (x < 0))) := cell_of_blk hb1 rfl
    have k2 : W.cell? ⟨w4.heap.size, 1, none⟩ = some (.slice A3 (pc 1000000000 x.natAbs).length c3) := cell_of_blk hb1 rfl
    have k3 : W.cell? ⟨w4.heap.size + 1, 0, none⟩ = some (.bool (decide (y < 0))) := cell_of_blk hb2 rfl
    have k4 : W.cell? ⟨w4.heap.size + 1, 1, none⟩ = some (.slice A4 (pc 1000000000 y.natAbs).length c4) := cell_of_blk hb2 rfl
    clear hW hb1 hb2 hE hx
    have ht := times_c (pc 1000000000 x.natAbs) (pc 1000000000 y.natAbs) _ _ W.drew ⟨_, _, rfl, hv3⟩ ⟨_, _, rfl, hv4⟩ (by omega) (by omega) (pc_lt b9 _) (pc_lt b9 _)
    rw [ofL_pc b9, ofL_pc b9] at ht
    have hc := fun W2 (A5 : Option Addr) (c5 : Nat) (h : Ext W.drew W2) (h2 : RdAt W2 A5 c5 (pc 1000000000 (x.natAbs * y.natAbs))) => close_c (!(decide (x < 0) == decide (y < 0))) (x.natAbs * y.natAbs) (.slice A5 (pc 1000000000 (x.natAbs * y.natAbs)).length c5) W2 (hw.ext (hxW.drew.trans h)) ⟨A5, c5, rfl, h2⟩
    rw [closeT_of, ← HS.out] at hc
    go_region_held3 (fun w' => w'.cell? ⟨w4.heap.size, 0, none⟩ = some (.bool (decide (x < 0))) ∧ w'.cell? ⟨w4.heap.size, 1, none⟩ = some (.slice A3 (pc 1000000000 x.natAbs).length c3) ∧ w'.cell? ⟨w4.heap.size + 1, 0, none⟩ = some (.bool (decide (y < 0))) ∧ w'.cell? ⟨w4.heap.size + 1, 1, none⟩ = some (.slice A4 (pc 1000000000 y.natAbs).length c4))
      (first | go_keep | exact ⟨hx5.cellS k1, hx5.cellS k2, hx5.cellS k3, hx5.cellS k4⟩ | exact ⟨(hx5.trans hx6).cellS k1, (hx5.trans hx6).cellS k2, (hx5.trans hx6).cellS k3, (hx5.trans hx6).cellS k4⟩)
      (first | ((with_reducible refine ht.mono ?_); rintro e w5 ⟨v5, rfl, ⟨A5, c5, rfl, hv5⟩, hx5⟩) | ((with_reducible refine (hc _ _ _ hx5 hv5).mono ?_); rintro e w6 ⟨rfl, hx6⟩))
    go_wp2
    go_ret
    exact ⟨rfl, (hxW.drew.trans hx5).trans hx6⟩
/-- The product. -/
theorem iMul_c (x y : Int) (hx : Bnd x) (hy : Bnd y) (w : World) (hw : Okw w) : Calls Tryz.prog 117 #[S (I x), S (I y)] w (RetS (I (x * y)) w) := by
  by_cases h : (I x).length ≤ 9 ∧ (I y).length ≤ 9
  · exact iMul_quick x y h.1 h.2 w hw
  · exact iMul_long x y hx hy h w hw
end Go.Proofs.YtblijhokcjpeeaaGreatDoor
