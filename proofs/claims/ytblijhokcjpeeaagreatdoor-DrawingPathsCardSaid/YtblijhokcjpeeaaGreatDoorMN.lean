/- drawing.clip. -/
import Derived.Test.YtblijhokcjpeeaaGreatDoorMM
namespace Go.Proofs.YtblijhokcjpeeaaGreatDoor
open Go.RowKit Kl

theorem blk5 (w : World) (o1 o2 o3 o4 o5 : Obj) : ∃ W, W = ((((w.alloc o1).alloc o2).alloc o3).alloc o4).alloc o5 ∧ Ext w W ∧ W.heap[w.heap.size]? = some o1 ∧ W.heap[w.heap.size + 1]? = some o2 ∧ W.heap[w.heap.size + 1 + 1]? = some o3 ∧ W.heap[w.heap.size + 1 + 1 + 1]? = some o4 ∧ W.heap[w.heap.size + 1 + 1 + 1 + 1]? = some o5 := by
  obtain ⟨V, hV, hE, h1, h2, h3⟩ := blk3 w o1 o2 o3
  have hs : V.heap.size = w.heap.size + 1 + 1 + 1 := by rw [hV]; simp
  have h4 := heap_alloc_new V o4
  have h5 := heap_alloc_new (V.alloc o4) o5
  rw [World.size_alloc, hs] at h5
  rw [hs] at h4
  rw [← hV]
  have g := fun k (hk : k < V.heap.size) => (Below.heap_alloc (V.alloc o4) o5 k (by simp; omega)).trans (Below.heap_alloc V o4 k hk)
  refine ⟨_, rfl, (hE.alloc _).alloc _, (g _ (by omega)).trans h1, (g _ (by omega)).trans h2, (g _ (by omega)).trans h3, ?_, h5⟩
  exact (Below.heap_alloc _ _ _ (by simp; omega)).trans h4
structure BoxS (W : World) (b : Nat) (s : Sg) : Prop where
  k1 : W.cell? ⟨b, 0, none⟩ = some (S (R s.a.x))
  k2 : W.cell? ⟨b, 1, none⟩ = some (S (R s.a.y))
  k3 : W.cell? ⟨b, 2, none⟩ = some (S (R s.b.x))
  k4 : W.cell? ⟨b, 3, none⟩ = some (S (R s.b.y))
theorem BoxS.ext {W V : World} {b : Nat} {s : Sg} (h : BoxS W b s) (hx : Ext W V) : BoxS V b s := ⟨hx.cellS h.k1, hx.cellS h.k2, hx.cellS h.k3, hx.cellS h.k4⟩
theorem below_cell {B : Nat} {W V : World} (h : Below B W V) {b o : Nat} {v : Value} (hb : b < B) (hc : W.cell? ⟨b, o, none⟩ = some v) : V.cell? ⟨b, o, none⟩ = some v :=
  (Below.cell h (p := ⟨b, o, none⟩) hb).trans hc
theorem BoxS.below {B : Nat} {W V : World} {b : Nat} {s : Sg} (h : BoxS W b s) (hx : Below B W V) (hb : b < B) : BoxS V b s := ⟨below_cell hx hb h.k1, below_cell hx hb h.k2, below_cell hx hb h.k3, below_cell hx hb h.k4⟩
theorem BoxC.below {B : Nat} {W V : World} {b : Nat} {c : Cv} (h : BoxC W b c) (hx : Below B W V) (hb : b < B) : BoxC V b c :=
  ⟨below_cell hx hb h.k1, below_cell hx hb h.k2, below_cell hx hb h.k3, below_cell hx hb h.k4, below_cell hx hb h.k5, below_cell hx hb h.k6⟩
def zeroSg : Value := .agg #[S [], S [], S [], S []]
def clipV (c : Cv) (s : Sg) : Value := match clipR c s with | none => .tuple #[.agg #[S [], S [], S [], S []], .bool false] | some p => .tuple #[sgV p, .bool true]
theorem clipV_none {c : Cv} {s : Sg} (h : clipR c s = none) : clipV c s = .tuple #[.agg #[S [], S [], S [], S []], .bool false] := by unfold clipV; rw [h]
theorem clipV_some {c : Cv} {s p : Sg} (h : clipR c s = some p) : clipV c s = .tuple #[sgV p, .bool true] := by unfold clipV; rw [h]
/-- The state of the clip's own boxes. -/
structure ClipSt (w V : World) (c : Cv) (s : Sg) (l h : Rat) (m : Nat) : Prop where
  ext : Ext w V
  C : BoxC V w.heap.size c
  S : BoxS V (w.heap.size + 1) s
  Z : V.heap[w.heap.size + 1 + 1]? = some (.cells #[Go.Proofs.YtblijhokcjpeeaaGreatDoor.S [], Go.Proofs.YtblijhokcjpeeaaGreatDoor.S [], Go.Proofs.YtblijhokcjpeeaaGreatDoor.S [], Go.Proofs.YtblijhokcjpeeaaGreatDoor.S []] 31)
  B : Bds V (w.heap.size + 1 + 1 + 1) l h
  l : Sz m l
  h : Sz m h
theorem ClipSt.trans {w V U : World} {c : Cv} {s : Sg} {l h : Rat} {m : Nat} (hs : ClipSt w V c s l h m) (hx : Ext V U) : ClipSt w U c s l h m :=
  ⟨hs.ext.trans hx, hs.C.ext hx, hs.S.ext hx, (hx.block _ (lt_of_block hs.Z)).trans hs.Z, hs.B.ext hx, hs.l, hs.h⟩
theorem ClipSt.below {w V U : World} {c : Cv} {s : Sg} {l h l' h' : Rat} {m : Nat} (hs : ClipSt w V c s l h m) (hx : Below (w.heap.size + 1 + 1 + 1) V U) (hb : Bds U (w.heap.size + 1 + 1 + 1) l' h') (hl : Sz m l') (hh : Sz m h') : ClipSt w U c s l' h' m :=
  ⟨hs.ext.trans_below hx (by omega), hs.C.below hx (by omega), hs.S.below hx (by omega), (hx.block _ (by omega)).trans hs.Z, hb, hl, hh⟩
theorem set4 {w : World} {b : Nat} {a0 a1 a2 a3 : Value} (v0 v1 v2 v3 : Value) (g0 : w.cell? ⟨b, 0, none⟩ = some a0) (g1 : w.cell? ⟨b, 1, none⟩ = some a1) (g2 : w.cell? ⟨b, 2, none⟩ = some a2) (g3 : w.cell? ⟨b, 3, none⟩ = some a3) :
    ∃ W, W = (((w.setCell ⟨b, 0, none⟩ v0).setCell ⟨b, 1, none⟩ v1).setCell ⟨b, 2, none⟩ v2).setCell ⟨b, 3, none⟩ v3 ∧ W.cell? ⟨b, 0, none⟩ = some v0 ∧ W.cell? ⟨b, 1, none⟩ = some v1 ∧ W.cell? ⟨b, 2, none⟩ = some v2 ∧ W.cell? ⟨b, 3, none⟩ = some v3 := by
  have n : ∀ (W : World) (v : Value) (i j : Nat), i ≠ j → (W.setCell ⟨b, i, none⟩ v).cell? ⟨b, j, none⟩ = W.cell? ⟨b, j, none⟩ := fun W v i j h => World.cell?_setCell_other _ _ _ _ (by simp)
  refine ⟨_, rfl, ?_, ?_, ?_, ?_⟩
  · rw [n _ _ _ _ (by decide), n _ _ _ _ (by decide), n _ _ _ _ (by decide)]; exact World.cell?_setCell_same _ _ _ g0
  · rw [n _ _ _ _ (by decide), n _ _ _ _ (by decide)]; exact World.cell?_setCell_same _ _ _ ((n _ _ _ _ (by decide)).trans g1)
  · rw [n _ _ _ _ (by decide)]; exact World.cell?_setCell_same _ _ _ ((n _ _ _ _ (by decide)).trans ((n _ _ _ _ (by decide)).trans g2))
  · exact World.cell?_setCell_same _ _ _ ((n _ _ _ _ (by decide)).trans ((n _ _ _ _ (by decide)).trans ((n _ _ _ _ (by decide)).trans g3)))

set_option maxRecDepth 100000 in
set_option maxHeartbeats 16000000 in
theorem clip_c (c : Cv) (s : Sg) (hc : CvS c) {a : Nat} (hs : SzS a s) (ha : 0 < a) (ha2 : a ≤ 200) (w : World) (hw : Okw w) :
    Calls Tryz.prog 33 #[cvV c, sgV s] w (RetV (clipV c s) w) := by
  have hmf : ∀ (fn : Fn) (first cap : Array Value) (w : World), (Instr.makeFunc fn first cap).run Tryz.prog w = .ok (.func fn first cap) w := fun _ _ _ _ => rfl
  obtain ⟨m, hm⟩ : ∃ m, m = 3 * a + 5 := ⟨_, rfl⟩
  have hdx := hs.b.x.sub hs.a.x
  have hdy := hs.b.y.sub hs.a.y
  have f1 : Sz (a + 4) (s.a.x - c.low.x) := (hs.a.x.sub hc.low.x).mono (by omega)
  have f2 : Sz (a + 4) (c.high.x - s.a.x) := (hc.high.x.sub hs.a.x).mono (by omega)
  have f3 : Sz (a + 4) (s.a.y - c.low.y) := (hs.a.y.sub hc.low.y).mono (by omega)
  have f4 : Sz (a + 4) (c.high.y - s.a.y) := (hc.high.y.sub hs.a.y).mono (by omega)
  have sx := rSub_c s.b.x s.a.x (a := a) (b := a) ⟨hs.b.x, hs.a.x, ha, ha, by omega⟩
  have sy := rSub_c s.b.y s.a.y (a := a) (b := a) ⟨hs.b.y, hs.a.y, ha, ha, by omega⟩
  have t1 := rSub_c s.a.x c.low.x (a := a) (b := 3) ⟨hs.a.x, hc.low.x, ha, by omega, by omega⟩
  have t2 := rSub_c c.high.x s.a.x (a := 3) (b := a) ⟨hc.high.x, hs.a.x, by omega, ha, by omega⟩
  have t3 := rSub_c s.a.y c.low.y (a := a) (b := 3) ⟨hs.a.y, hc.low.y, ha, by omega, by omega⟩
  have t4 := rSub_c c.high.y s.a.y (a := 3) (b := a) ⟨hc.high.y, hs.a.y, by omega, ha, by omega⟩
  obtain ⟨dx, hdxe⟩ : ∃ d, d = s.b.x - s.a.x := ⟨_, rfl⟩
  obtain ⟨dy, hdye⟩ : ∃ d, d = s.b.y - s.a.y := ⟨_, rfl⟩
  obtain ⟨g1, hg1⟩ : ∃ d, d = s.a.x - c.low.x := ⟨_, rfl⟩
  obtain ⟨g2, hg2⟩ : ∃ d, d = c.high.x - s.a.x := ⟨_, rfl⟩
  obtain ⟨g3, hg3⟩ : ∃ d, d = s.a.y - c.low.y := ⟨_, rfl⟩
  obtain ⟨g4, hg4⟩ : ∃ d, d = c.high.y - s.a.y := ⟨_, rfl⟩
  have HLH : Hid (clipLH c s = bstep g4 (-dy) (bstep g3 dy (bstep g2 (-dx) (bstep g1 dx (some (0, 1)))))) := Lib.hid (by unfold clipLH; rw [hg1, hg2, hg3, hg4, hdxe, hdye])
  rw [← hdxe] at hdx sx
  rw [← hdye] at hdy sy
  rw [← hg1] at f1 t1
  rw [← hg2] at f2 t2
  rw [← hg3] at f3 t3
  rw [← hg4] at f4 t4
  have nx := rNeg_c dx (k := a + a + 1) (by omega) (by omega) hdx
  have ny := rNeg_c dy (k := a + a + 1) (by omega) (by omega) hdy
  have b1 := fun l h (hl : Sz m l) (hh : Sz m h) => border_c g1 dx l h f1 hdx hl hh (by omega) (by omega) (by omega) (by omega) (w.heap.size + 1 + 1 + 1)
  have b2 := fun l h (hl : Sz m l) (hh : Sz m h) => border_c g2 (-dx) l h f2 hdx.neg hl hh (by omega) (by omega) (by omega) (by omega) (w.heap.size + 1 + 1 + 1)
  have b3 := fun l h (hl : Sz m l) (hh : Sz m h) => border_c g3 dy l h f3 hdy hl hh (by omega) (by omega) (by omega) (by omega) (w.heap.size + 1 + 1 + 1)
  have b4 := fun l h (hl : Sz m l) (hh : Sz m h) => border_c g4 (-dy) l h f4 hdy.neg hl hh (by omega) (by omega) (by omega) (by omega) (w.heap.size + 1 + 1 + 1)
  have m0 : Sz m 0 := ⟨by show 0 < 10 ^ m; exact pow10_pos m, by show 1 < 10 ^ m; exact Nat.one_lt_pow (by omega) (by omega)⟩
  have m1 : Sz m 1 := ⟨by show 1 < 10 ^ m; exact Nat.one_lt_pow (by omega) (by omega), by show 1 < 10 ^ m; exact Nat.one_lt_pow (by omega) (by omega)⟩
  have MM := Lib.hid hm
  have HS := Lib.hid hs
  obtain ⟨rv, hrv⟩ : ∃ v, v = clipV c s := ⟨_, rfl⟩
  have HRV := Lib.hid hrv
  rw [← hrv]
  unfold cvV sgV
  clear hdxe hdye hg1 hg2 hg3 hg4 f1 f2 f3 f4 hdx hdy hs hc hrv hm
  go_enter Tryz.func33, Tryz.ntmps33
  go_wp2_with fail
  clear hmf
  obtain ⟨W, hW, hE, hb1, hb2, hb3, hb4, hb5⟩ := blk5 w (.cells #[S (R c.low.x), S (R c.low.y), S (R c.high.x), S (R c.high.y), .int .i64 (c.W : Nat), .int .i64 (c.H : Nat)] 35) (.cells #[S (R s.a.x), S (R s.a.y), S (R s.b.x), S (R s.b.y)] 31) (.cells #[S [], S [], S [], S []] 31) (.cells #[S [48]] 27) (.cells #[S [49]] 27)
  rw [← hW]
  have st : ClipSt w W c s 0 1 m := ⟨hE, BoxC.of hb1, ⟨cell_of_blk hb2 rfl, cell_of_blk hb2 rfl, cell_of_blk hb2 rfl, cell_of_blk hb2 rfl⟩, hb3, ⟨by rw [R_zero]; exact hb4, by rw [R_one]; exact hb5⟩, m0, m1⟩
  clear hW hE hb1 hb2 hb3 hb4 hb5 m0 m1
  have hWd := (Ext.refl W).drew
  obtain ⟨k1, k2, k3, k4⟩ := st.S
  have hEd := st.ext.drew
  go_region_held3 (fun w' => w'.cell? ⟨w.heap.size + 1, 0, none⟩ = some (S (R s.a.x)) ∧ w'.cell? ⟨w.heap.size + 1, 1, none⟩ = some (S (R s.a.y)) ∧ w'.cell? ⟨w.heap.size + 1, 2, none⟩ = some (S (R s.b.x)) ∧ w'.cell? ⟨w.heap.size + 1, 3, none⟩ = some (S (R s.b.y)))
    (go_keep)
    (first | ((with_reducible refine (sx _ (hw.ext hEd)).mono ?_); rintro e w1 ⟨rfl, hx1⟩; obtain ⟨q1, q2, q3, q4⟩ := st.S.ext (hWd.trans hx1)) | ((with_reducible refine (sy _ (hw.ext (hEd.trans hx1))).mono ?_); rintro e w2 ⟨rfl, hx2⟩; obtain ⟨s1, s2, s3, s4⟩ := st.S.ext (hWd.trans (hx1.trans hx2))))
  replace st := st.trans (hWd.trans (hx1.trans hx2))
  clear hWd hEd hx1 hx2 k1 k2 k3 k4 q1 q2 q3 q4 s1 s2 s3 s4 sx sy
  obtain ⟨c1, c2, c3, c4, c5, c6⟩ := st.C
  obtain ⟨k1, k2, k3, k4⟩ := st.S
  go_wp2_with fail
  ((with_reducible refine (t1 _ (hw.ext st.ext)).mono ?_); rintro e wa1 ⟨rfl, hx⟩)
  replace st := st.trans hx
  clear hx c1 c2 c3 c4 c5 c6 k1 k2 k3 k4 t1
  have hbi := b1 _ _ st.l st.h _ (hw.ext st.ext) st.B
  go_wp2_with fail
  ((with_reducible refine hbi.mono ?_); rintro e wb1 ⟨bb1, l1, h1, rfl, hbel, hbds, hst1, hsm, hzl, hzh⟩)
  clear b1 hbi
  cases bb1
  · have HSTF1 := Lib.hid hst1
    obtain ⟨rfl, rfl⟩ := hsm rfl
    replace st := st.below hbel hbds st.l st.h
    clear hst1 hbel hbds hsm hzl hzh
    have hn : clipR c s = none := by unfold clipR; rw [HLH.out, show bstep _ _ _ = none from HSTF1.out, bstep_none, bstep_none, bstep_none]
    have hv : rv = _ := HRV.out.trans (clipV_none hn)
    subst hv
    have z0 := cell_of_blk (o := 0) st.Z rfl
    have z1 := cell_of_blk (o := 1) st.Z rfl
    have z2 := cell_of_blk (o := 2) st.Z rfl
    have z3 := cell_of_blk (o := 3) st.Z rfl
    have y0 := free_of_blk (o := 0) st.Z
    have y1 := free_of_blk (o := 1) st.Z
    have y2 := free_of_blk (o := 2) st.Z
    have y3 := free_of_blk (o := 3) st.Z
    obtain ⟨X, hX, x0, x1, x2, x3⟩ := set4 (S []) (S []) (S []) (S []) z0 z1 z2 z3
    clear hn
    go_wp2
    rw [show (⟨#[]⟩ : ByteArray) = ⟨([] : Bs).toArray⟩ from rfl, ← hX]
    refine bodyPost_ret (v := .tuple #[.agg #[S [], S [], S [], S []], .bool false]) (by simp [results, Tryz.results33, go_sem, x0, x1, x2, x3]) rfl ⟨rfl, ?_⟩
    rw [hX]
    exact (((st.ext.setCell (by show w.heap.size ≤ w.heap.size + 1 + 1; omega) _).setCell (by show w.heap.size ≤ w.heap.size + 1 + 1; omega) _).setCell (by show w.heap.size ≤ w.heap.size + 1 + 1; omega) _).setCell (by show w.heap.size ≤ w.heap.size + 1 + 1; omega) _
  have HST1 : Hid (bstep _ _ _ = some (l1, h1)) := Lib.hid hst1
  replace st := st.below hbel hbds hzl hzh
  clear hst1 hbel hbds hsm hzl hzh
  obtain ⟨c1, c2, c3, c4, c5, c6⟩ := st.C
  obtain ⟨k1, k2, k3, k4⟩ := st.S
  go_wp2_with fail
  ((with_reducible refine (t2 _ (hw.ext st.ext)).mono ?_); rintro e wa2 ⟨rfl, hx⟩)
  replace st := st.trans hx
  clear hx c1 c2 c3 c4 c5 c6 k1 k2 k3 k4 t2
  go_wp2_with fail
  ((with_reducible refine (nx _).mono ?_); rintro e wc2 ⟨rfl, hx⟩)
  replace st := st.trans hx
  clear hx nx
  have hbi := b2 _ _ st.l st.h _ (hw.ext st.ext) st.B
  go_wp2_with fail
  ((with_reducible refine hbi.mono ?_); rintro e wb2 ⟨bb2, l2, h2, rfl, hbel, hbds, hst2, hsm, hzl, hzh⟩)
  clear b2 hbi
  cases bb2
  · have HSTF2 := Lib.hid hst2
    obtain ⟨rfl, rfl⟩ := hsm rfl
    replace st := st.below hbel hbds st.l st.h
    clear hst2 hbel hbds hsm hzl hzh
    have hn : clipR c s = none := by unfold clipR; rw [HLH.out, HST1.out, show bstep _ _ _ = none from HSTF2.out, bstep_none, bstep_none]
    have hv : rv = _ := HRV.out.trans (clipV_none hn)
    subst hv
    have z0 := cell_of_blk (o := 0) st.Z rfl
    have z1 := cell_of_blk (o := 1) st.Z rfl
    have z2 := cell_of_blk (o := 2) st.Z rfl
    have z3 := cell_of_blk (o := 3) st.Z rfl
    have y0 := free_of_blk (o := 0) st.Z
    have y1 := free_of_blk (o := 1) st.Z
    have y2 := free_of_blk (o := 2) st.Z
    have y3 := free_of_blk (o := 3) st.Z
    obtain ⟨X, hX, x0, x1, x2, x3⟩ := set4 (S []) (S []) (S []) (S []) z0 z1 z2 z3
    clear hn
    go_wp2
    rw [show (⟨#[]⟩ : ByteArray) = ⟨([] : Bs).toArray⟩ from rfl, ← hX]
    refine bodyPost_ret (v := .tuple #[.agg #[S [], S [], S [], S []], .bool false]) (by simp [results, Tryz.results33, go_sem, x0, x1, x2, x3]) rfl ⟨rfl, ?_⟩
    rw [hX]
    exact (((st.ext.setCell (by show w.heap.size ≤ w.heap.size + 1 + 1; omega) _).setCell (by show w.heap.size ≤ w.heap.size + 1 + 1; omega) _).setCell (by show w.heap.size ≤ w.heap.size + 1 + 1; omega) _).setCell (by show w.heap.size ≤ w.heap.size + 1 + 1; omega) _
  have HST2 : Hid (bstep _ _ _ = some (l2, h2)) := Lib.hid hst2
  replace st := st.below hbel hbds hzl hzh
  clear hst2 hbel hbds hsm hzl hzh
  obtain ⟨c1, c2, c3, c4, c5, c6⟩ := st.C
  obtain ⟨k1, k2, k3, k4⟩ := st.S
  go_wp2_with fail
  ((with_reducible refine (t3 _ (hw.ext st.ext)).mono ?_); rintro e wa3 ⟨rfl, hx⟩)
  replace st := st.trans hx
  clear hx c1 c2 c3 c4 c5 c6 k1 k2 k3 k4 t3
  have hbi := b3 _ _ st.l st.h _ (hw.ext st.ext) st.B
  go_wp2_with fail
  ((with_reducible refine hbi.mono ?_); rintro e wb3 ⟨bb3, l3, h3, rfl, hbel, hbds, hst3, hsm, hzl, hzh⟩)
  clear b3 hbi
  cases bb3
  · have HSTF3 := Lib.hid hst3
    obtain ⟨rfl, rfl⟩ := hsm rfl
    replace st := st.below hbel hbds st.l st.h
    clear hst3 hbel hbds hsm hzl hzh
    have hn : clipR c s = none := by unfold clipR; rw [HLH.out, HST1.out, HST2.out, show bstep _ _ _ = none from HSTF3.out, bstep_none]
    have hv : rv = _ := HRV.out.trans (clipV_none hn)
    subst hv
    have z0 := cell_of_blk (o := 0) st.Z rfl
    have z1 := cell_of_blk (o := 1) st.Z rfl
    have z2 := cell_of_blk (o := 2) st.Z rfl
    have z3 := cell_of_blk (o := 3) st.Z rfl
    have y0 := free_of_blk (o := 0) st.Z
    have y1 := free_of_blk (o := 1) st.Z
    have y2 := free_of_blk (o := 2) st.Z
    have y3 := free_of_blk (o := 3) st.Z
    obtain ⟨X, hX, x0, x1, x2, x3⟩ := set4 (S []) (S []) (S []) (S []) z0 z1 z2 z3
    clear hn
    go_wp2
    rw [show (⟨#[]⟩ : ByteArray) = ⟨([] : Bs).toArray⟩ from rfl, ← hX]
    refine bodyPost_ret (v := .tuple #[.agg #[S [], S [], S [], S []], .bool false]) (by simp [results, Tryz.results33, go_sem, x0, x1, x2, x3]) rfl ⟨rfl, ?_⟩
    rw [hX]
    exact (((st.ext.setCell (by show w.heap.size ≤ w.heap.size + 1 + 1; omega) _).setCell (by show w.heap.size ≤ w.heap.size + 1 + 1; omega) _).setCell (by show w.heap.size ≤ w.heap.size + 1 + 1; omega) _).setCell (by show w.heap.size ≤ w.heap.size + 1 + 1; omega) _
  have HST3 : Hid (bstep _ _ _ = some (l3, h3)) := Lib.hid hst3
  replace st := st.below hbel hbds hzl hzh
  clear hst3 hbel hbds hsm hzl hzh
  obtain ⟨c1, c2, c3, c4, c5, c6⟩ := st.C
  obtain ⟨k1, k2, k3, k4⟩ := st.S
  go_wp2_with fail
  ((with_reducible refine (t4 _ (hw.ext st.ext)).mono ?_); rintro e wa4 ⟨rfl, hx⟩)
  replace st := st.trans hx
  clear hx c1 c2 c3 c4 c5 c6 k1 k2 k3 k4 t4
  go_wp2_with fail
  ((with_reducible refine (ny _).mono ?_); rintro e wc4 ⟨rfl, hx⟩)
  replace st := st.trans hx
  clear hx ny
  have hbi := b4 _ _ st.l st.h _ (hw.ext st.ext) st.B
  go_wp2_with fail
  ((with_reducible refine hbi.mono ?_); rintro e wb4 ⟨bb4, l4, h4, rfl, hbel, hbds, hst4, hsm, hzl, hzh⟩)
  clear b4 hbi
  cases bb4
  · have HSTF4 := Lib.hid hst4
    obtain ⟨rfl, rfl⟩ := hsm rfl
    replace st := st.below hbel hbds st.l st.h
    clear hst4 hbel hbds hsm hzl hzh
    have hn : clipR c s = none := by unfold clipR; rw [HLH.out, HST1.out, HST2.out, HST3.out, show bstep _ _ _ = none from HSTF4.out]
    have hv : rv = _ := HRV.out.trans (clipV_none hn)
    subst hv
    have z0 := cell_of_blk (o := 0) st.Z rfl
    have z1 := cell_of_blk (o := 1) st.Z rfl
    have z2 := cell_of_blk (o := 2) st.Z rfl
    have z3 := cell_of_blk (o := 3) st.Z rfl
    have y0 := free_of_blk (o := 0) st.Z
    have y1 := free_of_blk (o := 1) st.Z
    have y2 := free_of_blk (o := 2) st.Z
    have y3 := free_of_blk (o := 3) st.Z
    obtain ⟨X, hX, x0, x1, x2, x3⟩ := set4 (S []) (S []) (S []) (S []) z0 z1 z2 z3
    clear hn
    go_wp2
    rw [show (⟨#[]⟩ : ByteArray) = ⟨([] : Bs).toArray⟩ from rfl, ← hX]
    refine bodyPost_ret (v := .tuple #[.agg #[S [], S [], S [], S []], .bool false]) (by simp [results, Tryz.results33, go_sem, x0, x1, x2, x3]) rfl ⟨rfl, ?_⟩
    rw [hX]
    exact (((st.ext.setCell (by show w.heap.size ≤ w.heap.size + 1 + 1; omega) _).setCell (by show w.heap.size ≤ w.heap.size + 1 + 1; omega) _).setCell (by show w.heap.size ≤ w.heap.size + 1 + 1; omega) _).setCell (by show w.heap.size ≤ w.heap.size + 1 + 1; omega) _
  have HST4 : Hid (bstep _ _ _ = some (l4, h4)) := Lib.hid hst4
  replace st := st.below hbel hbds hzl hzh
  clear hst4 hbel hbds hsm hzl hzh
  have hLH : clipLH c s = some (l4, h4) := by rw [HLH.out, HST1.out, HST2.out, HST3.out, HST4.out]
  have cm := rCompare_c l4 h4 (a := m) (b := m) ⟨st.l, st.h, by have := MM.out; omega, by have := MM.out; omega, by have := MM.out; omega⟩
  have HL := Lib.hid hLH
  clear hLH
  obtain ⟨bd1, bd2⟩ := st.B
  have j1 := cell_of_blk (o := 0) bd1 rfl
  have j2 := cell_of_blk (o := 0) bd2 rfl
  by_cases hlt : h4 < l4
  · have hn : clipR c s = none := by unfold clipR; rw [HL.out]; exact if_pos hlt
    have hv : rv = _ := HRV.out.trans (clipV_none hn)
    subst hv
    rw [cmpR_gt hlt] at cm
    clear hn bd1 bd2 hlt
    go_wp2_with fail
    ((with_reducible refine (cm _ (hw.ext st.ext)).mono ?_); rintro e wd ⟨rfl, hx⟩)
    replace st := st.trans hx
    have z0 := cell_of_blk (o := 0) st.Z rfl
    have z1 := cell_of_blk (o := 1) st.Z rfl
    have z2 := cell_of_blk (o := 2) st.Z rfl
    have z3 := cell_of_blk (o := 3) st.Z rfl
    have y0 := free_of_blk (o := 0) st.Z
    have y1 := free_of_blk (o := 1) st.Z
    have y2 := free_of_blk (o := 2) st.Z
    have y3 := free_of_blk (o := 3) st.Z
    obtain ⟨X, hX, x0, x1, x2, x3⟩ := set4 (S []) (S []) (S []) (S []) z0 z1 z2 z3
    go_wp2
    rw [show (⟨#[]⟩ : ByteArray) = ⟨([] : Bs).toArray⟩ from rfl, ← hX]
    refine bodyPost_ret (v := .tuple #[.agg #[S [], S [], S [], S []], .bool false]) (by simp [results, Tryz.results33, go_sem, x0, x1, x2, x3]) rfl ⟨rfl, ?_⟩
    rw [hX]
    exact (((st.ext.setCell (by show w.heap.size ≤ w.heap.size + 1 + 1; omega) _).setCell (by show w.heap.size ≤ w.heap.size + 1 + 1; omega) _).setCell (by show w.heap.size ≤ w.heap.size + 1 + 1; omega) _).setCell (by show w.heap.size ≤ w.heap.size + 1 + 1; omega) _
  · have hn : clipR c s = some ⟨atR s l4, atR s h4⟩ := by unfold clipR; rw [HL.out]; exact if_neg hlt
    have hv : rv = _ := HRV.out.trans (clipV_some hn)
    subst hv
    obtain ⟨sg, hsg, hsg0⟩ : ∃ z : Int, z = cmpR l4 h4 ∧ ¬ 0 < z := by
      by_cases e : l4 = h4
      · exact ⟨_, rfl, by rw [cmpR_eq e]; omega⟩
      · exact ⟨_, rfl, by rw [cmpR_lt (by grind)]; omega⟩
    rw [← hsg] at cm
    have at1 := at_c s l4 (i := a) (m := m) HS.out st.l ha (by have := MM.out; omega) (by have := MM.out; omega)
    have at2 := at_c s h4 (i := a) (m := m) HS.out st.h ha (by have := MM.out; omega) (by have := MM.out; omega)
    unfold sgV ptV at at1 at2
    unfold sgV
    clear hn bd1 bd2 hlt hsg
    go_wp2_with fail
    ((with_reducible refine (cm _ (hw.ext st.ext)).mono ?_); rintro e V ⟨rfl, hx⟩)
    replace st := st.trans hx
    clear hx cm j1 j2
    obtain ⟨bd1, bd2⟩ := st.B
    have j1 := cell_of_blk (o := 0) bd1 rfl
    have j2 := cell_of_blk (o := 0) bd2 rfl
    obtain ⟨k1, k2, k3, k4⟩ := st.S
    have hWd := (Ext.refl V).drew
    have hEd := st.ext.drew
    clear bd1 bd2
    go_wp2_with fail
    go_region_held3 (fun w' => w'.cell? ⟨w.heap.size + 1, 0, none⟩ = some (S (R s.a.x)) ∧ w'.cell? ⟨w.heap.size + 1, 1, none⟩ = some (S (R s.a.y)) ∧ w'.cell? ⟨w.heap.size + 1, 2, none⟩ = some (S (R s.b.x)) ∧ w'.cell? ⟨w.heap.size + 1, 3, none⟩ = some (S (R s.b.y)) ∧ w'.cell? ⟨w.heap.size + 1 + 1 + 1, 0, none⟩ = some (S (R l4)) ∧ w'.cell? ⟨w.heap.size + 1 + 1 + 1 + 1, 0, none⟩ = some (S (R h4)))
      (first | go_keep | (refine ⟨?_, ?_, ?_, ?_, ?_, ?_⟩ <;> (rw [World.cell?_setCell_far _ _ _ _ (by simp only []; omega), World.cell?_setCell_far _ _ _ _ (by simp only []; omega), World.cell?_setCell_far _ _ _ _ (by simp only []; omega), World.cell?_setCell_far _ _ _ _ (by simp only []; omega)]; assumption)))
      (first | ((with_reducible refine (at1 _ (hw.ext hEd)).mono ?_); rintro e w1 ⟨rfl, hx1⟩; obtain ⟨q1, q2, q3, q4⟩ := st.S.ext (hWd.trans hx1); have q5 := (hWd.trans hx1).cellS j1; have q6 := (hWd.trans hx1).cellS j2) | ((with_reducible refine (at2 _ (hw.ext (hEd.trans hx1))).mono ?_); rintro e w2 ⟨rfl, hx2⟩; have st2 := st.trans (hWd.trans (hx1.trans hx2)); obtain ⟨s1, s2, s3, s4⟩ := st2.S; have s5 := (hWd.trans (hx1.trans hx2)).cellS j1; have s6 := (hWd.trans (hx1.trans hx2)).cellS j2; have z0 := cell_of_blk (o := 0) st2.Z rfl; have z1 := cell_of_blk (o := 1) st2.Z rfl; have z2 := cell_of_blk (o := 2) st2.Z rfl; have z3 := cell_of_blk (o := 3) st2.Z rfl; have y0 := free_of_blk (o := 0) st2.Z; have y1 := free_of_blk (o := 1) st2.Z; have y2 := free_of_blk (o := 2) st2.Z; have y3 := free_of_blk (o := 3) st2.Z))
    obtain ⟨X, hX, x0, x1, x2, x3⟩ := set4 (S (R (atR s l4).x)) (S (R (atR s l4).y)) (S (R (atR s h4).x)) (S (R (atR s h4).y)) z0 z1 z2 z3
    go_wp2
    rw [← hX]
    refine bodyPost_ret (v := .tuple #[.agg #[S (R (atR s l4).x), S (R (atR s l4).y), S (R (atR s h4).x), S (R (atR s h4).y)], .bool true]) (by simp [results, Tryz.results33, go_sem, x0, x1, x2, x3]) rfl ⟨rfl, ?_⟩
    rw [hX]
    exact (((st2.ext.setCell (by show w.heap.size ≤ w.heap.size + 1 + 1; omega) _).setCell (by show w.heap.size ≤ w.heap.size + 1 + 1; omega) _).setCell (by show w.heap.size ≤ w.heap.size + 1 + 1; omega) _).setCell (by show w.heap.size ≤ w.heap.size + 1 + 1; omega) _
end Go.Proofs.YtblijhokcjpeeaaGreatDoor
