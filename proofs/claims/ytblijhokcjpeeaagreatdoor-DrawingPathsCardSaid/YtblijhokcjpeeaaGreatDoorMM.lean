/- drawing.clip's border. -/
import Derived.Test.YtblijhokcjpeeaaGreatDoorML
/- drawing.pixel. -/
namespace Go.Proofs.YtblijhokcjpeeaaGreatDoor
open Go.RowKit Kl

/-- A canvas in one box. -/
structure BoxC (W : World) (b : Nat) (c : Cv) : Prop where
  k1 : W.cell? ⟨b, 0, none⟩ = some (S (R c.low.x))
  k2 : W.cell? ⟨b, 1, none⟩ = some (S (R c.low.y))
  k3 : W.cell? ⟨b, 2, none⟩ = some (S (R c.high.x))
  k4 : W.cell? ⟨b, 3, none⟩ = some (S (R c.high.y))
  k5 : W.cell? ⟨b, 4, none⟩ = some (.int .i64 (c.W : Nat))
  k6 : W.cell? ⟨b, 5, none⟩ = some (.int .i64 (c.H : Nat))
theorem BoxC.ext {W V : World} {b : Nat} {c : Cv} (h : BoxC W b c) (hx : Ext W V) : BoxC V b c :=
  ⟨hx.cellS h.k1, hx.cellS h.k2, hx.cellS h.k3, hx.cellS h.k4, hx.cellS h.k5, hx.cellS h.k6⟩
def cvCells (c : Cv) : Array Value := #[S (R c.low.x), S (R c.low.y), S (R c.high.x), S (R c.high.y), .int .i64 (c.W : Nat), .int .i64 (c.H : Nat)]
theorem BoxC.of {W : World} {b : Nat} {c : Cv} {t : TypeId} (h : W.heap[b]? = some (.cells #[S (R c.low.x), S (R c.low.y), S (R c.high.x), S (R c.high.y), .int .i64 (c.W : Nat), .int .i64 (c.H : Nat)] t)) : BoxC W b c :=
  ⟨cell_of_blk h rfl, cell_of_blk h rfl, cell_of_blk h rfl, cell_of_blk h rfl, cell_of_blk h rfl, cell_of_blk h rfl⟩
structure BoxP (W : World) (b : Nat) (p : Pt) : Prop where
  k1 : W.cell? ⟨b, 0, none⟩ = some (S (R p.x))
  k2 : W.cell? ⟨b, 1, none⟩ = some (S (R p.y))
theorem BoxP.ext {W V : World} {b : Nat} {p : Pt} (h : BoxP W b p) (hx : Ext W V) : BoxP V b p := ⟨hx.cellS h.k1, hx.cellS h.k2⟩
structure CvS (c : Cv) : Prop where
  ok : c.Ok
  low : SzP 3 c.low
  high : SzP 3 c.high
def dotV (a b : Int) : Value := .agg #[.int .i64 a, .int .i64 b]
set_option maxRecDepth 100000 in
set_option maxHeartbeats 4000000 in
theorem pixel_ok (c : Cv) (p : Pt) (hc : CvS c) {a : Nat} (hp : SzP a p) (ha : 0 < a) (ha2 : a ≤ 3800) (c1 : -1000000 ≤ colR c p) (c2 : colR c p ≤ 1000000) (r1 : -1000000 ≤ rowR c p) (r2 : rowR c p ≤ 1000000) (w : World) (hw : Okw w) :
    Calls Tryz.prog 31 #[cvV c, ptV p] w (RetV (.tuple #[dotV (colR c p) (rowR c p), .int .i64 0]) w) := by
  have hl := hc.low
  have hh := hc.high
  have sx1 := rSub_c p.x c.low.x (a := a) (b := 3) ⟨hp.x, hl.x, ha, by omega, by omega⟩
  have sx2 := rSub_c c.high.x c.low.x (a := 3) (b := 3) ⟨hh.x, hl.x, by omega, by omega, by omega⟩
  have sy1 := rSub_c c.high.y p.y (a := 3) (b := a) ⟨hh.y, hp.y, by omega, ha, by omega⟩
  have sy2 := rSub_c c.high.y c.low.y (a := 3) (b := 3) ⟨hh.y, hl.y, by omega, by omega, by omega⟩
  have n1 := nearest_ok (p.x - c.low.x) (c.high.x - c.low.x) c.W (by have := hc.ok.x; grind) (hp.x.sub hl.x) (hh.x.sub hl.x) (by omega) (by omega) (by omega) hc.ok.w2 c1 c2
  have n2 := nearest_ok (c.high.y - p.y) (c.high.y - c.low.y) c.H (by have := hc.ok.y; grind) (hh.y.sub hp.y) (hh.y.sub hl.y) (by omega) (by omega) (by omega) hc.ok.h2 r1 r2
  have e1 : nearR (p.x - c.low.x) (c.high.x - c.low.x) c.W = colR c p := rfl
  have e2 : nearR (c.high.y - p.y) (c.high.y - c.low.y) c.H = rowR c p := rfl
  rw [e1] at n1
  rw [e2] at n2
  obtain ⟨col, hcol⟩ : ∃ z, z = colR c p := ⟨_, rfl⟩
  obtain ⟨row, hrow⟩ : ∃ z, z = rowR c p := ⟨_, rfl⟩
  rw [← hcol] at n1 ⊢
  rw [← hrow] at n2 ⊢
  unfold cvV ptV dotV
  clear hl hh hc hp ha ha2 c1 c2 r1 r2 e1 e2 hcol hrow
  go_enter Tryz.func31, Tryz.ntmps31
  go_wp2_with fail
  obtain ⟨W, hW, hE, hb1, hb2, hb3⟩ := blk3 w (.cells #[S (R c.low.x), S (R c.low.y), S (R c.high.x), S (R c.high.y), .int .i64 (c.W : Nat), .int .i64 (c.H : Nat)] 35) (.cells #[S (R p.x), S (R p.y)] 29) (.cells #[.int .i64 0, .int .i64 0] 38)
  rw [← hW]
  have hC := BoxC.of hb1
  have hP : BoxP W (w.heap.size + 1) p := ⟨cell_of_blk hb2 rfl, cell_of_blk hb2 rfl⟩
  obtain ⟨j1, j2, j3, j4, j5, j6⟩ := hC
  obtain ⟨j7, j8⟩ := hP
  have hC := BoxC.of hb1
  have hP : BoxP W (w.heap.size + 1) p := ⟨cell_of_blk hb2 rfl, cell_of_blk hb2 rfl⟩
  have hbl := lt_of_block hb3
  have hWd := (Ext.refl W).drew
  have hEd := hE.drew
  clear hW hb1 hb2
  go_region_held3 (fun w' => w'.cell? ⟨w.heap.size, 0, none⟩ = some (S (R c.low.x)) ∧ w'.cell? ⟨w.heap.size, 2, none⟩ = some (S (R c.high.x)) ∧ w'.cell? ⟨w.heap.size, 4, none⟩ = some (.int .i64 (c.W : Nat)) ∧ w'.cell? ⟨w.heap.size + 1, 0, none⟩ = some (S (R p.x)))
    (go_keep)
    (first | ((with_reducible refine (sx1 _ (hw.ext hEd)).mono ?_); rintro e w1 ⟨rfl, hx1⟩; obtain ⟨q1, q2, q3, q4, q5, q6⟩ := hC.ext (hWd.trans hx1); obtain ⟨q7, q8⟩ := hP.ext (hWd.trans hx1)) | ((with_reducible refine (sx2 _ (hw.ext (hEd.trans hx1))).mono ?_); rintro e w2 ⟨rfl, hx2⟩; obtain ⟨s1, s2, s3, s4, s5, s6⟩ := hC.ext (hWd.trans (hx1.trans hx2)); obtain ⟨s7, s8⟩ := hP.ext (hWd.trans (hx1.trans hx2))) | ((with_reducible refine (n1 _ (hw.ext (hEd.trans (hx1.trans hx2)))).mono ?_); rintro e w3 ⟨rfl, hx3⟩; obtain ⟨t1, t2, t3, t4, t5, t6⟩ := hC.ext (hWd.trans (hx1.trans (hx2.trans hx3))); obtain ⟨t7, t8⟩ := hP.ext (hWd.trans (hx1.trans (hx2.trans hx3)))))
  have hV := hWd.trans (hx1.trans (hx2.trans hx3))
  have hEV := hE.trans hV
  replace hC := hC.ext hV
  replace hP := hP.ext hV
  have hb3 := (hV.block _ hbl).trans hb3
  have hbl := lt_of_block hb3
  clear hV hWd hEd hx1 hx2 hx3 hE j1 j2 j3 j4 j5 j6 j7 j8 q1 q2 q3 q4 q5 q6 q7 q8 s1 s2 s3 s4 s5 s6 s7 s8 sx1 sx2 n1
  have hWd := (Ext.refl w3).drew
  have hEd := hEV.drew
  go_wp2_with fail
  go_region_held3 (fun w' => w'.cell? ⟨w.heap.size, 1, none⟩ = some (S (R c.low.y)) ∧ w'.cell? ⟨w.heap.size, 3, none⟩ = some (S (R c.high.y)) ∧ w'.cell? ⟨w.heap.size, 5, none⟩ = some (.int .i64 (c.H : Nat)) ∧ w'.cell? ⟨w.heap.size + 1, 1, none⟩ = some (S (R p.y)))
    (go_keep)
    (first | ((with_reducible refine (sy1 _ (hw.ext hEd)).mono ?_); rintro e w4 ⟨rfl, hx1⟩; obtain ⟨q1, q2, q3, q4, q5, q6⟩ := hC.ext (hWd.trans hx1); obtain ⟨q7, q8⟩ := hP.ext (hWd.trans hx1)) | ((with_reducible refine (sy2 _ (hw.ext (hEd.trans hx1))).mono ?_); rintro e w5 ⟨rfl, hx2⟩; obtain ⟨s1, s2, s3, s4, s5, s6⟩ := hC.ext (hWd.trans (hx1.trans hx2)); obtain ⟨s7, s8⟩ := hP.ext (hWd.trans (hx1.trans hx2))) | ((with_reducible refine (n2 _ (hw.ext (hEd.trans (hx1.trans hx2)))).mono ?_); rintro e w6 ⟨rfl, hx3⟩; obtain ⟨v1, v2, v3, v4, v5, v6⟩ := hC.ext (hWd.trans (hx1.trans (hx2.trans hx3))); obtain ⟨v7, v8⟩ := hP.ext (hWd.trans (hx1.trans (hx2.trans hx3)))))
  have hV := hWd.trans (hx1.trans (hx2.trans hx3))
  have hE6 := hEV.trans hV
  have hb6 := (hV.block _ hbl).trans hb3
  have g1 : w6.cell? ⟨w.heap.size + 1 + 1, 0, none⟩ = some (.int .i64 0) := cell_of_blk hb6 rfl
  have g2 : w6.cell? ⟨w.heap.size + 1 + 1, 1, none⟩ = some (.int .i64 0) := cell_of_blk hb6 rfl
  have g3 : w6.frozen? ⟨w.heap.size + 1 + 1, 0, none⟩ = false := free_of_blk hb6
  have g4 : w6.frozen? ⟨w.heap.size + 1 + 1, 1, none⟩ = false := free_of_blk hb6
  obtain ⟨e1, e2⟩ := set2 (.int .i64 col) (.int .i64 row) g1 g2
  go_wp2
  refine bodyPost_ret (v := .tuple #[.agg #[.int .i64 col, .int .i64 row], .int .i64 0]) (by simp [results, Tryz.results31, go_sem, e1, e2]) rfl ?_
  exact ⟨rfl, (hE6.setCell (by show w.heap.size ≤ w.heap.size + 1 + 1; omega) _).setCell (by show w.heap.size ≤ w.heap.size + 1 + 1; omega) _⟩
end Go.Proofs.YtblijhokcjpeeaaGreatDoor
namespace Go.Proofs.YtblijhokcjpeeaaGreatDoor
open Go.RowKit Kl

/-- Two bounds in two boxes. -/
structure Bds (W : World) (bl : Nat) (l h : Rat) : Prop where
  l : W.heap[bl]? = some (.cells #[S (R l)] 27)
  h : W.heap[bl + 1]? = some (.cells #[S (R h)] 27)
theorem Bds.ext {W V : World} {bl : Nat} {l h : Rat} (hb : Bds W bl l h) (hx : Ext W V) : Bds V bl l h :=
  ⟨(hx.block _ (lt_of_block hb.l)).trans hb.l, (hx.block _ (lt_of_block hb.h)).trans hb.h⟩
/-- A border answers: how the bounds stand behind it. -/
def RetBd (m bl : Nat) (fr way l h : Rat) (w : World) (e : Ending) (w' : World) : Prop :=
  ∃ b l' h', e = .returned (.bool b) ∧ Below bl w w' ∧ Bds w' bl l' h' ∧ bstep fr way (some (l, h)) = (if b = true then some (l', h') else none) ∧ (b = false → l' = l ∧ h' = h) ∧ Sz m l' ∧ Sz m h'
theorem sz_max {m : Nat} {x y : Rat} (hx : Sz m x) (hy : Sz m y) : Sz m (maxR x y) := by unfold maxR; split <;> assumption
theorem sz_min {m : Nat} {x y : Rat} (hx : Sz m x) (hy : Sz m y) : Sz m (minR x y) := by unfold minR; split <;> assumption
theorem one_set {W : World} {b : Nat} {v u : Value} {t : TypeId} (h : W.heap[b]? = some (.cells #[v] t)) : (W.setCell ⟨b, 0, none⟩ u).heap[b]? = some (.cells #[u] t) := by
  simp only [World.setCell, Array.getElem?_modify, h]
  simp
set_option maxRecDepth 100000 in
set_option maxHeartbeats 2000000 in
theorem border_c (fr way l h : Rat) {a b m : Nat} (hf : Sz a fr) (hw2 : Sz b way) (hl : Sz m l) (hh : Sz m h) (ha : 0 < a) (hb : 0 < b) (hab : a + b ≤ m) (hm : m ≤ 1900) (bl : Nat) (w : World) (hw : Okw w) (hbd : Bds w bl l h) :
    Calls Tryz.prog 82 #[S (R fr), S (R way), .pointer (some ⟨bl, 0, none⟩), .pointer (some ⟨bl + 1, 0, none⟩)] w (RetBd m bl fr way l h w) := by
  have s1 := rSign_c fr
  have s2 := rSign_c way
  have hbl := lt_of_block hbd.l
  by_cases h0 : way = 0
  · subst h0
    rw [R_zero]
    by_cases hp : fr < 0
    · rw [sgnR_neg hp] at s1
      have HB : Hid (bstep fr 0 (some (l, h)) = none) := Lib.hid (by rw [bstep_eq, if_pos rfl, if_neg (by grind)])
      clear s2 hf hw2 hp
      go_enter Tryz.func82, Tryz.ntmps82
      go_wp2_with fail
      ((with_reducible refine (s1 _).mono ?_); rintro e w1 ⟨rfl, hx⟩)
      go_wp2
      go_ret
      exact ⟨false, l, h, rfl, hx.mono (Nat.le_of_lt hbl), hbd.ext hx, by rw [HB.out]; rfl, fun _ => ⟨rfl, rfl⟩, hl, hh⟩
    · obtain ⟨s, hs, hs0⟩ : ∃ s : Int, s = sgnR fr ∧ 0 ≤ s := ⟨_, rfl, by unfold sgnR; rw [if_neg hp]; split <;> omega⟩
      rw [← hs] at s1
      have HB : Hid (bstep fr 0 (some (l, h)) = some (l, h)) := Lib.hid (by rw [bstep_eq, if_pos rfl, if_pos (by grind)])
      clear s2 hf hw2 hp hs
      go_enter Tryz.func82, Tryz.ntmps82
      go_wp2_with fail
      ((with_reducible refine (s1 _).mono ?_); rintro e w1 ⟨rfl, hx⟩)
      go_wp2
      go_ret
      exact ⟨true, l, h, rfl, hx.mono (Nat.le_of_lt hbl), hbd.ext hx, by rw [HB.out]; rfl, fun _ => ⟨rfl, rfl⟩, hl, hh⟩
  · have n1 := R_ne0 h0
    have ng := rNeg_c fr ha (by omega) hf
    have dv := rDiv_c (-fr) way h0 (a := a) (b := b) ⟨hf.neg, hw2, ha, hb, by omega⟩
    have hk : Sz m (-fr / way) := (Sz.div hb hf.neg hw2).mono hab
    unfold retRE at dv
    by_cases hp : 0 < way
    · rw [sgnR_pos hp] at s2
      have mx := rMax_c l (-fr / way) (a := m) (b := m) ⟨hl, hk, by omega, by omega, by omega⟩
      have HB : Hid (bstep fr way (some (l, h)) = some (maxR l (-fr / way), h)) := Lib.hid (by rw [bstep_eq, if_neg h0, if_pos hp])
      have HK := hk
      clear s1 hf hw2 hp hk h0
      go_enter Tryz.func82, Tryz.ntmps82
      go_wp2_with fail
      ((with_reducible refine (ng _).mono ?_); rintro e w1 ⟨rfl, hx⟩)
      go_wp2_with fail
      ((with_reducible refine (dv _ (hw.ext hx)).mono ?_); rintro e w2 ⟨rfl, hx2⟩)
      replace hx := hx.trans hx2
      go_wp2_with fail
      ((with_reducible refine (s2 _).mono ?_); rintro e w3 ⟨rfl, hx3⟩)
      replace hx := hx.trans hx3
      obtain ⟨bd1, bd2⟩ := hbd.ext hx
      have g1 := cell_of_blk (o := 0) bd1 rfl
      go_wp2_with fail
      ((with_reducible refine (mx _ (hw.ext hx)).mono ?_); rintro e w4 ⟨rfl, hx4⟩)
      replace hx := hx.trans hx4
      obtain ⟨bd3, bd4⟩ := hbd.ext hx
      have g3 := cell_of_blk (o := 0) bd3 rfl
      have g4 := free_of_blk (o := 0) bd3
      go_wp2
      go_ret
      exact ⟨true, maxR l (-fr / way), h, rfl, Below.setCell (hx.mono (Nat.le_of_lt hbl)) (Nat.le_refl _) _, ⟨one_set bd3, by rw [Below.heap_setCell _ _ _ _ (by show bl + 1 ≠ bl; omega)]; exact bd4⟩, by rw [HB.out]; rfl, (fun h => by cases h), sz_max hl HK, hh⟩
    · obtain ⟨s, hs, hs0⟩ : ∃ s : Int, s = sgnR way ∧ ¬ 0 < s := ⟨_, rfl, by unfold sgnR; rw [if_neg h0, if_pos (by grind)]; omega⟩
      rw [← hs] at s2
      have mx := rMin_c h (-fr / way) (a := m) (b := m) ⟨hh, hk, by omega, by omega, by omega⟩
      have HB : Hid (bstep fr way (some (l, h)) = some (l, minR h (-fr / way))) := Lib.hid (by rw [bstep_eq, if_neg h0, if_neg hp])
      have HK := hk
      clear s1 hf hw2 hp hk h0 hs
      go_enter Tryz.func82, Tryz.ntmps82
      go_wp2_with fail
      ((with_reducible refine (ng _).mono ?_); rintro e w1 ⟨rfl, hx⟩)
      go_wp2_with fail
      ((with_reducible refine (dv _ (hw.ext hx)).mono ?_); rintro e w2 ⟨rfl, hx2⟩)
      replace hx := hx.trans hx2
      go_wp2_with fail
      ((with_reducible refine (s2 _).mono ?_); rintro e w3 ⟨rfl, hx3⟩)
      replace hx := hx.trans hx3
      obtain ⟨bd1, bd2⟩ := hbd.ext hx
      have g1 := cell_of_blk (o := 0) bd2 rfl
      go_wp2_with fail
      ((with_reducible refine (mx _ (hw.ext hx)).mono ?_); rintro e w4 ⟨rfl, hx4⟩)
      replace hx := hx.trans hx4
      obtain ⟨bd3, bd4⟩ := hbd.ext hx
      have g3 := cell_of_blk (o := 0) bd4 rfl
      have g4 := free_of_blk (o := 0) bd4
      go_wp2
      go_ret
      exact ⟨true, l, minR h (-fr / way), rfl, Below.setCell (hx.mono (Nat.le_of_lt hbl)) (by show bl ≤ bl + 1; omega) _, ⟨by rw [Below.heap_setCell _ _ _ _ (by show bl ≠ bl + 1; omega)]; exact bd3, one_set bd4⟩, by rw [HB.out]; rfl, (fun h => by cases h), hl, sz_min hh HK⟩
end Go.Proofs.YtblijhokcjpeeaaGreatDoor
