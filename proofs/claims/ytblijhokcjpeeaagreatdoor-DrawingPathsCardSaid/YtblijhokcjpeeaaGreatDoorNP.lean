/- klippelaw54.clip. -/
import Derived.Test.YtblijhokcjpeeaaGreatDoorNA
namespace Go.Proofs.YtblijhokcjpeeaaGreatDoor
open Go.RowKit Kl

/-- Both ends of a side, with room. -/
structure EndC (m : Nat) (v0 v1 : Rat) : Prop where
  z0 : Sz m v0
  z1 : Sz m v1
def clipLV (c : Cv) (s : Sg) : Value := match rclip c s with | none => .tuple #[.agg #[S [], S [], S [], S []], .bool false] | some p => .tuple #[sgV p, .bool true]
theorem clipLV_none {c : Cv} {s : Sg} (h : rclip c s = none) : clipLV c s = .tuple #[.agg #[S [], S [], S [], S []], .bool false] := by unfold clipLV; rw [h]
theorem clipLV_some {c : Cv} {s p : Sg} (h : rclip c s = some p) : clipLV c s = .tuple #[sgV p, .bool true] := by unfold clipLV; rw [h]
def ClipRel (es : List (Rat × Rat)) (M : Nat) (w : World) (f t i : Value) (wr : World) : Prop :=
  ∃ (j : Nat) (l h : Rat), j ≤ 4 ∧ i = .int .i64 (j : Nat) ∧ f = S (R l) ∧ t = S (R h) ∧ rfold (es.take j) = some (l, h) ∧ Sz M l ∧ Sz M h ∧ Ext w wr
theorem rfold_snoc (l : List (Rat × Rat)) (v : Rat × Rat) : rfold (l ++ [v]) = rstep v.1 v.2 (rfold l) := by unfold rfold; rw [List.foldl_append]; rfl
theorem rfold_none : ∀ (l m : List (Rat × Rat)), rfold l = none → rfold (l ++ m) = none
  | l, [], h => by rw [List.append_nil]; exact h
  | l, v :: m, h => by
    have e : l ++ v :: m = (l ++ [v]) ++ m := by simp
    rw [e]
    exact rfold_none (l ++ [v]) m (by rw [rfold_snoc, h]; rfl)
theorem sgnR_nn {q : Rat} (h : ¬ q < 0) : 0 ≤ sgnR q := by
  unfold sgnR
  by_cases h0 : q = 0
  · rw [if_pos h0]; omega
  · rw [if_neg h0, if_neg h]; omega
theorem cmpR_le {p q : Rat} (h : ¬ q < p) : cmpR p q ≤ 0 := by
  unfold cmpR; split
  · omega
  · rw [if_pos (by grind)]; omega
theorem cmpR_ge {p q : Rat} (h : ¬ p < q) : 0 ≤ cmpR p q := by
  unfold cmpR; rw [if_neg h]; split <;> omega
theorem blk8_set {w : World} {b : Nat} {a0 a1 a2 a3 a4 a5 a6 a7 : Value} {t : TypeId} (v0 v1 v2 v3 v4 v5 v6 v7 : Value) (h : w.heap[b]? = some (.cells #[a0, a1, a2, a3, a4, a5, a6, a7] t)) :
    ((((((((w.setCell ⟨b, 0, none⟩ v0).setCell ⟨b, 1, none⟩ v1).setCell ⟨b, 2, none⟩ v2).setCell ⟨b, 3, none⟩ v3).setCell ⟨b, 4, none⟩ v4).setCell ⟨b, 5, none⟩ v5).setCell ⟨b, 6, none⟩ v6).setCell ⟨b, 7, none⟩ v7).heap[b]? = some (.cells #[v0, v1, v2, v3, v4, v5, v6, v7] t) := by
  simp only [World.setCell, Array.getElem?_modify, h]
  simp
/-- The cells of the array of ends. -/
def endsA (c : Cv) (s : Sg) : Array Value := #[S (R (s.a.x - c.low.x)), S (R (s.b.x - c.low.x)), S (R (c.high.x - s.a.x)), S (R (c.high.x - s.b.x)), S (R (s.a.y - c.low.y)), S (R (s.b.y - c.low.y)), S (R (c.high.y - s.a.y)), S (R (c.high.y - s.b.y))]
/-- What the loop takes at a place of the array. -/
theorem ends_at (c : Cv) (s : Sg) (hc : CvS c) {a : Nat} (hs : SzS a s) {j : Nat} (hj : j < 4) :
    ∃ v0 v1 : Rat, (∀ W, (Instr.index 80 (.agg (endsA c s)) (.int .i64 (j : Nat))).run Tryz.prog W = .ok (.agg #[S (R v0), S (R v1)]) W) ∧ rfold ((endsR c s).take (j + 1)) = rstep v0 v1 (rfold ((endsR c s).take j)) ∧ Sz (a + 4) v0 ∧ Sz (a + 4) v1 := by
  have hl := hc.low
  have hh := hc.high
  obtain rfl | rfl | rfl | rfl : j = 0 ∨ j = 1 ∨ j = 2 ∨ j = 3 := by omega
  · exact ⟨s.a.x - c.low.x, s.b.x - c.low.x, fun W => by unfold endsA; kernel_rfl, rfl, (hs.a.x.sub hl.x).mono (by omega), (hs.b.x.sub hl.x).mono (by omega)⟩
  · exact ⟨c.high.x - s.a.x, c.high.x - s.b.x, fun W => by unfold endsA; kernel_rfl, rfl, (hh.x.sub hs.a.x).mono (by omega), (hh.x.sub hs.b.x).mono (by omega)⟩
  · exact ⟨s.a.y - c.low.y, s.b.y - c.low.y, fun W => by unfold endsA; kernel_rfl, rfl, (hs.a.y.sub hl.y).mono (by omega), (hs.b.y.sub hl.y).mono (by omega)⟩
  · exact ⟨c.high.y - s.a.y, c.high.y - s.b.y, fun W => by unfold endsA; kernel_rfl, rfl, (hh.y.sub hs.a.y).mono (by omega), (hh.y.sub hs.b.y).mono (by omega)⟩
set_option maxRecDepth 100000 in
set_option maxHeartbeats 40000000 in
theorem lawClip_c (c : Cv) (s : Sg) (hc : CvS c) {a : Nat} (hs : SzS a s) (ha : 0 < a) (ha2 : a ≤ 200) (w : World) (hw : Okw w) :
    Calls Tryz.prog 14 #[cvV c, sgV s] w (RetV (clipLV c s) w) := by
  have hl := hc.low
  have hh := hc.high
  have sax := hs.a.x.mono (show a ≤ a + 3 by omega)
  have say := hs.a.y.mono (show a ≤ a + 3 by omega)
  have sbx := hs.b.x.mono (show a ≤ a + 3 by omega)
  have sby := hs.b.y.mono (show a ≤ a + 3 by omega)
  have lx := hl.x.mono (show 3 ≤ a + 3 by omega)
  have ly := hl.y.mono (show 3 ≤ a + 3 by omega)
  have hx := hh.x.mono (show 3 ≤ a + 3 by omega)
  have hy := hh.y.mono (show 3 ≤ a + 3 by omega)
  obtain ⟨m, hm⟩ : ∃ m, m = a + 3 := ⟨_, rfl⟩
  rw [← hm] at sax say sbx sby lx ly hx hy
  have hm0 : 0 < m := by omega
  have hm2 : m + m ≤ 3990 := by omega
  have r1 : Rm m m s.a.x c.low.x := ⟨sax, lx, hm0, hm0, hm2⟩
  have r2 : Rm m m s.b.x c.low.x := ⟨sbx, lx, hm0, hm0, hm2⟩
  have r3 : Rm m m c.high.x s.a.x := ⟨hx, sax, hm0, hm0, hm2⟩
  have r4 : Rm m m c.high.x s.b.x := ⟨hx, sbx, hm0, hm0, hm2⟩
  have r5 : Rm m m s.a.y c.low.y := ⟨say, ly, hm0, hm0, hm2⟩
  have r6 : Rm m m s.b.y c.low.y := ⟨sby, ly, hm0, hm0, hm2⟩
  have r7 : Rm m m c.high.y s.a.y := ⟨hy, say, hm0, hm0, hm2⟩
  have r8 : Rm m m c.high.y s.b.y := ⟨hy, sby, hm0, hm0, hm2⟩
  unfold cvV sgV
  clear hl hh sax say sbx sby lx ly hx hy hm hm0 hm2
  go_enter Tryz.func14, Tryz.ntmps14
  go_wp2_with fail
  obtain ⟨W, hW, hE, hb1, hb2, hb3⟩ := blk3 w (.cells #[S (R c.low.x), S (R c.low.y), S (R c.high.x), S (R c.high.y), .int .i64 (c.W : Nat), .int .i64 (c.H : Nat)] 35) (.cells #[S (R s.a.x), S (R s.a.y), S (R s.b.x), S (R s.b.y)] 31) (.cells #[S [], S [], S [], S []] 31)
  rw [show (⟨#[]⟩ : ByteArray) = ⟨([] : Bs).toArray⟩ from rfl, ← hW]
  clear hW
  have hwW := hw.ext hE
  go_cut [8] (fun v8 wx => ∃ b, v8 = .pointer (some ⟨b, 0, none⟩) ∧ wx.heap[b]? = some (.cells (endsA c s) 80) ∧ Ext W wx)
  case first =>
    have hC := BoxC.of hb1
    have hS : BoxS W (w.heap.size + 1) s := ⟨cell_of_blk hb2 rfl, cell_of_blk hb2 rfl, cell_of_blk hb2 rfl, cell_of_blk hb2 rfl⟩
    have hsz := lt_of_block hb3
    have SO : ∀ w', Ext W w' → (w'.cell? ⟨w.heap.size, 0, none⟩ = some (S (R c.low.x)) ∧ w'.cell? ⟨w.heap.size, 1, none⟩ = some (S (R c.low.y)) ∧ w'.cell? ⟨w.heap.size, 2, none⟩ = some (S (R c.high.x)) ∧ w'.cell? ⟨w.heap.size, 3, none⟩ = some (S (R c.high.y)) ∧ w'.cell? ⟨w.heap.size + 1, 0, none⟩ = some (S (R s.a.x)) ∧ w'.cell? ⟨w.heap.size + 1, 1, none⟩ = some (S (R s.a.y)) ∧ w'.cell? ⟨w.heap.size + 1, 2, none⟩ = some (S (R s.b.x)) ∧ w'.cell? ⟨w.heap.size + 1, 3, none⟩ = some (S (R s.b.y))) := fun w' h => by
      obtain ⟨q1, q2, q3, q4, q5, q6⟩ := hC.ext h
      obtain ⟨p1, p2, p3, p4⟩ := hS.ext h
      exact ⟨q1, q2, q3, q4, p1, p2, p3, p4⟩
    have X : Ext W W := Ext.refl W
    have XS := X.size
    clear hC hS hb1 hb2 hb3 hE hc hs
    go_region_held3 (fun w' => w'.cell? ⟨w.heap.size, 0, none⟩ = some (S (R c.low.x)) ∧ w'.cell? ⟨w.heap.size, 1, none⟩ = some (S (R c.low.y)) ∧ w'.cell? ⟨w.heap.size, 2, none⟩ = some (S (R c.high.x)) ∧ w'.cell? ⟨w.heap.size, 3, none⟩ = some (S (R c.high.y)) ∧ w'.cell? ⟨w.heap.size + 1, 0, none⟩ = some (S (R s.a.x)) ∧ w'.cell? ⟨w.heap.size + 1, 1, none⟩ = some (S (R s.a.y)) ∧ w'.cell? ⟨w.heap.size + 1, 2, none⟩ = some (S (R s.b.x)) ∧ w'.cell? ⟨w.heap.size + 1, 3, none⟩ = some (S (R s.b.y)))
      (first | with_reducible exact SO _ X | with_reducible exact SO _ X.drew | with_reducible exact SO _ (X.alloc _) | with_reducible exact SO _ (X.drew.alloc _) | with_reducible exact SO _ (X.alloc _).drew | with_reducible exact SO _ ((((((((X.setCell (by simp only []; omega) _).setCell (by simp only []; omega) _).setCell (by simp only []; omega) _).setCell (by simp only []; omega) _).setCell (by simp only []; omega) _).setCell (by simp only []; omega) _).setCell (by simp only []; omega) _).setCell (by simp only []; omega) _) | with_reducible exact SO _ ((((((((X.setCell (Nat.le_refl _) _).setCell (Nat.le_refl _) _).setCell (Nat.le_refl _) _).setCell (Nat.le_refl _) _).setCell (Nat.le_refl _) _).setCell (Nat.le_refl _) _).setCell (Nat.le_refl _) _).setCell (Nat.le_refl _) _))
      (first | ((with_reducible refine (lawSub_c c.high.y s.b.y r8 _ ?_).mono ?_); (exact hwW.ext (by first | exact X | exact X.alloc _ | exact X.drew | exact X.drew.alloc _ | exact (X.alloc _).drew)); rintro e w1 ⟨rfl, hx1⟩; (first | (replace Z := (hx1.block _ (lt_of_block Z)).trans Z) | (have Z := (hx1.block _ (lt_of_block (heap_alloc_new _ _))).trans (heap_alloc_new _ _)) | skip); replace X : Ext W w1 := (by first | exact X.trans hx1 | exact (X.alloc _).trans hx1 | exact X.drew.trans hx1 | exact (X.drew.alloc _).trans hx1 | exact (X.alloc _).drew.trans hx1); have XS := X.size; (first | (have y0 := cell_of_blk (o := 0) Z rfl; have f0 := free_of_blk (o := 0) Z; have y1 := cell_of_blk (o := 1) Z rfl; have f1 := free_of_blk (o := 1) Z; have y2 := cell_of_blk (o := 2) Z rfl; have f2 := free_of_blk (o := 2) Z; have y3 := cell_of_blk (o := 3) Z rfl; have f3 := free_of_blk (o := 3) Z; have y4 := cell_of_blk (o := 4) Z rfl; have f4 := free_of_blk (o := 4) Z; have y5 := cell_of_blk (o := 5) Z rfl; have f5 := free_of_blk (o := 5) Z; have y6 := cell_of_blk (o := 6) Z rfl; have f6 := free_of_blk (o := 6) Z; have y7 := cell_of_blk (o := 7) Z rfl; have f7 := free_of_blk (o := 7) Z) | skip)) | ((with_reducible refine (lawSub_c (a := m) (b := m) _ _ (by assumption) _ ?_).mono ?_); (exact hwW.ext (by first | exact X | exact X.alloc _ | exact X.drew | exact X.drew.alloc _ | exact (X.alloc _).drew)); rintro e w1 ⟨rfl, hx1⟩; (first | (replace Z := (hx1.block _ (lt_of_block Z)).trans Z) | (have Z := (hx1.block _ (lt_of_block (heap_alloc_new _ _))).trans (heap_alloc_new _ _)) | skip); replace X : Ext W w1 := (by first | exact X.trans hx1 | exact (X.alloc _).trans hx1 | exact X.drew.trans hx1 | exact (X.drew.alloc _).trans hx1 | exact (X.alloc _).drew.trans hx1); have XS := X.size))
    all_goals go_wp2
    all_goals go_meet
    all_goals first
      | with_reducible exact ⟨_, rfl, blk8_set _ _ _ _ _ _ _ _ Z, (((((((X.setCell (by simp only []; omega) _).setCell (by simp only []; omega) _).setCell (by simp only []; omega) _).setCell (by simp only []; omega) _).setCell (by simp only []; omega) _).setCell (by simp only []; omega) _).setCell (by simp only []; omega) _).setCell (by simp only []; omega) _⟩
      | with_reducible exact ⟨_, rfl, blk8_set _ _ _ _ _ _ _ _ Z, (((((((X.setCell (Nat.le_refl _) _).setCell (Nat.le_refl _) _).setCell (Nat.le_refl _) _).setCell (Nat.le_refl _) _).setCell (Nat.le_refl _) _).setCell (Nat.le_refl _) _).setCell (Nat.le_refl _) _).setCell (Nat.le_refl _) _⟩
      | with_reducible exact ⟨_, rfl, heap_alloc_new w1 _, X.alloc _⟩
  case rest =>
    as_aux_lemma =>
    obtain ⟨b8, rfl, hb8, hxc⟩ := hcut
    replace hb1 := (hxc.block _ (lt_of_block hb1)).trans hb1
    replace hb2 := (hxc.block _ (lt_of_block hb2)).trans hb2
    replace hb3 := (hxc.block _ (lt_of_block hb3)).trans hb3
    have hEc := hE.trans hxc
    unfold endsA at hb8
    have y0 := cell_of_blk (o := 0) hb8 rfl
    have y1 := cell_of_blk (o := 1) hb8 rfl
    have y2 := cell_of_blk (o := 2) hb8 rfl
    have y3 := cell_of_blk (o := 3) hb8 rfl
    have y4 := cell_of_blk (o := 4) hb8 rfl
    have y5 := cell_of_blk (o := 5) hb8 rfl
    have y6 := cell_of_blk (o := 6) hb8 rfl
    have y7 := cell_of_blk (o := 7) hb8 rfl
    clear hxc hE hwW hb8
    have hwc := hw.ext hEc
    have hea := @ends_at c s hc a hs
    unfold endsA at hea
    go_upto_region 4 with fail
    go_loopw [6, 7, 77] (fun f t i wr => ClipRel (endsR c s) (3 * a + 13) wc f t i wr) (fun _ _ i _ => 4 - (intOf i).toNat)
    case atStart => exact ⟨0, 0, 1, by omega, rfl, by rw [R_zero], by rw [R_one], rfl, ⟨by show 0 < _; exact Nat.pow_pos (by omega), Nat.one_lt_pow (by omega) (by omega)⟩, ⟨Nat.one_lt_pow (by omega) (by omega), Nat.one_lt_pow (by omega) (by omega)⟩, Ext.refl _⟩
    case round =>
      obtain ⟨j, l, h, hj, rfl, rfl, rfl, hst, zl, zh, hext⟩ := hrel
      by_cases hlt : j < 4
      · obtain ⟨v0, v1, hix, hn, e0, e1⟩ := hea hlt
        have sg0 := refSign_c v0
        have sg1 := refSign_c v1
        have sb := lawSub_c v0 v1 (a := a + 4) (b := a + 4) ⟨e0, e1, by omega, by omega, by omega⟩
        have zs := e0.sub e1
        have dv := fun hne => lawDiv_c v0 (v0 - v1) hne (a := a + 4) (b := a + 4 + (a + 4) + 1) ⟨e0, zs, by omega, by omega, by omega⟩
        have zk := (e0.div (by omega) zs).mono (show a + 4 + (a + 4 + (a + 4) + 1) ≤ 3 * a + 13 by omega)
        have hj0 : (j : Int) < 4 := by omega
        clear e0 e1 zs hea
        by_cases n0 : v0 < 0
        · rw [sgnR_neg n0] at sg0
          by_cases n1 : v1 < 0
          · rw [sgnR_neg n1] at sg1
            have hn2 : rfold ((endsR c s).take (j + 1)) = none := by rw [hn, hst, rstep_eq, if_pos n0, if_pos n1]
            have hR : rclip c s = none := by
              unfold rclip
              have := rfold_none _ ((endsR c s).drop (j + 1)) hn2
              rw [List.take_append_drop] at this
              rw [this]
            have HR := Lib.hid (clipLV_none hR)
            clear n0 n1 hn hn2 hR hst sb dv
            go_upto_region 6 with fail
            have hbv := heap_alloc_new wr (.cells #[S (R v0), S (R v1)] 79)
            have hEa := (hEc.trans hext).alloc (.cells #[S (R v0), S (R v1)] 79)
            have hxa := hext.alloc (.cells #[S (R v0), S (R v1)] 79)
            generalize wr.alloc (.cells #[S (R v0), S (R v1)] 79) = V at *
            obtain ⟨bv, hbve⟩ : ∃ b, b = wr.heap.size := ⟨_, rfl⟩
            rw [← hbve] at hbv ⊢
            clear hbve
            have t0 := cell_of_blk (o := 0) hbv rfl
            have t1 := cell_of_blk (o := 1) hbv rfl
            have X : Ext V V := Ext.refl V
            go_region_held3 (fun w' => w'.cell? ⟨bv, 0, none⟩ = some (S (R v0)) ∧ w'.cell? ⟨bv, 1, none⟩ = some (S (R v1)))
              (go_keep)
              (first | ((with_reducible refine (sg0 _).mono ?_); rintro e w1 ⟨rfl, hx1⟩; have X : Ext V w1 := (by first | exact X.drew.trans hx1 | exact X.trans hx1); have t0 := X.cellS t0; have t1 := X.cellS t1) | ((with_reducible refine (sg1 _).mono ?_); rintro e w2 ⟨rfl, hx2⟩; replace X := X.trans hx2; have t0 := hx2.cellS t0; have t1 := hx2.cellS t1))
            have hb9 := (X.block _ (lt_of_block ((hxa.block _ (lt_of_block hb3)).trans hb3))).trans ((hxa.block _ (lt_of_block hb3)).trans hb3)
            have hE9 := hEa.trans X
            have g0 := cell_of_blk (o := 0) hb9 rfl
            have g1 := cell_of_blk (o := 1) hb9 rfl
            have g2 := cell_of_blk (o := 2) hb9 rfl
            have g3 := cell_of_blk (o := 3) hb9 rfl
            have f0 := free_of_blk (o := 0) hb9
            have f1 := free_of_blk (o := 1) hb9
            have f2 := free_of_blk (o := 2) hb9
            have f3 := free_of_blk (o := 3) hb9
            have hq := blk4_set (S []) (S []) (S []) (S []) hb9
            have q0 := cell_of_blk (o := 0) hq rfl
            have q1 := cell_of_blk (o := 1) hq rfl
            have q2 := cell_of_blk (o := 2) hq rfl
            have q3 := cell_of_blk (o := 3) hq rfl
            clear hq hb9
            go_wp2
            refine bodyPost_ret (v := .tuple #[.agg #[S [], S [], S [], S []], .bool false]) (by simp [results, Tryz.results14, go_sem, q0, q1, q2, q3]) rfl ?_
            have hle : w.heap.size ≤ w.heap.size + 1 + 1 := by omega
            exact ⟨by rw [HR.out], (((hE9.setCell (p := ⟨w.heap.size + 1 + 1, 0, none⟩) hle _).setCell (p := ⟨w.heap.size + 1 + 1, 1, none⟩) hle _).setCell (p := ⟨w.heap.size + 1 + 1, 2, none⟩) hle _).setCell (p := ⟨w.heap.size + 1 + 1, 3, none⟩) hle _⟩
          · have p1 := sgnR_nn n1
            obtain ⟨z1, hz1⟩ : ∃ z, z = sgnR v1 := ⟨_, rfl⟩
            rw [← hz1] at sg1 p1
            have hne : v0 - v1 ≠ 0 := by grind
            have dv := dv hne
            obtain ⟨k, hk⟩ : ∃ k, k = v0 / (v0 - v1) := ⟨_, rfl⟩
            rw [← hk] at dv zk
            have cp := refCompare_c k l (a := 3 * a + 13) (b := 3 * a + 13) ⟨zk, zl, by omega, by omega, by omega⟩
            have hn2 : rfold ((endsR c s).take (j + 1)) = some (maxR l k, h) := by rw [hn, hst, rstep_eq, if_pos n0, if_neg n1, hk]
            by_cases hlk : l < k
            · rw [show maxR l k = k from if_pos hlk] at hn2
              rw [cmpR_gt hlk] at cp
              have HN := Lib.hid hn2
              clear n0 n1 hn hn2 hst hz1 hk hlk hne
              go_upto_region 6 with fail
              have hbv := heap_alloc_new wr (.cells #[S (R v0), S (R v1)] 79)
              have hEa := (hEc.trans hext).alloc (.cells #[S (R v0), S (R v1)] 79)
              have hxa := hext.alloc (.cells #[S (R v0), S (R v1)] 79)
              generalize wr.alloc (.cells #[S (R v0), S (R v1)] 79) = V at *
              obtain ⟨bv, hbve⟩ : ∃ b, b = wr.heap.size := ⟨_, rfl⟩
              rw [← hbve] at hbv ⊢
              clear hbve
              have t0 := cell_of_blk (o := 0) hbv rfl
              have t1 := cell_of_blk (o := 1) hbv rfl
              have X : Ext V V := Ext.refl V
              go_region_held3 (fun w' => w'.cell? ⟨bv, 0, none⟩ = some (S (R v0)) ∧ w'.cell? ⟨bv, 1, none⟩ = some (S (R v1)))
                (go_keep)
                (first | ((with_reducible refine (sg0 _).mono ?_); rintro e w1 ⟨rfl, hx1⟩; have X : Ext V w1 := (by first | exact X.drew.trans hx1 | exact X.trans hx1); have t0 := X.cellS t0; have t1 := X.cellS t1) | ((with_reducible refine (sg1 _).mono ?_); rintro e w2 ⟨rfl, hx2⟩; replace X := X.trans hx2; have t0 := hx2.cellS t0; have t1 := hx2.cellS t1))
              have hE2 := hEa.trans X
              have hxa2 := hxa.trans X
              have X : Ext w2 w2 := Ext.refl w2
              go_wp2_with fail
              go_region_held3 (fun w' => w'.cell? ⟨bv, 0, none⟩ = some (S (R v0)) ∧ w'.cell? ⟨bv, 1, none⟩ = some (S (R v1)))
                (go_keep)
                (first | ((with_reducible refine (sb _ ?_).mono ?_); (exact hw.ext (by first | exact hE2.drew | exact hE2)); rintro e w3 ⟨rfl, hx3⟩; have X : Ext w2 w3 := (by first | exact X.drew.trans hx3 | exact X.trans hx3); have t0 := X.cellS t0; have t1 := X.cellS t1) | ((with_reducible refine (dv _ ?_).mono ?_); (exact hw.ext (hE2.trans X)); rintro e w4 ⟨rfl, hx4⟩; replace X := X.trans hx4; have t0 := hx4.cellS t0; have t1 := hx4.cellS t1))
              go_wp2_with fail
              ((with_reducible refine (cp _ (hw.ext (hE2.trans X))).mono ?_); rintro e w5 ⟨rfl, hx5⟩)
              replace X := X.trans hx5
              go_wp2
              go_roundw
              case rel => exact ⟨j + 1, k, h, by omega, by go_num, rfl, rfl, HN.out, zk, zh, hxa2.trans X⟩
              case measure => simp [intOf]; omega
            · rw [show maxR l k = l from if_neg hlk] at hn2
              have pc := cmpR_le hlk
              obtain ⟨z2, hz2⟩ : ∃ z, z = cmpR k l := ⟨_, rfl⟩
              rw [← hz2] at cp pc
              have HN := Lib.hid hn2
              clear n0 n1 hn hn2 hst hz1 hk hlk hne hz2
              go_upto_region 6 with fail
              have hbv := heap_alloc_new wr (.cells #[S (R v0), S (R v1)] 79)
              have hEa := (hEc.trans hext).alloc (.cells #[S (R v0), S (R v1)] 79)
              have hxa := hext.alloc (.cells #[S (R v0), S (R v1)] 79)
              generalize wr.alloc (.cells #[S (R v0), S (R v1)] 79) = V at *
              obtain ⟨bv, hbve⟩ : ∃ b, b = wr.heap.size := ⟨_, rfl⟩
              rw [← hbve] at hbv ⊢
              clear hbve
              have t0 := cell_of_blk (o := 0) hbv rfl
              have t1 := cell_of_blk (o := 1) hbv rfl
              have X : Ext V V := Ext.refl V
              go_region_held3 (fun w' => w'.cell? ⟨bv, 0, none⟩ = some (S (R v0)) ∧ w'.cell? ⟨bv, 1, none⟩ = some (S (R v1)))
                (go_keep)
                (first | ((with_reducible refine (sg0 _).mono ?_); rintro e w1 ⟨rfl, hx1⟩; have X : Ext V w1 := (by first | exact X.drew.trans hx1 | exact X.trans hx1); have t0 := X.cellS t0; have t1 := X.cellS t1) | ((with_reducible refine (sg1 _).mono ?_); rintro e w2 ⟨rfl, hx2⟩; replace X := X.trans hx2; have t0 := hx2.cellS t0; have t1 := hx2.cellS t1))
              have hE2 := hEa.trans X
              have hxa2 := hxa.trans X
              have X : Ext w2 w2 := Ext.refl w2
              go_wp2_with fail
              go_region_held3 (fun w' => w'.cell? ⟨bv, 0, none⟩ = some (S (R v0)) ∧ w'.cell? ⟨bv, 1, none⟩ = some (S (R v1)))
                (go_keep)
                (first | ((with_reducible refine (sb _ ?_).mono ?_); (exact hw.ext (by first | exact hE2.drew | exact hE2)); rintro e w3 ⟨rfl, hx3⟩; have X : Ext w2 w3 := (by first | exact X.drew.trans hx3 | exact X.trans hx3); have t0 := X.cellS t0; have t1 := X.cellS t1) | ((with_reducible refine (dv _ ?_).mono ?_); (exact hw.ext (hE2.trans X)); rintro e w4 ⟨rfl, hx4⟩; replace X := X.trans hx4; have t0 := hx4.cellS t0; have t1 := hx4.cellS t1))
              go_wp2_with fail
              ((with_reducible refine (cp _ (hw.ext (hE2.trans X))).mono ?_); rintro e w5 ⟨rfl, hx5⟩)
              replace X := X.trans hx5
              go_wp2
              go_roundw
              case rel => exact ⟨j + 1, l, h, by omega, by go_num, rfl, rfl, HN.out, zl, zh, hxa2.trans X⟩
              case measure => simp [intOf]; omega
        · have p0 := sgnR_nn n0
          obtain ⟨z0, hz0⟩ : ∃ z, z = sgnR v0 := ⟨_, rfl⟩
          rw [← hz0] at sg0 p0
          by_cases n1 : v1 < 0
          · rw [sgnR_neg n1] at sg1
            have hne : v0 - v1 ≠ 0 := by grind
            have dv := dv hne
            obtain ⟨k, hk⟩ : ∃ k, k = v0 / (v0 - v1) := ⟨_, rfl⟩
            rw [← hk] at dv zk
            have cp := refCompare_c k h (a := 3 * a + 13) (b := 3 * a + 13) ⟨zk, zh, by omega, by omega, by omega⟩
            have hn2 : rfold ((endsR c s).take (j + 1)) = some (l, minR h k) := by rw [hn, hst, rstep_eq, if_neg n0, if_pos n1, hk]
            by_cases hlk : k < h
            · rw [show minR h k = k from if_pos hlk] at hn2
              rw [cmpR_lt hlk] at cp
              have HN := Lib.hid hn2
              clear n0 n1 hn hn2 hst hz0 hk hlk hne
              go_upto_region 6 with fail
              have hbv := heap_alloc_new wr (.cells #[S (R v0), S (R v1)] 79)
              have hEa := (hEc.trans hext).alloc (.cells #[S (R v0), S (R v1)] 79)
              have hxa := hext.alloc (.cells #[S (R v0), S (R v1)] 79)
              generalize wr.alloc (.cells #[S (R v0), S (R v1)] 79) = V at *
              obtain ⟨bv, hbve⟩ : ∃ b, b = wr.heap.size := ⟨_, rfl⟩
              rw [← hbve] at hbv ⊢
              clear hbve
              have t0 := cell_of_blk (o := 0) hbv rfl
              have t1 := cell_of_blk (o := 1) hbv rfl
              have X : Ext V V := Ext.refl V
              go_region_held3 (fun w' => w'.cell? ⟨bv, 0, none⟩ = some (S (R v0)) ∧ w'.cell? ⟨bv, 1, none⟩ = some (S (R v1)))
                (go_keep)
                (first | ((with_reducible refine (sg0 _).mono ?_); rintro e w1 ⟨rfl, hx1⟩; have X : Ext V w1 := (by first | exact X.drew.trans hx1 | exact X.trans hx1); have t0 := X.cellS t0; have t1 := X.cellS t1) | ((with_reducible refine (sg1 _).mono ?_); rintro e w2 ⟨rfl, hx2⟩; replace X := X.trans hx2; have t0 := hx2.cellS t0; have t1 := hx2.cellS t1))
              have hE2 := hEa.trans X
              have hxa2 := hxa.trans X
              have X : Ext w2 w2 := Ext.refl w2
              go_wp2_with fail
              go_region_held3 (fun w' => w'.cell? ⟨bv, 0, none⟩ = some (S (R v0)) ∧ w'.cell? ⟨bv, 1, none⟩ = some (S (R v1)))
                (go_keep)
                (first | ((with_reducible refine (sb _ ?_).mono ?_); (exact hw.ext (by first | exact hE2.drew | exact hE2)); rintro e w3 ⟨rfl, hx3⟩; have X : Ext w2 w3 := (by first | exact X.drew.trans hx3 | exact X.trans hx3); have t0 := X.cellS t0; have t1 := X.cellS t1) | ((with_reducible refine (dv _ ?_).mono ?_); (exact hw.ext (hE2.trans X)); rintro e w4 ⟨rfl, hx4⟩; replace X := X.trans hx4; have t0 := hx4.cellS t0; have t1 := hx4.cellS t1))
              go_wp2_with fail
              ((with_reducible refine (cp _ (hw.ext (hE2.trans X))).mono ?_); rintro e w5 ⟨rfl, hx5⟩)
              replace X := X.trans hx5
              go_wp2
              go_roundw
              case rel => exact ⟨j + 1, l, k, by omega, by go_num, rfl, rfl, HN.out, zl, zk, hxa2.trans X⟩
              case measure => simp [intOf]; omega
            · rw [show minR h k = h from if_neg hlk] at hn2
              have pc := cmpR_ge hlk
              obtain ⟨z2, hz2⟩ : ∃ z, z = cmpR k h := ⟨_, rfl⟩
              rw [← hz2] at cp pc
              have HN := Lib.hid hn2
              clear n0 n1 hn hn2 hst hz0 hk hlk hne hz2
              go_upto_region 6 with fail
              have hbv := heap_alloc_new wr (.cells #[S (R v0), S (R v1)] 79)
              have hEa := (hEc.trans hext).alloc (.cells #[S (R v0), S (R v1)] 79)
              have hxa := hext.alloc (.cells #[S (R v0), S (R v1)] 79)
              generalize wr.alloc (.cells #[S (R v0), S (R v1)] 79) = V at *
              obtain ⟨bv, hbve⟩ : ∃ b, b = wr.heap.size := ⟨_, rfl⟩
              rw [← hbve] at hbv ⊢
              clear hbve
              have t0 := cell_of_blk (o := 0) hbv rfl
              have t1 := cell_of_blk (o := 1) hbv rfl
              have X : Ext V V := Ext.refl V
              go_region_held3 (fun w' => w'.cell? ⟨bv, 0, none⟩ = some (S (R v0)) ∧ w'.cell? ⟨bv, 1, none⟩ = some (S (R v1)))
                (go_keep)
                (first | ((with_reducible refine (sg0 _).mono ?_); rintro e w1 ⟨rfl, hx1⟩; have X : Ext V w1 := (by first | exact X.drew.trans hx1 | exact X.trans hx1); have t0 := X.cellS t0; have t1 := X.cellS t1) | ((with_reducible refine (sg1 _).mono ?_); rintro e w2 ⟨rfl, hx2⟩; replace X := X.trans hx2; have t0 := hx2.cellS t0; have t1 := hx2.cellS t1))
              have hE2 := hEa.trans X
              have hxa2 := hxa.trans X
              have X : Ext w2 w2 := Ext.refl w2
              go_wp2_with fail
              go_region_held3 (fun w' => w'.cell? ⟨bv, 0, none⟩ = some (S (R v0)) ∧ w'.cell? ⟨bv, 1, none⟩ = some (S (R v1)))
                (go_keep)
                (first | ((with_reducible refine (sb _ ?_).mono ?_); (exact hw.ext (by first | exact hE2.drew | exact hE2)); rintro e w3 ⟨rfl, hx3⟩; have X : Ext w2 w3 := (by first | exact X.drew.trans hx3 | exact X.trans hx3); have t0 := X.cellS t0; have t1 := X.cellS t1) | ((with_reducible refine (dv _ ?_).mono ?_); (exact hw.ext (hE2.trans X)); rintro e w4 ⟨rfl, hx4⟩; replace X := X.trans hx4; have t0 := hx4.cellS t0; have t1 := hx4.cellS t1))
              go_wp2_with fail
              ((with_reducible refine (cp _ (hw.ext (hE2.trans X))).mono ?_); rintro e w5 ⟨rfl, hx5⟩)
              replace X := X.trans hx5
              go_wp2
              go_roundw
              case rel => exact ⟨j + 1, l, h, by omega, by go_num, rfl, rfl, HN.out, zl, zh, hxa2.trans X⟩
              case measure => simp [intOf]; omega
          · have p1 := sgnR_nn n1
            obtain ⟨z1, hz1⟩ : ∃ z, z = sgnR v1 := ⟨_, rfl⟩
            rw [← hz1] at sg1 p1
            have hn2 : rfold ((endsR c s).take (j + 1)) = some (l, h) := by rw [hn, hst, rstep_eq, if_neg n0, if_neg n1]
            have HN := Lib.hid hn2
            clear n0 n1 hn hn2 hst hz0 hz1 sb dv
            go_upto_region 6 with fail
            have hbv := heap_alloc_new wr (.cells #[S (R v0), S (R v1)] 79)
            have hEa := (hEc.trans hext).alloc (.cells #[S (R v0), S (R v1)] 79)
            have hxa := hext.alloc (.cells #[S (R v0), S (R v1)] 79)
            generalize wr.alloc (.cells #[S (R v0), S (R v1)] 79) = V at *
            obtain ⟨bv, hbve⟩ : ∃ b, b = wr.heap.size := ⟨_, rfl⟩
            rw [← hbve] at hbv ⊢
            clear hbve
            have t0 := cell_of_blk (o := 0) hbv rfl
            have t1 := cell_of_blk (o := 1) hbv rfl
            have X : Ext V V := Ext.refl V
            go_region_held3 (fun w' => w'.cell? ⟨bv, 0, none⟩ = some (S (R v0)) ∧ w'.cell? ⟨bv, 1, none⟩ = some (S (R v1)))
              (go_keep)
              (first | ((with_reducible refine (sg0 _).mono ?_); rintro e w1 ⟨rfl, hx1⟩; have X : Ext V w1 := (by first | exact X.drew.trans hx1 | exact X.trans hx1); have t0 := X.cellS t0; have t1 := X.cellS t1) | ((with_reducible refine (sg1 _).mono ?_); rintro e w2 ⟨rfl, hx2⟩; replace X := X.trans hx2; have t0 := hx2.cellS t0; have t1 := hx2.cellS t1))
            have hxa2 := hxa.trans X
            go_wp2
            go_roundw
            case rel => exact ⟨j + 1, l, h, by omega, by go_num, rfl, rfl, HN.out, zl, zh, hxa2⟩
            case measure => simp [intOf]; omega
      · have hle : (4 : Int) ≤ (j : Int) := by omega
        obtain rfl : j = 4 := by omega
        have hst4 : rfold (endsR c s) = some (l, h) := hst
        have hEx := hEc.trans hext
        replace hb2 := (hext.block _ (lt_of_block hb2)).trans hb2
        replace hb3 := (hext.block _ (lt_of_block hb3)).trans hb3
        have cp := refCompare_c l h (a := 3 * a + 13) (b := 3 * a + 13) ⟨zl, zh, by omega, by omega, by omega⟩
        by_cases hlh : h < l
        · have hR : rclip c s = none := by
            unfold rclip
            rw [hst4]
            exact if_pos hlh
          have HR := Lib.hid (clipLV_none hR)
          rw [cmpR_gt hlh] at cp
          clear hR hst hst4 hlh hea
          go_wp2_with fail
          ((with_reducible refine (cp _ (hw.ext hEx)).mono ?_); rintro e w5 ⟨rfl, hx5⟩)
          have hb9 := (hx5.block _ (lt_of_block hb3)).trans hb3
          have hE9 := hEx.trans hx5
          have g0 := cell_of_blk (o := 0) hb9 rfl
          have g1 := cell_of_blk (o := 1) hb9 rfl
          have g2 := cell_of_blk (o := 2) hb9 rfl
          have g3 := cell_of_blk (o := 3) hb9 rfl
          have f0 := free_of_blk (o := 0) hb9
          have f1 := free_of_blk (o := 1) hb9
          have f2 := free_of_blk (o := 2) hb9
          have f3 := free_of_blk (o := 3) hb9
          have hq := blk4_set (S []) (S []) (S []) (S []) hb9
          have q0 := cell_of_blk (o := 0) hq rfl
          have q1 := cell_of_blk (o := 1) hq rfl
          have q2 := cell_of_blk (o := 2) hq rfl
          have q3 := cell_of_blk (o := 3) hq rfl
          clear hq hb9
          go_wp2
          refine bodyPost_ret (v := .tuple #[.agg #[S [], S [], S [], S []], .bool false]) (by simp [results, Tryz.results14, go_sem, q0, q1, q2, q3]) rfl ?_
          have hle : w.heap.size ≤ w.heap.size + 1 + 1 := by omega
          exact ⟨by rw [HR.out], (((hE9.setCell (p := ⟨w.heap.size + 1 + 1, 0, none⟩) hle _).setCell (p := ⟨w.heap.size + 1 + 1, 1, none⟩) hle _).setCell (p := ⟨w.heap.size + 1 + 1, 2, none⟩) hle _).setCell (p := ⟨w.heap.size + 1 + 1, 3, none⟩) hle _⟩
        · have hR : rclip c s = some ⟨atR s l, atR s h⟩ := by
            unfold rclip
            rw [hst4]
            exact if_neg hlh
          have HR := Lib.hid (clipLV_some hR)
          have pc := cmpR_le hlh
          obtain ⟨z2, hz2⟩ : ∃ z, z = cmpR l h := ⟨_, rfl⟩
          rw [← hz2] at cp pc
          have tl := toward_c s l hs zl ha (by omega) (by omega)
          have th := toward_c s h hs zh ha (by omega) (by omega)
          obtain ⟨pa, hpa⟩ : ∃ p, p = atR s l := ⟨_, rfl⟩
          obtain ⟨pb, hpb⟩ : ∃ p, p = atR s h := ⟨_, rfl⟩
          rw [← hpa] at tl HR
          rw [← hpb] at th HR
          unfold sgV ptV at tl th
          unfold sgV at HR
          clear hR hst hst4 hlh hea hz2 hpa hpb hs
          go_wp2_with fail
          ((with_reducible refine (cp _ (hw.ext hEx)).mono ?_); rintro e w5 ⟨rfl, hx5⟩)
          replace hb2 := (hx5.block _ (lt_of_block hb2)).trans hb2
          replace hb3 := (hx5.block _ (lt_of_block hb3)).trans hb3
          have hE5 := hEx.trans hx5
          have k0 := cell_of_blk (o := 0) hb2 rfl
          have k1 := cell_of_blk (o := 1) hb2 rfl
          have k2 := cell_of_blk (o := 2) hb2 rfl
          have k3 := cell_of_blk (o := 3) hb2 rfl
          have X : Ext w5 w5 := Ext.refl w5
          have hb3l := lt_of_block hb3
          clear hx5 cp hEx hext
          go_wp2_with fail
          go_region_held3 (fun w' => w'.cell? ⟨w.heap.size + 1, 0, none⟩ = some (S (R s.a.x)) ∧ w'.cell? ⟨w.heap.size + 1, 1, none⟩ = some (S (R s.a.y)) ∧ w'.cell? ⟨w.heap.size + 1, 2, none⟩ = some (S (R s.b.x)) ∧ w'.cell? ⟨w.heap.size + 1, 3, none⟩ = some (S (R s.b.y)))
            (first | go_keep | (refine ⟨?_, ?_, ?_, ?_⟩ <;> (rw [World.cell?_setCell_far _ _ _ _ (by show w.heap.size + 1 + 1 ≠ w.heap.size + 1; omega), World.cell?_setCell_far _ _ _ _ (by show w.heap.size + 1 + 1 ≠ w.heap.size + 1; omega), World.cell?_setCell_far _ _ _ _ (by show w.heap.size + 1 + 1 ≠ w.heap.size + 1; omega), World.cell?_setCell_far _ _ _ _ (by show w.heap.size + 1 + 1 ≠ w.heap.size + 1; omega)]; assumption)))
            (first | ((with_reducible refine (tl _ ?_).mono ?_); (exact hw.ext (by first | exact hE5.drew | exact hE5)); rintro e w6 ⟨rfl, hx6⟩; have X : Ext w5 w6 := (by first | exact X.drew.trans hx6 | exact X.trans hx6); have k0 := X.cellS k0; have k1 := X.cellS k1; have k2 := X.cellS k2; have k3 := X.cellS k3) | ((with_reducible refine (th _ ?_).mono ?_); (exact hw.ext (hE5.trans X)); rintro e w7 ⟨rfl, hx7⟩; replace X := X.trans hx7; have k0 := hx7.cellS k0; have k1 := hx7.cellS k1; have k2 := hx7.cellS k2; have k3 := hx7.cellS k3; have hb9 := (X.block _ hb3l).trans hb3; have g0 := cell_of_blk (o := 0) hb9 rfl; have g1 := cell_of_blk (o := 1) hb9 rfl; have g2 := cell_of_blk (o := 2) hb9 rfl; have g3 := cell_of_blk (o := 3) hb9 rfl; have f0 := free_of_blk (o := 0) hb9; have f1 := free_of_blk (o := 1) hb9; have f2 := free_of_blk (o := 2) hb9; have f3 := free_of_blk (o := 3) hb9))
          have hE9 := hE5.trans X
          have hq := blk4_set (S (R pa.x)) (S (R pa.y)) (S (R pb.x)) (S (R pb.y)) hb9
          have q0 := cell_of_blk (o := 0) hq rfl
          have q1 := cell_of_blk (o := 1) hq rfl
          have q2 := cell_of_blk (o := 2) hq rfl
          have q3 := cell_of_blk (o := 3) hq rfl
          clear hq
          go_wp2
          refine bodyPost_ret (v := .tuple #[.agg #[S (R pa.x), S (R pa.y), S (R pb.x), S (R pb.y)], .bool true]) (by simp [results, Tryz.results14, go_sem, q0, q1, q2, q3]) rfl ?_
          have hle : w.heap.size ≤ w.heap.size + 1 + 1 := by omega
          exact ⟨by rw [HR.out], (((hE9.setCell (p := ⟨w.heap.size + 1 + 1, 0, none⟩) hle _).setCell (p := ⟨w.heap.size + 1 + 1, 1, none⟩) hle _).setCell (p := ⟨w.heap.size + 1 + 1, 2, none⟩) hle _).setCell (p := ⟨w.heap.size + 1 + 1, 3, none⟩) hle _⟩
end Go.Proofs.YtblijhokcjpeeaaGreatDoor
