/- slices.Equal of two equal rows of pixels. -/
import Derived.Test.YtblijhokcjpeeaaGreatDoorNP
import Derived.Test.YtblijhokcjpeeaaGreatDoorNZ
/- klippelaw54.line. -/
namespace Go.Proofs.YtblijhokcjpeeaaGreatDoor
open Go.RowKit Kl
attribute [local go_sem] run_max_int5

/-- A row of pixels is returned. -/
def RetRow (l : List (Int × Int)) (w : World) (e : Ending) (w' : World) : Prop :=
  ∃ A k, e = .returned (.slice A l.length k) ∧ RdC w' A (dcells l) ∧ l.length ≤ k ∧ k ≤ 9223372036854775807 ∧ Ext w w'
/-- A row of pixels of the call's own is returned. -/
def RetRowO (l : List (Int × Int)) (w : World) (e : Ending) (w' : World) : Prop :=
  ∃ v, e = .returned v ∧ w'.ownsRow w.heap.size 38 2 v l.length (dcells l) ∧ Ext w w'
theorem own_lower {w : World} {base base' : Nat} {e : TypeId} {size : Nat} {v : Value} {n : Nat} {xs : List Value} (h : w.ownsRow base e size v n xs) (hb : base' ≤ base) : w.ownsRow base' e size v n xs := by
  refine ⟨h.1, ?_⟩
  rcases h.2 with h' | ⟨g, cap, cur, hv, hg, r⟩
  · exact .inl h'
  · exact .inr ⟨g, cap, cur, hv, Nat.le_trans hb hg, r⟩
theorem RetRowO.row {l : List (Int × Int)} {w : World} {e : Ending} {w' : World} (h : RetRowO l w e w') : RetRow l w e w' := by
  obtain ⟨v, rfl, ho, hx⟩ := h
  obtain ⟨A, k, rfl, hr, h1, h2⟩ := RdC.of_own ho rfl
  exact ⟨A, k, rfl, hr, h1, h2, hx⟩
set_option maxRecDepth 100000 in
set_option maxHeartbeats 4000000 in
theorem lawLineO_none (c : Cv) (hc : CvS c) (s : Sg) {a : Nat} (hs : SzS a s) (ha : 0 < a) (ha2 : a ≤ 200) (hn : clipR c s = none) (w : World) (hw : Okw w) :
    Calls Tryz.prog 16 #[cvV c, sgV s] w (RetRowO [] w) := by
  have e2 := ((Ext.refl w).alloc (.cells #[S (R c.low.x), S (R c.low.y), S (R c.high.x), S (R c.high.y), .int .i64 (c.W : Nat), .int .i64 (c.H : Nat)] 35)).alloc (.cells #[S (R s.a.x), S (R s.a.y), S (R s.b.x), S (R s.b.y)] 31)
  have cl := lawClip_c c s hc hs ha ha2 _ (hw.ext e2)
  rw [clipLV_none (by rw [rclip_eq]; exact hn)] at cl
  unfold cvV sgV at cl ⊢
  clear hc hs hn
  go_enter Tryz.func16, Tryz.ntmps16
  go_wp2_with fail
  ((with_reducible refine cl.mono ?_); rintro e w1 ⟨rfl, hx⟩)
  go_wp2
  go_ret
  exact ⟨.slice none 0 0, rfl, World.ownsRow_nil _ _ _ _, (e2.trans hx).alloc _⟩
set_option maxRecDepth 100000 in
set_option maxHeartbeats 8000000 in
theorem lawLineO_some (c : Cv) (hc : CvS c) (s p : Sg) {a : Nat} (hs : SzS a s) (ha : 0 < a) (ha2 : a ≤ 200) (hn : clipR c s = some p) (w : World) (hw : Okw w) :
    Calls Tryz.prog 16 #[cvV c, sgV s] w (RetRowO (dots c p) w) := by
  obtain ⟨ia, ib⟩ := clipR_in hn
  have hsp := clip_sz hc hs hn
  have ca := colR_in hc.ok ia
  have cb := colR_in hc.ok ib
  have ra := rowR_in hc.ok ia
  have rb := rowR_in hc.ok ib
  have w2 := hc.ok.w2
  have h2 := hc.ok.h2
  have e2 := ((Ext.refl w).alloc (.cells #[S (R c.low.x), S (R c.low.y), S (R c.high.x), S (R c.high.y), .int .i64 (c.W : Nat), .int .i64 (c.H : Nat)] 35)).alloc (.cells #[S (R s.a.x), S (R s.a.y), S (R s.b.x), S (R s.b.y)] 31)
  have hb0 := (Below.heap_alloc (w.alloc (.cells #[S (R c.low.x), S (R c.low.y), S (R c.high.x), S (R c.high.y), .int .i64 (c.W : Nat), .int .i64 (c.H : Nat)] 35)) (.cells #[S (R s.a.x), S (R s.a.y), S (R s.b.x), S (R s.b.y)] 31) w.heap.size (by simp)).trans (heap_alloc_new w _)
  have hC0 := BoxC.of hb0
  clear hb0
  have cl := lawClip_c c s hc hs ha ha2 _ (hw.ext e2)
  rw [clipLV_some (by rw [rclip_eq]; exact hn)] at cl
  have pxa := lawPixel_c c p.a hc hsp.a (by omega) (by omega) ia
  have pxb := lawPixel_c c p.b hc hsp.b (by omega) (by omega) ib
  have hpx : ∀ n i : Nat, 0 < n → i ≤ n → n ≤ 2000 → ∀ W, Okw W → Calls Tryz.prog 42 #[cvV c, ptV (atR p (mkRat i n))] W (RetV (.tuple #[dotV (dotAt c p n i).1 (dotAt c p n i).2, .bool true]) W) := by
    intro n i h0 hi h3 W hW
    obtain ⟨u0, u1⟩ := frac_unit h0 hi
    exact lawPixel_c c _ hc (szs_at hsp (sz_frac h0 (by omega) (by omega))) (by omega) (by omega) (in_between ia ib u0 u1) W hW
  have hat : ∀ n i : Nat, 0 < n → i ≤ n → n ≤ 2000 → ∀ W, Okw W → Calls Tryz.prog 41 #[sgV p, S (R (mkRat i n))] W (RetV (ptV (atR p (mkRat i n))) W) := by
    intro n i h0 hi h3 W hW
    exact toward_c p _ hsp (sz_frac h0 (by omega) (by omega)) (by omega) (by omega) (by omega) W hW
  have hst : steps c p = (max (max (max (max 1 (colR c p.a - colR c p.b)) (colR c p.b - colR c p.a)) (rowR c p.a - rowR c p.b)) (rowR c p.b - rowR c p.a)).toNat := rfl
  obtain ⟨L, hL⟩ : ∃ L, L = dots c p := ⟨_, rfl⟩
  rw [← hL]
  have HL := Lib.hid hL
  obtain ⟨n, hnn⟩ : ∃ n, n = steps c p := ⟨_, rfl⟩
  have HN := Lib.hid hnn
  rw [← hnn] at hst
  obtain ⟨c1, hc1⟩ : ∃ z, z = colR c p.a := ⟨_, rfl⟩
  obtain ⟨c2, hc2⟩ : ∃ z, z = colR c p.b := ⟨_, rfl⟩
  obtain ⟨r1, hr1⟩ : ∃ z, z = rowR c p.a := ⟨_, rfl⟩
  obtain ⟨r2, hr2⟩ : ∃ z, z = rowR c p.b := ⟨_, rfl⟩
  rw [← hc1, ← hr1] at pxa
  rw [← hc2, ← hr2] at pxb
  rw [← hc1, ← hc2, ← hr1, ← hr2] at hst
  rw [← hc1] at ca
  rw [← hc2] at cb
  rw [← hr1] at ra
  rw [← hr2] at rb
  have hn1 : max (c1 - c2) (max (c2 - c1) (max (r1 - r2) (max (r2 - r1) 1))) = (n : Int) := by omega
  have hn1' : max (max (max (max (c1 - c2) (c2 - c1)) (r1 - r2)) (r2 - r1)) 1 = (n : Int) := by omega
  have hn0 : 0 < n := by omega
  have hn2 : n ≤ 2000 := by omega
  have HM := Lib.hid hn1
  have HM' := Lib.hid hn1'
  obtain ⟨ca1, ca2⟩ := ca
  obtain ⟨cb1, cb2⟩ := cb
  obtain ⟨ra1, ra2⟩ := ra
  obtain ⟨rb1, rb2⟩ := rb
  unfold cvV sgV at cl
  unfold cvV ptV dotV at pxa pxb
  unfold cvV sgV
  clear hc hs hn ia ib hsp hst hL hnn hc1 hc2 hr1 hr2 hn1 hn1'
  go_enter Tryz.func16, Tryz.ntmps16
  go_wp2_with fail
  ((with_reducible refine cl.mono ?_); rintro e w1 ⟨rfl, hx⟩)
  have hC := hC0.ext hx
  have hE := e2.trans hx
  clear hC0 e2 hx cl
  have hC := hC.ext ((Ext.refl w1).alloc (.cells #[S (R p.a.x), S (R p.a.y), S (R p.b.x), S (R p.b.y)] 31))
  have hE := hE.alloc (.cells #[S (R p.a.x), S (R p.a.y), S (R p.b.x), S (R p.b.y)] 31)
  have hbp := heap_alloc_new w1 (.cells #[S (R p.a.x), S (R p.a.y), S (R p.b.x), S (R p.b.y)] 31)
  go_upto_region 4 with fail
  generalize w1.alloc (.cells #[S (R p.a.x), S (R p.a.y), S (R p.b.x), S (R p.b.y)] 31) = V at *
  obtain ⟨bp, hbpe⟩ : ∃ bp, bp = w1.heap.size := ⟨_, rfl⟩
  rw [← hbpe] at hbp ⊢
  clear hbpe
  have hP : BoxS V bp p := ⟨cell_of_blk hbp rfl, cell_of_blk hbp rfl, cell_of_blk hbp rfl, cell_of_blk hbp rfl⟩
  clear hbp
  obtain ⟨q1, q2, q3, q4, q5, q6⟩ := hC
  obtain ⟨k1, k2, k3, k4⟩ := hP
  go_wp2_with fail
  ((with_reducible refine (pxa _ (hw.ext hE)).mono ?_); rintro e w3 ⟨rfl, hx⟩)
  replace hE := hE.trans hx
  have hC := (BoxC.mk q1 q2 q3 q4 q5 q6).ext hx
  have hP := (BoxS.mk k1 k2 k3 k4).ext hx
  clear q1 q2 q3 q4 q5 q6 k1 k2 k3 k4 hx pxa
  have hE := hE.alloc (.cells #[.int .i64 c1, .int .i64 r1] 38)
  have hC := hC.ext ((Ext.refl w3).alloc (.cells #[.int .i64 c1, .int .i64 r1] 38))
  have hP := hP.ext ((Ext.refl w3).alloc (.cells #[.int .i64 c1, .int .i64 r1] 38))
  have hba := heap_alloc_new w3 (.cells #[.int .i64 c1, .int .i64 r1] 38)
  go_upto_region 5 with fail
  generalize w3.alloc (.cells #[.int .i64 c1, .int .i64 r1] 38) = V at *
  obtain ⟨ba, hbae⟩ : ∃ ba, ba = w3.heap.size := ⟨_, rfl⟩
  rw [← hbae] at hba ⊢
  clear hbae
  obtain ⟨q1, q2, q3, q4, q5, q6⟩ := hC
  obtain ⟨k1, k2, k3, k4⟩ := hP
  go_wp2_with fail
  ((with_reducible refine (pxb _ (hw.ext hE)).mono ?_); rintro e w4 ⟨rfl, hx⟩)
  replace hE := hE.trans hx
  have hC := (BoxC.mk q1 q2 q3 q4 q5 q6).ext hx
  have hP := (BoxS.mk k1 k2 k3 k4).ext hx
  replace hba := (hx.block _ (lt_of_block hba)).trans hba
  clear q1 q2 q3 q4 q5 q6 k1 k2 k3 k4 hx pxb
  have hE := hE.alloc (.cells #[.int .i64 c2, .int .i64 r2] 38)
  have hx := (Ext.refl w4).alloc (.cells #[.int .i64 c2, .int .i64 r2] 38)
  have hC := hC.ext hx
  have hP := hP.ext hx
  replace hba := (hx.block _ (lt_of_block hba)).trans hba
  clear hx
  have hbb := heap_alloc_new w4 (.cells #[.int .i64 c2, .int .i64 r2] 38)
  go_upto_region 6 with fail
  generalize w4.alloc (.cells #[.int .i64 c2, .int .i64 r2] 38) = V at *
  obtain ⟨bb, hbbe⟩ : ∃ bb, bb = w4.heap.size := ⟨_, rfl⟩
  rw [← hbbe] at hbb ⊢
  clear hbbe
  have a0 := cell_of_blk (o := 0) hba rfl
  have a1 := cell_of_blk (o := 1) hba rfl
  have b0 := cell_of_blk (o := 0) hbb rfl
  have b1 := cell_of_blk (o := 1) hbb rfl
  have hn1 := HM.out
  have hn1' := HM'.out
  go_upto_region 7 with fail
  clear hn1 hn1' a0 a1 b0 b1 hba hbb
  have HC := hC
  have HP := hP
  have hV := hE
  go_wp2
  go_loopw [12, 61] (fun out i wr => ∃ j : Nat, i = .int .i64 (j : Nat) ∧ j ≤ n + 1 ∧ wr.ownsRow V.heap.size 38 2 out j (dcells ((List.range j).map (dotAt c p n))) ∧ V.heap.size ≤ wr.heap.size ∧ Ext V wr) (fun _ i _ => n + 1 - (intOf i).toNat)
  case atStart => exact ⟨0, rfl, by omega, World.ownsRow_nil _ _ _ _, Nat.le_refl _, Ext.refl _⟩
  case round =>
    obtain ⟨j, rfl, hj, hown, hsz, hext⟩ := hrel
    by_cases hlt : j < n + 1
    · have hj0 : (0 : Int) ≤ (j : Int) := by omega
      have hof := refOf_c (j : Int) n hn0 (by omega) (by omega)
      go_upto_region 11 with fail
      have hE5 := hV.trans hext
      have hC5 := HC.ext hext
      have hP5 := HP.ext hext
      have at1 := hat n j hn0 (by omega) hn2
      have px1 := hpx n j hn0 (by omega) hn2
      obtain ⟨d1, hd1⟩ : ∃ d, d = (dotAt c p n j).1 := ⟨_, rfl⟩
      obtain ⟨d2, hd2⟩ : ∃ d, d = (dotAt c p n j).2 := ⟨_, rfl⟩
      rw [← hd1, ← hd2] at px1
      unfold sgV ptV at at1
      unfold cvV ptV dotV at px1
      have HD : Hid (dotAt c p n j = (d1, d2)) := Lib.hid (by rw [hd1, hd2])
      clear hd1 hd2 hE hC hP
      go_cut [14, 15] (fun v14 v15 wx => ∃ b, v14 = .pointer (some ⟨b, 0, none⟩) ∧ v15 = .bool true ∧ wx.heap[b]? = some (.cells #[.int .i64 d1, .int .i64 d2] 38) ∧ Ext wr wx)
      case first =>
        obtain ⟨q1, q2, q3, q4, q5, q6⟩ := hC5
        obtain ⟨k1, k2, k3, k4⟩ := hP5
        have hC5 := BoxC.mk q1 q2 q3 q4 q5 q6
        have hP5 := BoxS.mk k1 k2 k3 k4
        have hw5 := hw.ext hE5
        have hs1 : w.heap.size < wr.heap.size := World.block_lt_of_cell? wr _ q1
        have hs2 : bp < wr.heap.size := World.block_lt_of_cell? wr _ k1
        have X : Ext wr wr := Ext.refl wr
        go_region_held3 (fun w' => w'.cell? ⟨w.heap.size, 0, none⟩ = some (S (R c.low.x)) ∧ w'.cell? ⟨w.heap.size, 1, none⟩ = some (S (R c.low.y)) ∧ w'.cell? ⟨w.heap.size, 2, none⟩ = some (S (R c.high.x)) ∧ w'.cell? ⟨w.heap.size, 3, none⟩ = some (S (R c.high.y)) ∧ w'.cell? ⟨w.heap.size, 4, none⟩ = some (.int .i64 (c.W : Nat)) ∧ w'.cell? ⟨w.heap.size, 5, none⟩ = some (.int .i64 (c.H : Nat)) ∧ w'.cell? ⟨bp, 0, none⟩ = some (S (R p.a.x)) ∧ w'.cell? ⟨bp, 1, none⟩ = some (S (R p.a.y)) ∧ w'.cell? ⟨bp, 2, none⟩ = some (S (R p.b.x)) ∧ w'.cell? ⟨bp, 3, none⟩ = some (S (R p.b.y)))
          (first | go_keep | (refine ⟨?_, ?_, ?_, ?_, ?_, ?_, ?_, ?_, ?_, ?_⟩ <;> (rw [World.cell?_setCell_far _ _ _ _ (by simp only [ne_eq]; omega), World.cell?_setCell_far _ _ _ _ (by simp only [ne_eq]; omega)]; assumption)))
          (first | ((with_reducible refine (hof _ ?_).mono ?_); (exact hw5.ext (by first | exact X.drew | exact (X.alloc _).drew)); rintro e w5 ⟨rfl, hx5⟩; (first | (have Z := (hx5.block _ (lt_of_block (heap_alloc_new _ _))).trans (heap_alloc_new _ _)) | skip); have X : Ext wr w5 := (by first | exact X.drew.trans hx5 | exact (X.alloc _).drew.trans hx5); obtain ⟨g1, g2, g3, g4, g5, g6⟩ := hC5.ext X; obtain ⟨h1, h2, h3, h4⟩ := hP5.ext X; have s5 := X.size) | ((with_reducible refine (at1 _ ?_).mono ?_); (exact hw5.ext (by first | exact X | exact X.alloc _)); rintro e w6 ⟨rfl, hx6⟩; (first | (replace Z := (hx6.block _ (lt_of_block Z)).trans Z) | (have Z := (hx6.block _ (lt_of_block (heap_alloc_new _ _))).trans (heap_alloc_new _ _)) | skip); replace X : Ext wr w6 := (by first | exact X.trans hx6 | exact (X.alloc _).trans hx6); obtain ⟨g1, g2, g3, g4, g5, g6⟩ := hC5.ext X; obtain ⟨h1, h2, h3, h4⟩ := hP5.ext X; have s6 := X.size) | ((with_reducible refine (px1 _ ?_).mono ?_); (exact hw5.ext (by first | exact X | exact X.alloc _)); rintro e w7 ⟨rfl, hx7⟩; (first | (replace Z := (hx7.block _ (lt_of_block Z)).trans Z) | (have Z := (hx7.block _ (lt_of_block (heap_alloc_new _ _))).trans (heap_alloc_new _ _)) | skip); replace X : Ext wr w7 := (by first | exact X.trans hx7 | exact (X.alloc _).trans hx7); obtain ⟨g1, g2, g3, g4, g5, g6⟩ := hC5.ext X; obtain ⟨h1, h2, h3, h4⟩ := hP5.ext X; have s7 := X.size; (first | (have y1 := cell_of_blk (o := 0) Z rfl; have y2 := cell_of_blk (o := 1) Z rfl; have y3 := free_of_blk (o := 0) Z; have y4 := free_of_blk (o := 1) Z) | skip)))
        all_goals go_wp2
        all_goals go_meet
        all_goals first
          | exact ⟨_, rfl, rfl, heap_alloc_new w7 _, X.alloc _⟩
          | exact ⟨_, rfl, rfl, blk2_set _ _ Z, (X.setCell (by simp only []; omega) _).setCell (by simp only []; omega) _⟩
          | exact ⟨_, rfl, rfl, blk2_set _ _ Z, (X.setCell (Nat.le_refl _) _).setCell (Nat.le_refl _) _⟩
      case rest =>
        obtain ⟨b, rfl, rfl, hbx, hxc⟩ := hcut
        have g0 := cell_of_blk (o := 0) hbx rfl
        have g1 := cell_of_blk (o := 1) hbx rfl
        have hXc := hext.trans hxc
        have hown2 := own_ext hown hxc
        have hsz2 : V.heap.size ≤ wc.heap.size := hXc.size
        clear at1 px1 hC5 hP5 hE5 hof
        go_wp2_with (at_builtin; go_loud (refine appDot rfl _ _ rfl wc V.heap.size u12 j ((List.range j).map (dotAt c p n)) rfl hown2 (by omega) (d1, d2) rfl hsz2 ?_); intro v8 w8 hown8 hx8)
        go_roundw
        case rel =>
          refine ⟨j + 1, by go_num, hlt, ?_, ?_, hx8 V hXc (Nat.le_refl _)⟩
          · rw [List.range_succ, List.map_append, List.map_singleton, HD.out]; exact hown8
          · exact (hx8 V hXc (Nat.le_refl _)).size
        case measure => simp [intOf]; omega
    · have hje : j = n + 1 := by omega
      have hlen : ((List.range j).map (dotAt c p n)).length = j := by simp
      have hLe : L = (List.range j).map (dotAt c p n) := by rw [HL.out, hje]; unfold dots; rw [← HN.out]
      have hle : (n : Int) + 1 ≤ (j : Int) := by omega
      have HLE := Lib.hid hLe
      have HLN := Lib.hid hlen
      have hR : Hid (RetRowO L w (.returned u12) wr) := Lib.hid ⟨_, rfl, by rw [hLe, hlen]; exact own_lower hown hV.size, hV.trans hext⟩
      clear hLe hlen hje hlt
      go_wp2
      go_ret
      exact hR.out
theorem lawLine_none (c : Cv) (hc : CvS c) (s : Sg) {a : Nat} (hs : SzS a s) (ha : 0 < a) (ha2 : a ≤ 200) (hn : clipR c s = none) (w : World) (hw : Okw w) :
    Calls Tryz.prog 16 #[cvV c, sgV s] w (RetRow [] w) :=
  (lawLineO_none c hc s hs ha ha2 hn w hw).mono fun _ _ h => h.row
theorem lawLine_some (c : Cv) (hc : CvS c) (s p : Sg) {a : Nat} (hs : SzS a s) (ha : 0 < a) (ha2 : a ≤ 200) (hn : clipR c s = some p) (w : World) (hw : Okw w) :
    Calls Tryz.prog 16 #[cvV c, sgV s] w (RetRow (dots c p) w) :=
  (lawLineO_some c hc s p hs ha ha2 hn w hw).mono fun _ _ h => h.row
end Go.Proofs.YtblijhokcjpeeaaGreatDoor
namespace Go.Proofs.YtblijhokcjpeeaaGreatDoor
open Go.RowKit Kl

/-! ### slices.Equal -/
set_option maxRecDepth 100000 in
set_option maxHeartbeats 4000000 in
theorem equal_dots (l : List (Int × Int)) (A B : Option Addr) (c d : Nat) (w : World) (ha : RdC w A (dcells l)) (hb : RdC w B (dcells l)) (_ : l.length ≤ c) (hc2 : c ≤ 9223372036854775807) (_ : l.length ≤ d) (_ : d ≤ 9223372036854775807) :
    Calls Tryz.prog 15 #[.slice A l.length c, .slice B l.length d] w (RetB true w) := by
  go_enter Tryz.func15, Tryz.ntmps15
  go_wp2
  go_loopw [13] (fun i wr => ∃ j : Nat, i = .int .i64 (j : Nat) ∧ j ≤ l.length ∧ Ext w wr) (fun i _ => l.length - (intOf i).toNat)
  case atStart => exact ⟨0, rfl, by omega, Ext.refl _⟩
  case round =>
    obtain ⟨j, rfl, hj, hext⟩ := hrel
    by_cases hlt : j < l.length
    · obtain ⟨b1, o1, rfl, g1, g2⟩ := rdC_dot (ha.ext hext) hlt
      obtain ⟨b2, o2, rfl, g3, g4⟩ := rdC_dot (hb.ext hext) hlt
      obtain ⟨x, hx⟩ : ∃ x, x = l[j].1 := ⟨_, rfl⟩
      obtain ⟨y, hy⟩ : ∃ y, y = l[j].2 := ⟨_, rfl⟩
      rw [← hx] at g1 g3
      rw [← hy] at g2 g4
      have hj0 : (0 : Int) ≤ (j : Int) := by omega
      have hjl : (j : Int) < (l.length : Int) := by omega
      clear hx hy
      go_wp2_with fail
      go_quiet (fail)
      go_wp2
      go_roundw
      case rel => exact ⟨j + 1, by go_num, by omega, hext.drewN _⟩
      case measure => simp [intOf]; omega
    · have hle : (l.length : Int) ≤ (j : Int) := by omega
      go_wp2
      go_ret
      exact ⟨rfl, hext⟩
end Go.Proofs.YtblijhokcjpeeaaGreatDoor
