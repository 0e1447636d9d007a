/- The law's brief. -/
import Derived.Test.YtblijhokcjpeeaaGreatDoorMO
/- drawing.line. -/
namespace Go.Proofs.YtblijhokcjpeeaaGreatDoor
open Go.RowKit Kl

theorem run_max_int5 {P : Program} {w : World} (ts : Array TypeId) (t : TypeId) (k : IntKind) (a b c d e : Int) : (Builtin.max_ ts t #[.int k a, .int k b, .int k c, .int k d, .int k e]).run P w = .ok (.int k (max (max (max (max a b) c) d) e)) w := by
  have m : ∀ x y : Int, (if y > x then y else x) = max x y := by intro x y; split <;> omega
  simp only [Builtin.max_, List.foldlM_cons, List.foldlM_nil, Builtin.max2]
  simp [m]
attribute [local go_sem] run_max_int5
theorem blk2_set {w : World} {b : Nat} {a0 a1 : Value} {t : TypeId} (v0 v1 : Value) (h : w.heap[b]? = some (.cells #[a0, a1] t)) :
    ((w.setCell ⟨b, 0, none⟩ v0).setCell ⟨b, 1, none⟩ v1).heap[b]? = some (.cells #[v0, v1] t) := by
  simp only [World.setCell, Array.getElem?_modify, h]
  simp
/-- The number of steps of a line, its pixels. -/
def steps (c : Cv) (p : Sg) : Nat := (max (max (max (max 1 (colR c p.a - colR c p.b)) (colR c p.b - colR c p.a)) (rowR c p.a - rowR c p.b)) (rowR c p.b - rowR c p.a)).toNat
def dotAt (c : Cv) (p : Sg) (n i : Nat) : Int × Int := (colR c (atR p (mkRat i n)), rowR c (atR p (mkRat i n)))
def dots (c : Cv) (p : Sg) : List (Int × Int) := (List.range (steps c p + 1)).map (dotAt c p (steps c p))
def RetDots (l : List (Int × Int)) (w : World) (e : Ending) (w' : World) : Prop :=
  ∃ A k, e = .returned (.tuple #[.slice A l.length k, .int .i64 0]) ∧ RdC w' A (dcells l) ∧ l.length ≤ k ∧ k ≤ 9223372036854775807 ∧ Ext w w'
theorem clip_sz {c : Cv} {s p : Sg} {a : Nat} (hc : CvS c) (hs : SzS a s) (h : clipR c s = some p) : SzS (6 * a + 7) p := by
  have key : ∀ (fr way : Rat) (m : Nat) (o : Option (Rat × Rat)) (l h : Rat), (∀ l h, o = some (l, h) → Sz m l ∧ Sz m h) → Sz m (-fr / way) → bstep fr way o = some (l, h) → Sz m l ∧ Sz m h := by
    intro fr way m o l h ho hk e
    obtain ⟨l0, h0, e0⟩ := bstep_some e
    obtain ⟨z1, z2⟩ := ho l0 h0 e0
    rw [e0, bstep_eq] at e
    split at e
    · split at e
      · simp only [Option.some.injEq, Prod.mk.injEq] at e; obtain ⟨rfl, rfl⟩ := e; exact ⟨z1, z2⟩
      · cases e
    · split at e
      · simp only [Option.some.injEq, Prod.mk.injEq] at e; obtain ⟨rfl, rfl⟩ := e; exact ⟨sz_max z1 hk, z2⟩
      · simp only [Option.some.injEq, Prod.mk.injEq] at e; obtain ⟨rfl, rfl⟩ := e; exact ⟨z1, sz_min z2 hk⟩
  unfold clipR at h
  split at h
  · cases h
  · next l hh e =>
    split at h
    · cases h
    · simp only [Option.some.injEq] at h
      subst h
      have dx := hs.b.x.sub hs.a.x
      have dy := hs.b.y.sub hs.a.y
      have d : ∀ {x y : Rat}, Sz (a + 3 + 1) x → Sz (a + a + 1) y → Sz (3 * a + 5) (-x / y) := fun hx hy => (Sz.div (by omega) hx.neg hy).mono (by omega)
      have m0 : Sz (3 * a + 5) 0 := ⟨by show 0 < 10 ^ _; exact pow10_pos _, by show 1 < 10 ^ _; exact Nat.one_lt_pow (by omega) (by omega)⟩
      have m1 : Sz (3 * a + 5) 1 := ⟨by show 1 < 10 ^ _; exact Nat.one_lt_pow (by omega) (by omega), by show 1 < 10 ^ _; exact Nat.one_lt_pow (by omega) (by omega)⟩
      have f1 : Sz (a + 3 + 1) (s.a.x - c.low.x) := hs.a.x.sub hc.low.x
      have f2 : Sz (a + 3 + 1) (c.high.x - s.a.x) := (hc.high.x.sub hs.a.x).mono (by omega)
      have f3 : Sz (a + 3 + 1) (s.a.y - c.low.y) := hs.a.y.sub hc.low.y
      have f4 : Sz (a + 3 + 1) (c.high.y - s.a.y) := (hc.high.y.sub hs.a.y).mono (by omega)
      have k1 := fun l h => key _ _ (3 * a + 5) (some (0, 1)) l h (by rintro _ _ ⟨⟩; exact ⟨m0, m1⟩) (d f1 dx)
      have k2 := fun l h => key _ _ (3 * a + 5) _ l h k1 (d f2 dx.neg)
      have k3 := fun l h => key _ _ (3 * a + 5) _ l h k2 (d f3 dy)
      obtain ⟨z1, z2⟩ := key _ _ (3 * a + 5) _ l hh k3 (d f4 dy.neg) e
      have g1 := szs_at hs z1
      have g2 := szs_at hs z2
      exact ⟨⟨g1.x.mono (by omega), g1.y.mono (by omega)⟩, ⟨g2.x.mono (by omega), g2.y.mono (by omega)⟩⟩
theorem sz_frac {i n : Nat} (hn : 0 < n) (hi : i ≤ 10000) (hn2 : n ≤ 10000) : Sz 5 (mkRat i n) :=
  Sz.mkRat hn (by rw [Int.natAbs_natCast]; have : (10 : Nat) ^ 5 = 100000 := by decide
                  omega) (by have : (10 : Nat) ^ 5 = 100000 := by decide
                             omega)
theorem frac_unit {i n : Nat} (hn : 0 < n) (hi : i ≤ n) : 0 ≤ mkRat i n ∧ mkRat i n ≤ 1 := by
  rw [Rat.mkRat_eq_div]
  have hp : (0 : Rat) < (n : Rat) := Rat.natCast_pos.2 hn
  have h0 : (0 : Rat) ≤ ((i : Int) : Rat) := by rw [Rat.intCast_natCast]; exact Rat.natCast_nonneg
  constructor
  · rw [← Rat.not_lt, Rat.div_lt_iff hp, Rat.not_lt, Rat.zero_mul]; exact h0
  · rw [← Rat.not_lt, Rat.lt_div_iff hp, Rat.not_lt, Rat.one_mul, Rat.intCast_natCast]
    exact Rat.natCast_le_natCast.2 hi
set_option maxRecDepth 100000 in
set_option maxHeartbeats 4000000 in
theorem line_none (c : Cv) (hc : CvS c) (s : Sg) {a : Nat} (hs : SzS a s) (ha : 0 < a) (ha2 : a ≤ 200) (hn : clipR c s = none) (w : World) (hw : Okw w) :
    Calls Tryz.prog 34 #[cvV c, sgV s] w (RetDots [] w) := by
  have e2 := ((Ext.refl w).alloc (.cells #[S (R c.low.x), S (R c.low.y), S (R c.high.x), S (R c.high.y), .int .i64 (c.W : Nat), .int .i64 (c.H : Nat)] 35)).alloc (.cells #[S (R s.a.x), S (R s.a.y), S (R s.b.x), S (R s.b.y)] 31)
  have cl := clip_c c s hc hs ha ha2 _ (hw.ext e2)
  rw [clipV_none hn] at cl
  unfold cvV sgV at cl ⊢
  clear hc hs hn
  go_enter Tryz.func34, Tryz.ntmps34
  go_wp2_with fail
  ((with_reducible refine cl.mono ?_); rintro e w1 ⟨rfl, hx⟩)
  go_wp2
  go_ret2
  exact ⟨none, 0, rfl, ⟨fun h => by simp [dcells] at h⟩, by simp, by omega, (e2.trans hx).alloc _⟩
set_option maxRecDepth 100000 in
set_option maxHeartbeats 8000000 in
theorem line_some (c : Cv) (hc : CvS c) (s p : Sg) {a : Nat} (hs : SzS a s) (ha : 0 < a) (ha2 : a ≤ 200) (hn : clipR c s = some p) (w : World) (hw : Okw w) :
    Calls Tryz.prog 34 #[cvV c, sgV s] w (RetDots (dots c p) w) := by
  obtain ⟨ia, ib⟩ := clipR_in hn
  have hsp := clip_sz hc hs hn
  have ca := colR_in hc.ok ia
  have cb := colR_in hc.ok ib
  have ra := rowR_in hc.ok ia
  have rb := rowR_in hc.ok ib
  have w2 := hc.ok.w2
  have h2 := hc.ok.h2
  have e2 := ((Ext.refl w).alloc (.cells #[S (R c.low.x), S (R c.low.y), S (R c.high.x), S (R c.high.y), .int .i64 (c.W : Nat), .int .i64 (c.H : Nat)] 35)).alloc (.cells #[S (R s.a.x), S (R s.a.y), S (R s.b.x), S (R s.b.y)] 31)
  have hb0 := (Below.heap_alloc (w.alloc (.cells #[S (R c.low.x), S (R c.low.y), S (R c.high.x), S (R c.high.y), .int .i64 (c.W : Nat), .int .i64 (c.H : Nat)] 35)) (.cells #[S (R s.a.x), S (R s.a.y), S (R s.b.x), S (R s.b.y)] 31) w.heap.size (by simp)).trans (heap_alloc_new w _)
  have hC0 := BoxC.of hb0
  clear hb0
  have cl := clip_c c s hc hs ha ha2 _ (hw.ext e2)
  rw [clipV_some hn] at cl
  have pxa := pixel_ok c p.a hc hsp.a (by omega) (by omega) (by omega) (by omega) (by omega) (by omega)
  have pxb := pixel_ok c p.b hc hsp.b (by omega) (by omega) (by omega) (by omega) (by omega) (by omega)
  have hpx : ∀ n i : Nat, 0 < n → i ≤ n → n ≤ 2000 → ∀ W, Okw W → Calls Tryz.prog 31 #[cvV c, ptV (atR p (mkRat i n))] W (RetV (.tuple #[dotV (dotAt c p n i).1 (dotAt c p n i).2, .int .i64 0]) W) := by
    intro n i h0 hi h3 W hW
    obtain ⟨u0, u1⟩ := frac_unit h0 hi
    have hin := in_between ia ib u0 u1
    have cc := colR_in hc.ok hin
    have rr := rowR_in hc.ok hin
    exact pixel_ok c _ hc (szs_at hsp (sz_frac h0 (by omega) (by omega))) (by omega) (by omega) (by omega) (by omega) (by omega) (by omega) W hW
  have hat : ∀ n i : Nat, 0 < n → i ≤ n → n ≤ 2000 → ∀ W, Okw W → Calls Tryz.prog 52 #[sgV p, S (R (mkRat i n))] W (RetV (ptV (atR p (mkRat i n))) W) := by
    intro n i h0 hi h3 W hW
    exact at_c p _ hsp (sz_frac h0 (by omega) (by omega)) (by omega) (by omega) (by omega) W hW
  have hst : steps c p = (max (max (max (max 1 (colR c p.a - colR c p.b)) (colR c p.b - colR c p.a)) (rowR c p.a - rowR c p.b)) (rowR c p.b - rowR c p.a)).toNat := rfl
  obtain ⟨L, hL⟩ : ∃ L, L = dots c p := ⟨_, rfl⟩
  rw [← hL]
  have HL := Lib.hid hL
  obtain ⟨n, hnn⟩ : ∃ n, n = steps c p := ⟨_, rfl⟩
  have HN := Lib.hid hnn
  rw [← hnn] at hst
  obtain ⟨c1, hc1⟩ : ∃ z, z = colR c p.a := ⟨_, rfl⟩
  obtain ⟨c2, hc2⟩ : ∃ z, z = colR c p.b := ⟨_, rfl⟩
  obtain ⟨r1, hr1⟩ : ∃ z, z = rowR c p.a := ⟨_, rfl⟩
  obtain ⟨r2, hr2⟩ : ∃ z, z = rowR c p.b := ⟨_, rfl⟩
  rw [← hc1, ← hr1] at pxa
  rw [← hc2, ← hr2] at pxb
  rw [← hc1, ← hc2, ← hr1, ← hr2] at hst
  rw [← hc1] at ca
  rw [← hc2] at cb
  rw [← hr1] at ra
  rw [← hr2] at rb
  have hn1 : max 1 (max (c1 - c2) (max (c2 - c1) (max (r1 - r2) (r2 - r1)))) = (n : Int) := by omega
  have hn0 : 0 < n := by omega
  have hn2 : n ≤ 2000 := by omega
  have HM := Lib.hid hn1
  obtain ⟨ca1, ca2⟩ := ca
  obtain ⟨cb1, cb2⟩ := cb
  obtain ⟨ra1, ra2⟩ := ra
  obtain ⟨rb1, rb2⟩ := rb
  unfold cvV sgV at cl
  unfold cvV ptV dotV at pxa pxb
  unfold cvV sgV
  clear hc hs hn ia ib hsp hst hL hnn hc1 hc2 hr1 hr2 hn1
  go_enter Tryz.func34, Tryz.ntmps34
  go_wp2_with fail
  ((with_reducible refine cl.mono ?_); rintro e w1 ⟨rfl, hx⟩)
  have hC := hC0.ext hx
  have hE := e2.trans hx
  clear hC0 e2 hx cl
  have hC := hC.ext ((Ext.refl w1).alloc (.cells #[S (R p.a.x), S (R p.a.y), S (R p.b.x), S (R p.b.y)] 31))
  have hE := hE.alloc (.cells #[S (R p.a.x), S (R p.a.y), S (R p.b.x), S (R p.b.y)] 31)
  have hbp := heap_alloc_new w1 (.cells #[S (R p.a.x), S (R p.a.y), S (R p.b.x), S (R p.b.y)] 31)
  go_upto_region 4 with fail
  generalize w1.alloc (.cells #[S (R p.a.x), S (R p.a.y), S (R p.b.x), S (R p.b.y)] 31) = V at *
  obtain ⟨bp, hbpe⟩ : ∃ bp, bp = w1.heap.size := ⟨_, rfl⟩
  rw [← hbpe] at hbp ⊢
  clear hbpe
  have hP : BoxS V bp p := ⟨cell_of_blk hbp rfl, cell_of_blk hbp rfl, cell_of_blk hbp rfl, cell_of_blk hbp rfl⟩
  clear hbp
  obtain ⟨q1, q2, q3, q4, q5, q6⟩ := hC
  obtain ⟨k1, k2, k3, k4⟩ := hP
  go_wp2_with fail
  ((with_reducible refine (pxa _ (hw.ext hE)).mono ?_); rintro e w3 ⟨rfl, hx⟩)
  replace hE := hE.trans hx
  have hC := (BoxC.mk q1 q2 q3 q4 q5 q6).ext hx
  have hP := (BoxS.mk k1 k2 k3 k4).ext hx
  clear q1 q2 q3 q4 q5 q6 k1 k2 k3 k4 hx pxa
  have hE := hE.alloc (.cells #[.int .i64 c1, .int .i64 r1] 38)
  have hC := hC.ext ((Ext.refl w3).alloc (.cells #[.int .i64 c1, .int .i64 r1] 38))
  have hP := hP.ext ((Ext.refl w3).alloc (.cells #[.int .i64 c1, .int .i64 r1] 38))
  have hba := heap_alloc_new w3 (.cells #[.int .i64 c1, .int .i64 r1] 38)
  go_upto_region 7 with fail
  generalize w3.alloc (.cells #[.int .i64 c1, .int .i64 r1] 38) = V at *
  obtain ⟨ba, hbae⟩ : ∃ ba, ba = w3.heap.size := ⟨_, rfl⟩
  rw [← hbae] at hba ⊢
  clear hbae
  obtain ⟨q1, q2, q3, q4, q5, q6⟩ := hC
  obtain ⟨k1, k2, k3, k4⟩ := hP
  go_wp2_with fail
  ((with_reducible refine (pxb _ (hw.ext hE)).mono ?_); rintro e w4 ⟨rfl, hx⟩)
  replace hE := hE.trans hx
  have hC := (BoxC.mk q1 q2 q3 q4 q5 q6).ext hx
  have hP := (BoxS.mk k1 k2 k3 k4).ext hx
  replace hba := (hx.block _ (lt_of_block hba)).trans hba
  clear q1 q2 q3 q4 q5 q6 k1 k2 k3 k4 hx pxb
  have hE := hE.alloc (.cells #[.int .i64 c2, .int .i64 r2] 38)
  have hx := (Ext.refl w4).alloc (.cells #[.int .i64 c2, .int .i64 r2] 38)
  have hC := hC.ext hx
  have hP := hP.ext hx
  replace hba := (hx.block _ (lt_of_block hba)).trans hba
  clear hx
  have hbb := heap_alloc_new w4 (.cells #[.int .i64 c2, .int .i64 r2] 38)
  go_upto_region 10 with fail
  generalize w4.alloc (.cells #[.int .i64 c2, .int .i64 r2] 38) = V at *
  obtain ⟨bb, hbbe⟩ : ∃ bb, bb = w4.heap.size := ⟨_, rfl⟩
  rw [← hbbe] at hbb ⊢
  clear hbbe
  have a0 := cell_of_blk (o := 0) hba rfl
  have a1 := cell_of_blk (o := 1) hba rfl
  have b0 := cell_of_blk (o := 0) hbb rfl
  have b1 := cell_of_blk (o := 1) hbb rfl
  have hn1 := HM.out
  go_upto_region 12 with fail
  clear hn1 a0 a1 b0 b1 hba hbb
  have HC := hC
  have HP := hP
  have hV := hE
  go_wp2
  go_loopw [12, 69] (fun out i wr => ∃ j : Nat, i = .int .i64 (j : Nat) ∧ j ≤ n + 1 ∧ wr.ownsRow V.heap.size 38 2 out j (dcells ((List.range j).map (dotAt c p n))) ∧ V.heap.size ≤ wr.heap.size ∧ Ext V wr) (fun _ i _ => n + 1 - (intOf i).toNat)
  case atStart => exact ⟨0, rfl, by omega, World.ownsRow_nil _ _ _ _, Nat.le_refl _, Ext.refl _⟩
  case round =>
    obtain ⟨j, rfl, hj, hown, hsz, hext⟩ := hrel
    by_cases hlt : j < n + 1
    · have hof := rOf_c (j : Int) (n : Int) (by omega) (by omega) (by omega) (by omega) wr (hw.ext (hE.trans hext))
      rw [Int.toNat_natCast] at hof
      unfold retRE at hof
      have hj0 : (0 : Int) ≤ (j : Int) := by omega
      go_wp2_with fail
      ((with_reducible refine hof.mono ?_); rintro e w5 ⟨rfl, hx5⟩)
      go_upto_region 16 with fail
      have hE5 := hV.trans (hext.trans hx5)
      have hC5 := HC.ext (hext.trans hx5)
      have hP5 := HP.ext (hext.trans hx5)
      have at1 := hat n j hn0 (by omega) hn2
      have px1 := hpx n j hn0 (by omega) hn2
      obtain ⟨d1, hd1⟩ : ∃ d, d = (dotAt c p n j).1 := ⟨_, rfl⟩
      obtain ⟨d2, hd2⟩ : ∃ d, d = (dotAt c p n j).2 := ⟨_, rfl⟩
      rw [← hd1, ← hd2] at px1
      unfold sgV ptV at at1
      unfold cvV ptV dotV at px1
      have HD : Hid (dotAt c p n j = (d1, d2)) := Lib.hid (by rw [hd1, hd2])
      clear hd1 hd2 hof hE hC hP
      go_cut [16, 17] (fun v16 v17 wx => ∃ b, v16 = .pointer (some ⟨b, 0, none⟩) ∧ v17 = .int .i64 0 ∧ wx.heap[b]? = some (.cells #[.int .i64 d1, .int .i64 d2] 38) ∧ Ext w5 wx)
      case first =>
        obtain ⟨q1, q2, q3, q4, q5, q6⟩ := hC5
        obtain ⟨k1, k2, k3, k4⟩ := hP5
        have hC5 := BoxC.mk q1 q2 q3 q4 q5 q6
        have hP5 := BoxS.mk k1 k2 k3 k4
        have hw5 := hw.ext hE5
        have hs1 : w.heap.size < w5.heap.size := World.block_lt_of_cell? w5 _ q1
        have hs2 : bp < w5.heap.size := World.block_lt_of_cell? w5 _ k1
        go_region_held3 (fun w' => w'.cell? ⟨w.heap.size, 0, none⟩ = some (S (R c.low.x)) ∧ w'.cell? ⟨w.heap.size, 1, none⟩ = some (S (R c.low.y)) ∧ w'.cell? ⟨w.heap.size, 2, none⟩ = some (S (R c.high.x)) ∧ w'.cell? ⟨w.heap.size, 3, none⟩ = some (S (R c.high.y)) ∧ w'.cell? ⟨w.heap.size, 4, none⟩ = some (.int .i64 (c.W : Nat)) ∧ w'.cell? ⟨w.heap.size, 5, none⟩ = some (.int .i64 (c.H : Nat)) ∧ w'.cell? ⟨bp, 0, none⟩ = some (S (R p.a.x)) ∧ w'.cell? ⟨bp, 1, none⟩ = some (S (R p.a.y)) ∧ w'.cell? ⟨bp, 2, none⟩ = some (S (R p.b.x)) ∧ w'.cell? ⟨bp, 3, none⟩ = some (S (R p.b.y)))
          (first | go_keep | (refine ⟨?_, ?_, ?_, ?_, ?_, ?_, ?_, ?_, ?_, ?_⟩ <;> (rw [World.cell?_setCell_far _ _ _ _ (by simp only [ne_eq]; omega), World.cell?_setCell_far _ _ _ _ (by simp only [ne_eq]; omega)]; assumption)))
          (first | ((with_reducible refine (at1 _ ?_).mono ?_); (exact hw5.ext (by first | exact (Ext.refl _).drew | exact ((Ext.refl _).alloc _).drew)); rintro e w6 ⟨rfl, hx6⟩; have X6 : Ext w5 w6 := (by first | exact (Ext.refl _).drew.trans hx6 | exact ((Ext.refl _).alloc _).drew.trans hx6); obtain ⟨g1, g2, g3, g4, g5, g6⟩ := hC5.ext X6; obtain ⟨h1, h2, h3, h4⟩ := hP5.ext X6; have s6 := X6.size; (first | (have Z6 : w6.heap[w5.heap.size]? = some (.cells #[.int .i64 0, .int .i64 0] 38) := (hx6.block _ (by simp)).trans (heap_alloc_new w5 _)) | skip)) | ((with_reducible refine (px1 _ ?_).mono ?_); (exact hw5.ext (by first | exact X6 | exact X6.alloc _)); rintro e w7 ⟨rfl, hx7⟩; have X7 : Ext w5 w7 := (by first | exact X6.trans hx7 | exact (X6.alloc _).trans hx7); obtain ⟨i1, i2, i3, i4, i5, i6⟩ := hC5.ext X7; obtain ⟨m1, m2, m3, m4⟩ := hP5.ext X7; have s7 := X7.size; (first | (have Z7 : w7.heap[w5.heap.size]? = some (.cells #[.int .i64 0, .int .i64 0] 38) := (hx7.block _ (lt_of_block Z6)).trans Z6; have y1 := cell_of_blk (o := 0) Z7 rfl; have y2 := cell_of_blk (o := 1) Z7 rfl; have y3 := free_of_blk (o := 0) Z7; have y4 := free_of_blk (o := 1) Z7) | (have Z7 : w7.heap[w6.heap.size]? = some (.cells #[.int .i64 0, .int .i64 0] 38) := (hx7.block _ (by simp)).trans (heap_alloc_new w6 _); have y1 := cell_of_blk (o := 0) Z7 rfl; have y2 := cell_of_blk (o := 1) Z7 rfl; have y3 := free_of_blk (o := 0) Z7; have y4 := free_of_blk (o := 1) Z7) | skip)))
        all_goals go_wp2
        all_goals go_meet
        all_goals first
          | exact ⟨_, rfl, rfl, heap_alloc_new w7 _, X7.alloc _⟩
          | exact ⟨_, rfl, rfl, blk2_set _ _ Z7, (X7.setCell (by simp only []; omega) _).setCell (by simp only []; omega) _⟩
          | exact ⟨_, rfl, rfl, blk2_set _ _ Z7, (X7.setCell (Nat.le_refl _) _).setCell (Nat.le_refl _) _⟩
      case rest =>
        obtain ⟨b, rfl, rfl, hbx, hxc⟩ := hcut
        have g0 := cell_of_blk (o := 0) hbx rfl
        have g1 := cell_of_blk (o := 1) hbx rfl
        have hXc := hext.trans (hx5.trans hxc)
        have hown2 := own_ext hown (hx5.trans hxc)
        have hsz2 : V.heap.size ≤ wc.heap.size := hXc.size
        clear at1 px1 hC5 hP5 hE5
        go_wp2_with (at_builtin; go_loud (refine appDot rfl _ _ rfl wc V.heap.size u12 j ((List.range j).map (dotAt c p n)) rfl hown2 (by omega) (d1, d2) rfl hsz2 ?_); intro v8 w8 hown8 hx8)
        go_roundw
        case rel =>
          refine ⟨j + 1, by go_num, hlt, ?_, ?_, hx8 V hXc (Nat.le_refl _)⟩
          · rw [List.range_succ, List.map_append, List.map_singleton, HD.out]; exact hown8
          · exact (hx8 V hXc (Nat.le_refl _)).size
        case measure => simp [intOf]; omega
    · have hje : j = n + 1 := by omega
      have hlen : ((List.range j).map (dotAt c p n)).length = j := by simp
      obtain ⟨A, k, rfl, hrd, hk1, hk2⟩ := RdC.of_own hown hlen.symm
      have hLe : L = (List.range j).map (dotAt c p n) := by rw [HL.out, hje]; unfold dots; rw [← HN.out]
      have hle : (n : Int) + 1 ≤ (j : Int) := by omega
      have HLE := Lib.hid hLe
      have HLN := Lib.hid hlen
      have hR : Hid (RetDots L w (.returned (.tuple #[.slice A j k, .int .i64 0])) wr) := Lib.hid ⟨A, k, by rw [hLe, hlen], by rw [hLe]; exact hrd, by rw [hLe, hlen]; exact hk1, hk2, hV.trans hext⟩
      clear hLe hlen hje hlt
      go_wp2
      go_ret2
      exact hR.out
end Go.Proofs.YtblijhokcjpeeaaGreatDoor
/- drawing.Line. -/
namespace Go.Proofs.YtblijhokcjpeeaaGreatDoor
open Go.RowKit Kl

set_option maxRecDepth 100000 in
set_option maxHeartbeats 2000000 in
theorem Line_bad (c : Cv) (hc : CvS c) (t : SgT) (hbad : ¬ okPts t.pts) (hsh : shortPts t.pts) (w : World) (hw : Okw w) :
    Calls Tryz.prog 12 #[cvV c, stV t] w (RetV (.tuple #[.slice none 0 0, .int .i64 2]) w) := by
  have e2 := ((Ext.refl w).alloc (.cells #[S (R c.low.x), S (R c.low.y), S (R c.high.x), S (R c.high.y), .int .i64 (c.W : Nat), .int .i64 (c.H : Nat)] 35)).alloc (.cells #[S t.fx, S t.fy, S t.tx, S t.ty] 31)
  obtain ⟨W, hW⟩ : ∃ W, W = (w.alloc (.cells #[S (R c.low.x), S (R c.low.y), S (R c.high.x), S (R c.high.y), .int .i64 (c.W : Nat), .int .i64 (c.H : Nat)] 35)).alloc (.cells #[S t.fx, S t.fy, S t.tx, S t.ty] 31) := ⟨_, rfl⟩
  rw [← hW] at e2
  have hsz : W.heap.size = w.heap.size + 1 + 1 := by rw [hW]; simp
  have op := open2_c c hc (t.fx, t.fy) (t.tx, t.ty) false (by simp only [Bool.false_eq_true, false_iff]; exact hbad) hsh W (hw.ext e2)
  rw [chkV_f] at op
  obtain ⟨V, hV⟩ : ∃ V, V = W.alloc (.cells #[S t.fx, S t.fy, S t.tx, S t.ty] 29) := ⟨_, rfl⟩
  rw [← hV, hsz] at op
  have hE : Ext w V := by rw [hV]; exact e2.alloc _
  unfold cvV at op
  unfold cvV stV
  rw [hW] at hV
  clear hc hbad hsh hsz hW e2
  go_enter Tryz.func12, Tryz.ntmps12
  go_wp2_with fail
  rw [← hV]
  clear hV
  ((with_reducible refine op.mono ?_); rintro e w1 ⟨rfl, hx⟩)
  replace hE := hE.trans hx
  go_wp2
  go_ret2
  exact ⟨rfl, hE⟩
set_option maxRecDepth 100000 in
set_option maxHeartbeats 2000000 in
theorem Line_none (c : Cv) (hc : CvS c) (s : Sg) {a : Nat} (hs : SzS a s) (ha : 0 < a) (ha2 : a ≤ 200) (hn : clipR c s = none) (w : World) (hw : Okw w) :
    Calls Tryz.prog 12 #[cvV c, sgV s] w (RetDots [] w) := by
  have e2 := ((Ext.refl w).alloc (.cells #[S (R c.low.x), S (R c.low.y), S (R c.high.x), S (R c.high.y), .int .i64 (c.W : Nat), .int .i64 (c.H : Nat)] 35)).alloc (.cells #[S (R s.a.x), S (R s.a.y), S (R s.b.x), S (R s.b.y)] 31)
  obtain ⟨W, hW⟩ : ∃ W, W = (w.alloc (.cells #[S (R c.low.x), S (R c.low.y), S (R c.high.x), S (R c.high.y), .int .i64 (c.W : Nat), .int .i64 (c.H : Nat)] 35)).alloc (.cells #[S (R s.a.x), S (R s.a.y), S (R s.b.x), S (R s.b.y)] 31) := ⟨_, rfl⟩
  rw [← hW] at e2
  have hsz : W.heap.size = w.heap.size + 1 + 1 := by rw [hW]; simp
  have hz : ∀ p ∈ [s.a, s.b], SzP a p := by
    intro p hp
    simp only [List.mem_cons, List.not_mem_nil, or_false] at hp
    rcases hp with rfl | rfl
    · exact hs.a
    · exact hs.b
  have op := open2_c c hc (ptT s.a) (ptT s.b) true (by simp only [true_iff]; exact okPts_pts hz ha ha2) (shortPts_pts hz ha ha2) W (hw.ext e2)
  unfold ptT at op
  rw [chkV_t] at op
  have hbc : W.heap[w.heap.size]? = some (.cells #[S (R c.low.x), S (R c.low.y), S (R c.high.x), S (R c.high.y), .int .i64 (c.W : Nat), .int .i64 (c.H : Nat)] 35) := by rw [hW]; exact (Below.heap_alloc _ _ _ (by simp)).trans (heap_alloc_new w _)
  have hbs : W.heap[w.heap.size + 1]? = some (.cells #[S (R s.a.x), S (R s.a.y), S (R s.b.x), S (R s.b.y)] 31) := by
    rw [hW]
    have h := heap_alloc_new (w.alloc (.cells #[S (R c.low.x), S (R c.low.y), S (R c.high.x), S (R c.high.y), .int .i64 (c.W : Nat), .int .i64 (c.H : Nat)] 35)) (.cells #[S (R s.a.x), S (R s.a.y), S (R s.b.x), S (R s.b.y)] 31)
    rwa [World.size_alloc] at h
  obtain ⟨V, hV⟩ : ∃ V, V = W.alloc (.cells #[S (R s.a.x), S (R s.a.y), S (R s.b.x), S (R s.b.y)] 29) := ⟨_, rfl⟩
  rw [← hV, hsz] at op
  have hEV : Ext W V := by rw [hV]; exact (Ext.refl W).alloc _
  have hE := e2.trans hEV
  have hC := (BoxC.of hbc).ext hEV
  have hS := (BoxS.mk (s := s) (cell_of_blk hbs rfl) (cell_of_blk hbs rfl) (cell_of_blk hbs rfl) (cell_of_blk hbs rfl)).ext hEV
  have ln := line_none c hc s hs ha ha2 hn
  unfold cvV at op
  unfold cvV sgV at ln
  unfold cvV sgV
  rw [hW] at hV
  clear hc hs hz hn hsz hW e2 hbc hbs hEV
  go_enter Tryz.func12, Tryz.ntmps12
  go_wp2_with fail
  rw [← hV]
  clear hV
  ((with_reducible refine op.mono ?_); rintro e w1 ⟨rfl, hx⟩)
  replace hE := hE.trans hx
  obtain ⟨q1, q2, q3, q4, q5, q6⟩ := hC.ext hx
  obtain ⟨k1, k2, k3, k4⟩ := hS.ext hx
  clear hC hS op hx
  go_wp2_with fail
  ((with_reducible refine (ln _ (hw.ext hE)).mono ?_); rintro e w2 ⟨A, k, rfl, hrd, hk1, hk2, hx⟩)
  go_wp2
  go_ret2
  exact ⟨A, k, rfl, hrd, hk1, hk2, hE.trans hx⟩
set_option maxRecDepth 100000 in
set_option maxHeartbeats 2000000 in
theorem Line_some (c : Cv) (hc : CvS c) (s : Sg) {a : Nat} (hs : SzS a s) (ha : 0 < a) (ha2 : a ≤ 200) (p : Sg) (hn : clipR c s = some p) (w : World) (hw : Okw w) :
    Calls Tryz.prog 12 #[cvV c, sgV s] w (RetDots (dots c p) w) := by
  have e2 := ((Ext.refl w).alloc (.cells #[S (R c.low.x), S (R c.low.y), S (R c.high.x), S (R c.high.y), .int .i64 (c.W : Nat), .int .i64 (c.H : Nat)] 35)).alloc (.cells #[S (R s.a.x), S (R s.a.y), S (R s.b.x), S (R s.b.y)] 31)
  obtain ⟨W, hW⟩ : ∃ W, W = (w.alloc (.cells #[S (R c.low.x), S (R c.low.y), S (R c.high.x), S (R c.high.y), .int .i64 (c.W : Nat), .int .i64 (c.H : Nat)] 35)).alloc (.cells #[S (R s.a.x), S (R s.a.y), S (R s.b.x), S (R s.b.y)] 31) := ⟨_, rfl⟩
  rw [← hW] at e2
  have hsz : W.heap.size = w.heap.size + 1 + 1 := by rw [hW]; simp
  have hz : ∀ p ∈ [s.a, s.b], SzP a p := by
    intro p hp
    simp only [List.mem_cons, List.not_mem_nil, or_false] at hp
    rcases hp with rfl | rfl
    · exact hs.a
    · exact hs.b
  have op := open2_c c hc (ptT s.a) (ptT s.b) true (by simp only [true_iff]; exact okPts_pts hz ha ha2) (shortPts_pts hz ha ha2) W (hw.ext e2)
  unfold ptT at op
  rw [chkV_t] at op
  have hbc : W.heap[w.heap.size]? = some (.cells #[S (R c.low.x), S (R c.low.y), S (R c.high.x), S (R c.high.y), .int .i64 (c.W : Nat), .int .i64 (c.H : Nat)] 35) := by rw [hW]; exact (Below.heap_alloc _ _ _ (by simp)).trans (heap_alloc_new w _)
  have hbs : W.heap[w.heap.size + 1]? = some (.cells #[S (R s.a.x), S (R s.a.y), S (R s.b.x), S (R s.b.y)] 31) := by
    rw [hW]
    have h := heap_alloc_new (w.alloc (.cells #[S (R c.low.x), S (R c.low.y), S (R c.high.x), S (R c.high.y), .int .i64 (c.W : Nat), .int .i64 (c.H : Nat)] 35)) (.cells #[S (R s.a.x), S (R s.a.y), S (R s.b.x), S (R s.b.y)] 31)
    rwa [World.size_alloc] at h
  obtain ⟨V, hV⟩ : ∃ V, V = W.alloc (.cells #[S (R s.a.x), S (R s.a.y), S (R s.b.x), S (R s.b.y)] 29) := ⟨_, rfl⟩
  rw [← hV, hsz] at op
  have hEV : Ext W V := by rw [hV]; exact (Ext.refl W).alloc _
  have hE := e2.trans hEV
  have hC := (BoxC.of hbc).ext hEV
  have hS := (BoxS.mk (s := s) (cell_of_blk hbs rfl) (cell_of_blk hbs rfl) (cell_of_blk hbs rfl) (cell_of_blk hbs rfl)).ext hEV
  have ln := line_some c hc s p hs ha ha2 hn
  unfold cvV at op
  unfold cvV sgV at ln
  unfold cvV sgV
  rw [hW] at hV
  clear hc hs hz hn hsz hW e2 hbc hbs hEV
  go_enter Tryz.func12, Tryz.ntmps12
  go_wp2_with fail
  rw [← hV]
  clear hV
  ((with_reducible refine op.mono ?_); rintro e w1 ⟨rfl, hx⟩)
  replace hE := hE.trans hx
  obtain ⟨q1, q2, q3, q4, q5, q6⟩ := hC.ext hx
  obtain ⟨k1, k2, k3, k4⟩ := hS.ext hx
  clear hC hS op hx
  go_wp2_with fail
  ((with_reducible refine (ln _ (hw.ext hE)).mono ?_); rintro e w2 ⟨A, k, rfl, hrd, hk1, hk2, hx⟩)
  go_wp2
  go_ret2
  exact ⟨A, k, rfl, hrd, hk1, hk2, hE.trans hx⟩
end Go.Proofs.YtblijhokcjpeeaaGreatDoor
namespace Go.Proofs.YtblijhokcjpeeaaGreatDoor
open Go.RowKit Kl

def longP (p : Bs × Bs) : Bool := decide ((20 : Int) < (p.1.length : Int)) || decide ((20 : Int) < (p.2.length : Int))
set_option maxHeartbeats 1000000 in
theorem brief1_c (x y : Bs) (w : World) : Calls Tryz.prog 26 #[.agg #[S x, S y]] w (RetB (longP (x, y)) w) := by
  obtain ⟨b, hb⟩ : ∃ b, b = longP (x, y) := ⟨_, rfl⟩
  rw [← hb]
  have HB := Lib.hid hb
  clear hb
  by_cases h1 : (20 : Int) < (x.length : Int)
  · have hb : b = true := by rw [HB.out]; unfold longP; rw [decide_eq_true h1]; rfl
    subst hb
    go_enter Tryz.func26, Tryz.ntmps26
    go_wp2
    go_ret
    exact ⟨rfl, (Ext.refl w).alloc _⟩
  · have d1 : decide ((20 : Int) < (x.length : Int)) = false := decide_eq_false h1
    by_cases h2 : (20 : Int) < (y.length : Int)
    · have d2 : decide ((20 : Int) < (y.length : Int)) = true := decide_eq_true h2
      have hb : b = true := by rw [HB.out]; unfold longP; rw [d1, d2]; rfl
      subst hb
      clear h1
      go_enter Tryz.func26, Tryz.ntmps26
      go_wp2
      go_ret
      exact ⟨rfl, (Ext.refl w).alloc _⟩
    · have d2 : decide ((20 : Int) < (y.length : Int)) = false := decide_eq_false h2
      have hb : b = false := by rw [HB.out]; unfold longP; rw [d1, d2]; rfl
      subst hb
      clear h1 h2
      go_enter Tryz.func26, Tryz.ntmps26
      go_wp2
      go_ret
      exact ⟨rfl, (Ext.refl w).alloc _⟩
def RetIdx (l : List (Bs × Bs)) (w : World) (e : Ending) (w' : World) : Prop := ∃ k : Int, e = .returned (.int .i64 k) ∧ (0 ≤ k ↔ ∃ p ∈ l, longP p = true) ∧ Ext w w'
set_option maxRecDepth 100000 in
set_option maxHeartbeats 2000000 in
theorem indexBrief_c (l : List (Bs × Bs)) (A : Option Addr) (c : Nat) (w : World) (hr : RdC w A (flat l)) (hc : l.length ≤ c) (hcm : c ≤ 9223372036854775807) :
    Calls Tryz.prog 73 #[.slice A l.length c, .func (.func 26) #[] #[]] w (RetIdx l w) := by
  go_enter Tryz.func73, Tryz.ntmps73
  go_wp2
  go_loopw [8] (fun i wr => ∃ j : Nat, i = .int .i64 (j : Nat) ∧ j ≤ l.length ∧ (∀ p ∈ l.take j, longP p = false) ∧ Ext w wr) (fun i _ => l.length - (intOf i).toNat)
  case atStart => exact ⟨0, rfl, by omega, by simp, Ext.refl _⟩
  case round =>
    obtain ⟨j, rfl, hj, hok, hext⟩ := hrel
    have HO := Lib.hid hok
    clear hok
    by_cases hlt : j < l.length
    · obtain ⟨b, o, rfl, hcs⟩ := (hr.ext hext).ad (by rw [flat_length]; omega)
      obtain ⟨f1, f2⟩ := flat_get l j hlt
      have hg1 := hcs (j * 2) (by rw [flat_length]; omega)
      have hg2 := hcs (j * 2 + 1) (by rw [flat_length]; omega)
      rw [List.getElem?_eq_getElem (by rw [flat_length]; omega), Option.some.injEq] at f1 f2
      rw [f1] at hg1
      rw [f2, ← Nat.add_assoc] at hg2
      clear hcs f1 f2
      obtain ⟨p, hp⟩ : ∃ p, p = l[j] := ⟨_, rfl⟩
      rw [← hp] at hg1 hg2
      have hmem : p ∈ l := by rw [hp]; exact List.getElem_mem hlt
      obtain ⟨x, y⟩ := p
      have HX := Lib.hid hp
      clear hp
      have hj0 : (0 : Int) ≤ (j : Int) := by omega
      have hjl : (j : Int) < (l.length : Int) := by omega
      have bf := brief1_c x y wr
      cases hL : longP (x, y)
      · rw [hL] at bf
        have HLL := Lib.hid hL
        clear hL
        go_wp2_with fail
        ((with_reducible refine bf.mono ?_); rintro e w2 ⟨rfl, hx2⟩)
        go_wp2
        go_roundw
        case rel =>
          refine ⟨j + 1, by go_num, hlt, ?_, hext.trans hx2⟩
          intro q hq
          rw [List.take_succ_eq_append_getElem hlt, ← HX.out] at hq
          rcases List.mem_append.1 hq with h | h
          · exact HO.out q h
          · simp only [List.mem_singleton] at h; rw [h]; exact HLL.out
        case measure => simp [intOf]; omega
      · rw [hL] at bf
        have HLL := Lib.hid hL
        clear hL
        have hR : Hid (RetIdx l w (.returned (.int .i64 (j : Nat))) = RetIdx l w (.returned (.int .i64 (j : Nat)))) := Lib.hid rfl
        go_wp2_with fail
        ((with_reducible refine bf.mono ?_); rintro e w2 ⟨rfl, hx2⟩)
        go_wp2
        go_ret
        exact ⟨j, rfl, ⟨fun _ => ⟨_, hmem, HLL.out⟩, fun _ => by omega⟩, hext.trans hx2⟩
    · have hle : (l.length : Int) ≤ (j : Int) := by omega
      go_wp2
      go_ret
      refine ⟨-1, rfl, ⟨fun h => by omega, ?_⟩, hext⟩
      rintro ⟨p, hp, h⟩
      have := HO.out p (by rw [List.take_of_length_le (by omega)]; exact hp)
      rw [this] at h; cases h
theorem brief_c (l : List (Bs × Bs)) (b : Bool) (hb : b = true ↔ ∀ p ∈ l, longP p = false) (A : Option Addr) (c : Nat) (w : World) (hr : RdC w A (flat l)) (hc : l.length ≤ c) (hcm : c ≤ 9223372036854775807) :
    Calls Tryz.prog 8 #[.slice A l.length c] w (RetB b w) := by
  have hI : ∀ w, RdC w A (flat l) → Calls Tryz.prog 25 #[.slice A l.length c, .func (.func 26) #[] #[]] w (RetB (!b) w) := by
    intro w hr
    have ix := indexBrief_c l A c w hr hc hcm
    have HB := Lib.hid hb
    clear hb hr
    go_enter Tryz.func25, Tryz.ntmps25
    go_wp2_with fail
    ((with_reducible refine ix.mono ?_); rintro e w2 ⟨k, rfl, hk, hx⟩)
    have HK := Lib.hid hk
    clear hk
    go_wp2
    go_ret
    refine ⟨?_, hx⟩
    have e : decide (0 ≤ k) = !b := by
      cases b
      · rw [Bool.not_false, decide_eq_true_eq, HK.out]
        refine Classical.byContradiction fun h => ?_
        have := HB.out.2 fun p hp => by
          cases h1 : longP p
          · rfl
          · exact absurd ⟨p, hp, h1⟩ h
        cases this
      · rw [Bool.not_true, decide_eq_false_iff_not, HK.out]
        rintro ⟨p, hp, h⟩
        have := HB.out.1 rfl p hp
        rw [this] at h; cases h
    rw [← e]; rfl
  have hI := hI w hr
  clear hb hr
  go_enter Tryz.func8, Tryz.ntmps8
  go_wp2_with fail
  ((with_reducible refine hI.mono ?_); rintro e w2 ⟨rfl, hx⟩)
  go_wp2
  go_ret
  exact ⟨by simp, hx⟩
end Go.Proofs.YtblijhokcjpeeaaGreatDoor
