/- DrawingErrors: the law's check. -/
import Derived.Test.YtblijhokcjpeeaaGreatDoorNZ
import Derived.Test.YtblijhokcjpeeaaGreatDoorMO
import Derived.Test.YtblijhokcjpeeaaGreatDoorED
/- DrawingErrors: drawing.Check and the law's check at any canvas whose numbers are short. -/
namespace Go.Proofs.YtblijhokcjpeeaaGreatDoor
open Go.RowKit Kl

/-- A canvas as four texts and two numbers. -/
structure CvT where
  lx : Bs
  ly : Bs
  hx : Bs
  hy : Bs
  W : Int
  H : Int
def ctV (c : CvT) : Value := .agg #[S c.lx, S c.ly, S c.hx, S c.hy, .int .i64 c.W, .int .i64 c.H]
def CvT.pts (c : CvT) : List (Bs × Bs) := [(c.lx, c.ly), (c.hx, c.hy)]
structure BoxT (W : World) (b : Nat) (c : CvT) : Prop where
  k1 : W.cell? ⟨b, 0, none⟩ = some (S c.lx)
  k2 : W.cell? ⟨b, 1, none⟩ = some (S c.ly)
  k3 : W.cell? ⟨b, 2, none⟩ = some (S c.hx)
  k4 : W.cell? ⟨b, 3, none⟩ = some (S c.hy)
  k5 : W.cell? ⟨b, 4, none⟩ = some (.int .i64 c.W)
  k6 : W.cell? ⟨b, 5, none⟩ = some (.int .i64 c.H)
theorem BoxT.ext {W V : World} {b : Nat} {c : CvT} (h : BoxT W b c) (hx : Ext W V) : BoxT V b c :=
  ⟨hx.cellS h.k1, hx.cellS h.k2, hx.cellS h.k3, hx.cellS h.k4, hx.cellS h.k5, hx.cellS h.k6⟩
theorem BoxT.of {W : World} {b : Nat} {c : CvT} {t : TypeId} (h : W.heap[b]? = some (.cells #[S c.lx, S c.ly, S c.hx, S c.hy, .int .i64 c.W, .int .i64 c.H] t)) : BoxT W b c :=
  ⟨cell_of_blk h rfl, cell_of_blk h rfl, cell_of_blk h rfl, cell_of_blk h rfl, cell_of_blk h rfl, cell_of_blk h rfl⟩
/-- The sides of a canvas are out of range. -/
def badSide (c : CvT) : Bool := decide (c.W < 1) || decide (2000 < c.W) || decide (c.H < 1) || decide (2000 < c.H)
/-- The numbers of a canvas's corners, right and short. -/
structure NumT (c : CvT) (a b p q : Rat) : Prop where
  ex : c.lx = R a
  ey : c.ly = R b
  fx : c.hx = R p
  fy : c.hy = R q
  za : Sz 20 a
  zb : Sz 20 b
  zp : Sz 20 p
  zq : Sz 20 q
/-- The error of a canvas. -/
inductive CanvasE (c : CvT) : Int → Prop where
  | number (h : ¬ okPts c.pts) : CanvasE c 2
  | orderX {a b p q : Rat} (n : NumT c a b p q) (h : p ≤ a) : CanvasE c 6
  | orderY {a b p q : Rat} (n : NumT c a b p q) (h1 : a < p) (h2 : q ≤ b) : CanvasE c 6
  | side {a b p q : Rat} (n : NumT c a b p q) (h1 : a < p) (h2 : b < q) (h : badSide c = true) : CanvasE c 3
  | ok {a b p q : Rat} (n : NumT c a b p q) (h1 : a < p) (h2 : b < q) (h : badSide c = false) : CanvasE c 0
theorem canvasE_of (c : CvT) (hb : ∀ p ∈ c.pts, longP p = false) : ∃ e, CanvasE c e := by
  by_cases h : okPts c.pts
  · have h1 := h (c.lx, c.ly) (by simp [CvT.pts])
    have h2 := h (c.hx, c.hy) (by simp [CvT.pts])
    have b1 := longP_no (hb (c.lx, c.ly) (by simp [CvT.pts]))
    have b2 := longP_no (hb (c.hx, c.hy) (by simp [CvT.pts]))
    obtain ⟨q1, e1, z1⟩ := okR_short h1.1 b1.1
    obtain ⟨q2, e2, z2⟩ := okR_short h1.2 b1.2
    obtain ⟨q3, e3, z3⟩ := okR_short h2.1 b2.1
    obtain ⟨q4, e4, z4⟩ := okR_short h2.2 b2.2
    have n : NumT c q1 q2 q3 q4 := ⟨e1, e2, e3, e4, z1, z2, z3, z4⟩
    by_cases g1 : q1 < q3
    · by_cases g2 : q2 < q4
      · cases g3 : badSide c
        · exact ⟨_, .ok n g1 g2 g3⟩
        · exact ⟨_, .side n g1 g2 g3⟩
      · exact ⟨_, .orderY n g1 (Rat.not_lt.1 g2)⟩
    · exact ⟨_, .orderX n (Rat.not_lt.1 g1)⟩
  · exact ⟨_, .number h⟩
theorem shortT {c : CvT} (hb : ∀ p ∈ c.pts, longP p = false) : shortPts c.pts := fun p hp => by have := longP_no (hb p hp); omega
/-- What the drawing of a canvas's check tells. -/
def ckC (e : Int) (c : CvT) : Prop := ∀ w, Okw w → Calls Tryz.prog 29 #[ctV c] w (RetI e w)
def ckL (e : Int) (c : CvT) : Prop := ∀ w, Okw w → Calls Tryz.prog 20 #[ctV c] w (RetI e w)
theorem cmpR_nn {p q : Rat} (h : q ≤ p) : 0 ≤ cmpR p q := by
  unfold cmpR
  rw [if_neg (Rat.not_lt.2 h)]
  split <;> omega

set_option maxRecDepth 100000 in
set_option maxHeartbeats 2000000 in
theorem dCheck_number (c : CvT) (h : ¬ okPts c.pts) (hs : shortPts c.pts) : ckC 2 c := by
  intro w hw
  have e1 := (Ext.refl w).alloc (.cells #[S c.lx, S c.ly, S c.hx, S c.hy, .int .i64 c.W, .int .i64 c.H] 35)
  have pc := points2_c (c.lx, c.ly) (c.hx, c.hy) false (by simp only [Bool.false_eq_true, false_iff]; exact h) hs _ (hw.ext e1)
  simp only [World.size_alloc] at pc
  rw [chkV_f] at pc
  have e2 := e1.alloc (.cells #[S c.lx, S c.ly, S c.hx, S c.hy] 29)
  unfold ctV
  clear h hs
  go_enter Tryz.func29, Tryz.ntmps29
  go_wp2_with fail
  ((with_reducible refine pc.mono ?_); rintro e w1 ⟨rfl, hx⟩)
  have hE := e2.trans hx
  go_wp2
  go_ret
  exact ⟨rfl, hE⟩
theorem NumT.okp {c : CvT} {a b p q : Rat} (n : NumT c a b p q) : okPts c.pts := by
  intro r hr
  simp only [CvT.pts, List.mem_cons, List.not_mem_nil, or_false] at hr
  rcases hr with rfl | rfl
  · exact ⟨by rw [n.ex]; exact okR_sz n.za (by omega) (by omega), by rw [n.ey]; exact okR_sz n.zb (by omega) (by omega)⟩
  · exact ⟨by rw [n.fx]; exact okR_sz n.zp (by omega) (by omega), by rw [n.fy]; exact okR_sz n.zq (by omega) (by omega)⟩
theorem NumT.sh {c : CvT} {a b p q : Rat} (n : NumT c a b p q) : shortPts c.pts := by
  intro r hr
  simp only [CvT.pts, List.mem_cons, List.not_mem_nil, or_false] at hr
  rcases hr with rfl | rfl
  · exact ⟨by rw [n.ex]; exact szl n.za (by omega) (by omega), by rw [n.ey]; exact szl n.zb (by omega) (by omega)⟩
  · exact ⟨by rw [n.fx]; exact szl n.zp (by omega) (by omega), by rw [n.fy]; exact szl n.zq (by omega) (by omega)⟩
set_option maxRecDepth 100000 in
set_option maxHeartbeats 2000000 in
theorem dCheck_orderX (c : CvT) {a b p q : Rat} (n : NumT c a b p q) (h : p ≤ a) : ckC 6 c := by
  intro w hw
  have e1 := (Ext.refl w).alloc (.cells #[S c.lx, S c.ly, S c.hx, S c.hy, .int .i64 c.W, .int .i64 c.H] 35)
  have pc := points2_c (c.lx, c.ly) (c.hx, c.hy) true (by simp only [true_iff]; exact n.okp) n.sh _ (hw.ext e1)
  simp only [World.size_alloc] at pc
  rw [chkV_t] at pc
  have c1 := rCompare_c a p (a := 20) (b := 20) ⟨n.za, n.zp, by omega, by omega, by omega⟩
  rw [← n.ex, ← n.fx] at c1
  have hz := cmpR_nn h
  obtain ⟨z, hzz⟩ : ∃ z, z = cmpR a p := ⟨_, rfl⟩
  rw [← hzz] at c1 hz
  have hb0 := heap_alloc_new w (.cells #[S c.lx, S c.ly, S c.hx, S c.hy, .int .i64 c.W, .int .i64 c.H] 35)
  have e2 := e1.alloc (.cells #[S c.lx, S c.ly, S c.hx, S c.hy] 29)
  have C0 := (BoxT.of hb0).ext ((Ext.refl _).alloc (.cells #[S c.lx, S c.ly, S c.hx, S c.hy] 29))
  unfold ctV
  clear hb0 n h hzz
  go_enter Tryz.func29, Tryz.ntmps29
  go_wp2_with fail
  ((with_reducible refine pc.mono ?_); rintro e w1 ⟨rfl, hx⟩)
  have hE := e2.trans hx
  have C1 := C0.ext hx
  clear C0 hx e1 e2
  obtain ⟨k1, k2, k3, k4, k5, k6⟩ := C1
  go_wp2_with fail
  ((with_reducible refine (c1 _ (hw.ext hE)).mono ?_); rintro e w2 ⟨rfl, hx⟩)
  replace hE := hE.trans hx
  go_wp2
  go_ret
  exact ⟨rfl, hE⟩
set_option maxRecDepth 100000 in
set_option maxHeartbeats 2000000 in
theorem dCheck_orderY (c : CvT) {a b p q : Rat} (n : NumT c a b p q) (h1 : a < p) (h : q ≤ b) : ckC 6 c := by
  intro w hw
  have e1 := (Ext.refl w).alloc (.cells #[S c.lx, S c.ly, S c.hx, S c.hy, .int .i64 c.W, .int .i64 c.H] 35)
  have pc := points2_c (c.lx, c.ly) (c.hx, c.hy) true (by simp only [true_iff]; exact n.okp) n.sh _ (hw.ext e1)
  simp only [World.size_alloc] at pc
  rw [chkV_t] at pc
  have c1 := rCompare_c a p (a := 20) (b := 20) ⟨n.za, n.zp, by omega, by omega, by omega⟩
  have c2 := rCompare_c b q (a := 20) (b := 20) ⟨n.zb, n.zq, by omega, by omega, by omega⟩
  rw [← n.ex, ← n.fx, cmpR_lt h1] at c1
  rw [← n.ey, ← n.fy] at c2
  have hz := cmpR_nn h
  obtain ⟨z, hzz⟩ : ∃ z, z = cmpR b q := ⟨_, rfl⟩
  rw [← hzz] at c2 hz
  have hb0 := heap_alloc_new w (.cells #[S c.lx, S c.ly, S c.hx, S c.hy, .int .i64 c.W, .int .i64 c.H] 35)
  have e2 := e1.alloc (.cells #[S c.lx, S c.ly, S c.hx, S c.hy] 29)
  have C0 := (BoxT.of hb0).ext ((Ext.refl _).alloc (.cells #[S c.lx, S c.ly, S c.hx, S c.hy] 29))
  unfold ctV
  clear hb0 n h h1 hzz
  go_enter Tryz.func29, Tryz.ntmps29
  go_wp2_with fail
  ((with_reducible refine pc.mono ?_); rintro e w1 ⟨rfl, hx⟩)
  have hE := e2.trans hx
  have C1 := C0.ext hx
  clear C0 hx e1 e2
  obtain ⟨k1, k2, k3, k4, k5, k6⟩ := C1
  go_wp2_with fail
  ((with_reducible refine (c1 _ (hw.ext hE)).mono ?_); rintro e w2 ⟨rfl, hx⟩)
  obtain ⟨q1, q2, q3, q4, q5, q6⟩ := (BoxT.mk k1 k2 k3 k4 k5 k6).ext hx
  replace hE := hE.trans hx
  clear k1 k2 k3 k4 k5 k6
  go_wp2_with fail
  ((with_reducible refine (c2 _ (hw.ext hE)).mono ?_); rintro e w3 ⟨rfl, hx2⟩)
  replace hE := hE.trans hx2
  go_wp2
  go_ret
  exact ⟨rfl, hE⟩
def sideE (b : Bool) : Int := if b then 3 else 0
theorem sideE_t : sideE true = 3 := rfl
theorem sideE_f : sideE false = 0 := rfl
/-- The ways through the four tests of the sides. -/
theorem side_cases (c : CvT) : (decide (c.W < 1) = true ∧ badSide c = true) ∨ (decide (c.W < 1) = false ∧ decide (2000 < c.W) = true ∧ badSide c = true) ∨ (decide (c.W < 1) = false ∧ decide (2000 < c.W) = false ∧ decide (c.H < 1) = true ∧ badSide c = true)
    ∨ (decide (c.W < 1) = false ∧ decide (2000 < c.W) = false ∧ decide (c.H < 1) = false ∧ decide (2000 < c.H) = badSide c) := by
  unfold badSide
  cases decide (c.W < 1) <;> cases decide (2000 < c.W) <;> cases decide (c.H < 1) <;> cases decide (2000 < c.H) <;> simp
set_option maxRecDepth 100000 in
set_option maxHeartbeats 8000000 in
theorem dCheck_side (c : CvT) {a b p q : Rat} (n : NumT c a b p q) (h1 : a < p) (h2 : b < q) : ckC (sideE (badSide c)) c := by
  intro w hw
  obtain ⟨z, hz⟩ : ∃ z, z = sideE (badSide c) := ⟨_, rfl⟩
  rw [← hz]
  have HZ := Lib.hid hz
  clear hz
  have e1 := (Ext.refl w).alloc (.cells #[S c.lx, S c.ly, S c.hx, S c.hy, .int .i64 c.W, .int .i64 c.H] 35)
  have pc := points2_c (c.lx, c.ly) (c.hx, c.hy) true (by simp only [true_iff]; exact n.okp) n.sh _ (hw.ext e1)
  simp only [World.size_alloc] at pc
  rw [chkV_t] at pc
  have c1 := rCompare_c a p (a := 20) (b := 20) ⟨n.za, n.zp, by omega, by omega, by omega⟩
  have c2 := rCompare_c b q (a := 20) (b := 20) ⟨n.zb, n.zq, by omega, by omega, by omega⟩
  rw [← n.ex, ← n.fx, cmpR_lt h1] at c1
  rw [← n.ey, ← n.fy, cmpR_lt h2] at c2
  have hb0 := heap_alloc_new w (.cells #[S c.lx, S c.ly, S c.hx, S c.hy, .int .i64 c.W, .int .i64 c.H] 35)
  have e2 := e1.alloc (.cells #[S c.lx, S c.ly, S c.hx, S c.hy] 29)
  have C0 := (BoxT.of hb0).ext ((Ext.refl _).alloc (.cells #[S c.lx, S c.ly, S c.hx, S c.hy] 29))
  have hsc := side_cases c
  unfold ctV
  obtain ⟨cW, hcW⟩ : ∃ x, x = c.W := ⟨_, rfl⟩
  obtain ⟨cH, hcH⟩ : ∃ x, x = c.H := ⟨_, rfl⟩
  clear hb0 n h1 h2 hcW hcH
  go_enter Tryz.func29, Tryz.ntmps29
  go_wp2_with fail
  ((with_reducible refine pc.mono ?_); rintro e w1 ⟨rfl, hx⟩)
  have hE := e2.trans hx
  have C1 := C0.ext hx
  clear C0 hx e1 e2
  obtain ⟨k1, k2, k3, k4, k5, k6⟩ := C1
  go_wp2_with fail
  ((with_reducible refine (c1 _ (hw.ext hE)).mono ?_); rintro e w2 ⟨rfl, hx⟩)
  obtain ⟨q1, q2, q3, q4, q5, q6⟩ := (BoxT.mk k1 k2 k3 k4 k5 k6).ext hx
  replace hE := hE.trans hx
  clear k1 k2 k3 k4 k5 k6 hx
  go_wp2_with fail
  ((with_reducible refine (c2 _ (hw.ext hE)).mono ?_); rintro e w3 ⟨rfl, hx2⟩)
  obtain ⟨s1, s2, s3, s4, s5, s6⟩ := (BoxT.mk q1 q2 q3 q4 q5 q6).ext hx2
  replace hE := hE.trans hx2
  clear q1 q2 q3 q4 q5 q6 hx2
  rcases hsc with ⟨d1, hB⟩ | ⟨d1, d2, hB⟩ | ⟨d1, d2, d3, hB⟩ | ⟨d1, d2, d3, hB⟩
  · have HB := Lib.hid hB
    clear hB
    go_wp2
    go_ret
    exact ⟨by rw [HZ.out, HB.out, sideE_t]; rfl, hE⟩
  · have HB := Lib.hid hB
    clear hB
    go_wp2
    go_ret
    exact ⟨by rw [HZ.out, HB.out, sideE_t]; rfl, hE⟩
  · have HB := Lib.hid hB
    clear hB
    go_wp2
    go_ret
    exact ⟨by rw [HZ.out, HB.out, sideE_t]; rfl, hE⟩
  · cases hb : badSide c <;> rw [hb] at hB
    · have HB := Lib.hid hb
      clear hb
      go_wp2
      go_ret
      exact ⟨by rw [HZ.out, HB.out, sideE_f]; rfl, hE⟩
    · have HB := Lib.hid hb
      clear hb
      go_wp2
      go_ret
      exact ⟨by rw [HZ.out, HB.out, sideE_t]; rfl, hE⟩
theorem dCheck_any {c : CvT} {e : Int} (h : CanvasE c e) (hs : shortPts c.pts) : ckC e c := by
  cases h with
  | number h => exact dCheck_number c h hs
  | orderX n h => exact dCheck_orderX c n h
  | orderY n h1 h2 => exact dCheck_orderY c n h1 h2
  | side n h1 h2 h => have := dCheck_side c n h1 h2; rw [h] at this; exact this
  | ok n h1 h2 h => have := dCheck_side c n h1 h2; rw [h] at this; exact this
end Go.Proofs.YtblijhokcjpeeaaGreatDoor
/- DrawingErrors: Clip, Line, Path, Edges and Picture at a canvas with an error. -/
namespace Go.Proofs.YtblijhokcjpeeaaGreatDoor
open Go.RowKit Kl

set_option maxRecDepth 100000 in
set_option maxHeartbeats 2000000 in
theorem open_err {c : CvT} {z : Int} (hc : ckC z c) (hz : z ≠ 0) (A : Option Addr) (n cap : Nat) (w : World) (hw : Okw w) :
    Calls Tryz.prog 32 #[ctV c, .slice A n cap] w (RetI z w) := by
  have e1 := (Ext.refl w).alloc (.cells #[S c.lx, S c.ly, S c.hx, S c.hy, .int .i64 c.W, .int .i64 c.H] 35)
  have dc := hc _ (hw.ext e1)
  unfold ctV at dc ⊢
  clear hc
  go_enter Tryz.func32, Tryz.ntmps32
  go_wp2_with fail
  ((with_reducible refine dc.mono ?_); rintro e w1 ⟨rfl, hx⟩)
  have hE := e1.trans hx
  go_wp2
  go_ret
  exact ⟨rfl, hE⟩
set_option maxRecDepth 100000 in
set_option maxHeartbeats 2000000 in
theorem Clip_err {c : CvT} {z : Int} (hc : ckC z c) (hz : z ≠ 0) (t : SgT) (w : World) (hw : Okw w) :
    Calls Tryz.prog 11 #[ctV c, stV t] w (RetV (.tuple #[.agg #[S [], S [], S [], S []], .bool false, .int .i64 z]) w) := by
  obtain ⟨W, hW, hE, hb1, hb2, hb3⟩ := blk3 w (.cells #[S c.lx, S c.ly, S c.hx, S c.hy, .int .i64 c.W, .int .i64 c.H] 35) (.cells #[S t.fx, S t.fy, S t.tx, S t.ty] 31) (.cells #[S [], S [], S [], S []] 31)
  obtain ⟨V, hV⟩ : ∃ V, V = W.alloc (.cells #[S t.fx, S t.fy, S t.tx, S t.ty] 29) := ⟨_, rfl⟩
  have hEV : Ext W V := by rw [hV]; exact (Ext.refl W).alloc _
  have op := open_err hc hz (some ⟨w.heap.size + 1 + 1 + 1, 0, none⟩) 2 2 V (hw.ext (hE.trans hEV))
  have hZ := (hEV.block _ (lt_of_block hb3)).trans hb3
  have hE := hE.trans hEV
  unfold ctV at op
  unfold ctV stV
  rw [hW] at hV
  clear hc hb1 hb2 hb3 hEV hW
  go_enter Tryz.func11, Tryz.ntmps11
  go_wp2_with fail
  rw [show (⟨#[]⟩ : ByteArray) = ⟨([] : Bs).toArray⟩ from rfl, ← hV]
  clear hV
  ((with_reducible refine op.mono ?_); rintro e w1 ⟨rfl, hx⟩)
  replace hE := hE.trans hx
  replace hZ := (hx.block _ (lt_of_block hZ)).trans hZ
  have z0 := cell_of_blk (o := 0) hZ rfl
  have z1 := cell_of_blk (o := 1) hZ rfl
  have z2 := cell_of_blk (o := 2) hZ rfl
  have z3 := cell_of_blk (o := 3) hZ rfl
  have y0 := free_of_blk (o := 0) hZ
  have y1 := free_of_blk (o := 1) hZ
  have y2 := free_of_blk (o := 2) hZ
  have y3 := free_of_blk (o := 3) hZ
  obtain ⟨X, hX, x0, x1, x2, x3⟩ := set4 (S []) (S []) (S []) (S []) z0 z1 z2 z3
  go_wp2
  rw [show (⟨#[]⟩ : ByteArray) = ⟨([] : Bs).toArray⟩ from rfl, ← hX]
  refine bodyPost_ret (v := .tuple #[.agg #[S [], S [], S [], S []], .bool false, .int .i64 z]) (by simp [results, Tryz.results11, go_sem, x0, x1, x2, x3]) rfl ⟨rfl, ?_⟩
  rw [hX]
  exact (((hE.setCell (by show w.heap.size ≤ w.heap.size + 1 + 1; omega) _).setCell (by show w.heap.size ≤ w.heap.size + 1 + 1; omega) _).setCell (by show w.heap.size ≤ w.heap.size + 1 + 1; omega) _).setCell (by show w.heap.size ≤ w.heap.size + 1 + 1; omega) _
set_option maxRecDepth 100000 in
set_option maxHeartbeats 2000000 in
theorem Line_err {c : CvT} {z : Int} (hc : ckC z c) (hz : z ≠ 0) (t : SgT) (w : World) (hw : Okw w) :
    Calls Tryz.prog 12 #[ctV c, stV t] w (RetV (.tuple #[.slice none 0 0, .int .i64 z]) w) := by
  have e2 := ((Ext.refl w).alloc (.cells #[S c.lx, S c.ly, S c.hx, S c.hy, .int .i64 c.W, .int .i64 c.H] 35)).alloc (.cells #[S t.fx, S t.fy, S t.tx, S t.ty] 31)
  obtain ⟨W, hW⟩ : ∃ W, W = (w.alloc (.cells #[S c.lx, S c.ly, S c.hx, S c.hy, .int .i64 c.W, .int .i64 c.H] 35)).alloc (.cells #[S t.fx, S t.fy, S t.tx, S t.ty] 31) := ⟨_, rfl⟩
  rw [← hW] at e2
  obtain ⟨V, hV⟩ : ∃ V, V = W.alloc (.cells #[S t.fx, S t.fy, S t.tx, S t.ty] 29) := ⟨_, rfl⟩
  have hE : Ext w V := by rw [hV]; exact e2.alloc _
  have op := open_err hc hz (some ⟨w.heap.size + 1 + 1, 0, none⟩) 2 2 V (hw.ext hE)
  unfold ctV at op
  unfold ctV stV
  rw [hW] at hV
  clear hc hW e2
  go_enter Tryz.func12, Tryz.ntmps12
  go_wp2_with fail
  rw [← hV]
  clear hV
  ((with_reducible refine op.mono ?_); rintro e w1 ⟨rfl, hx⟩)
  replace hE := hE.trans hx
  go_wp2
  go_ret2
  exact ⟨rfl, hE⟩
set_option maxRecDepth 100000 in
set_option maxHeartbeats 4000000 in
theorem Path_err {c : CvT} {z : Int} (hc : ckC z c) (hz : z ≠ 0) (A : Option Addr) (n cap : Nat) (w : World) (hw : Okw w) :
    Calls Tryz.prog 18 #[ctV c, .slice A n cap] w (RetV (.tuple #[.slice none 0 0, .int .i64 z]) w) := by
  have e1 := (Ext.refl w).alloc (.cells #[S c.lx, S c.ly, S c.hx, S c.hy, .int .i64 c.W, .int .i64 c.H] 35)
  have ck := hc _ (hw.ext e1)
  unfold ctV at ck ⊢
  clear hc
  go_enter Tryz.func18, Tryz.ntmps18
  go_wp2_with fail
  ((with_reducible refine ck.mono ?_); rintro e w1 ⟨rfl, hx⟩)
  go_wp2
  go_ret2
  exact ⟨rfl, e1.trans hx⟩
set_option maxRecDepth 100000 in
set_option maxHeartbeats 4000000 in
theorem Edges_err {c : CvT} {z : Int} (hc : ckC z c) (hz : z ≠ 0) (w : World) (hw : Okw w) :
    Calls Tryz.prog 22 #[ctV c, .agg #[.slice none 0 0, .slice none 0 0, .slice none 0 0]] w (RetV (.tuple #[.slice none 0 0, .int .i64 z]) w) := by
  have e1 := ((Ext.refl w).alloc (.cells #[S c.lx, S c.ly, S c.hx, S c.hy, .int .i64 c.W, .int .i64 c.H] 35)).alloc (.cells #[.slice none 0 0, .slice none 0 0, .slice none 0 0] 65)
  have ck := hc _ (hw.ext e1)
  unfold ctV at ck ⊢
  clear hc
  go_enter Tryz.func22, Tryz.ntmps22
  go_wp2_with fail
  ((with_reducible refine ck.mono ?_); rintro e w1 ⟨rfl, hx⟩)
  go_wp2
  go_ret2
  exact ⟨rfl, e1.trans hx⟩
set_option maxRecDepth 100000 in
set_option maxHeartbeats 4000000 in
theorem Picture_err {c : CvT} {z : Int} (hc : ckC z c) (hz : z ≠ 0) (w : World) (hw : Okw w) :
    Calls Tryz.prog 23 #[ctV c, .agg #[.slice none 0 0, .slice none 0 0, .slice none 0 0]] w (RetV (.tuple #[.slice none 0 0, .int .i64 z]) w) := by
  have e1 := ((Ext.refl w).alloc (.cells #[S c.lx, S c.ly, S c.hx, S c.hy, .int .i64 c.W, .int .i64 c.H] 35)).alloc (.cells #[.slice none 0 0, .slice none 0 0, .slice none 0 0] 65)
  have ck := hc _ (hw.ext e1)
  unfold ctV at ck ⊢
  clear hc
  go_enter Tryz.func23, Tryz.ntmps23
  go_wp2_with fail
  ((with_reducible refine ck.mono ?_); rintro e w1 ⟨rfl, hx⟩)
  go_wp2
  go_ret2
  exact ⟨rfl, e1.trans hx⟩
end Go.Proofs.YtblijhokcjpeeaaGreatDoor
namespace Go.Proofs.YtblijhokcjpeeaaGreatDoor
open Go.RowKit Kl

/-- right at two places, laid out in a block of their own. -/
theorem right2_c (p q : Bs × Bs) (ok : Bool) (hok : ok = true ↔ okPts [p, q]) (hsh : shortPts [p, q]) (w : World) (hw : Okw w) :
    Calls Tryz.prog 13 #[.slice (some ⟨w.heap.size, 0, none⟩) 2 2] (w.alloc (.cells #[S p.1, S p.2, S q.1, S q.2] 29)) (RetB ok (w.alloc (.cells #[S p.1, S p.2, S q.1, S q.2] 29))) :=
  right_c [p, q] ok (by rw [hok]; unfold okPts badP; simp) hsh _ 2 _ (hw.ext ((Ext.refl w).alloc _)) (RdC.lit w #[S p.1, S p.2, S q.1, S q.2] 29) (by simp) (by omega)
set_option maxRecDepth 100000 in
set_option maxHeartbeats 2000000 in
theorem lCheck_number (c : CvT) (h : ¬ okPts c.pts) (hs : shortPts c.pts) : ckL 2 c := by
  intro w hw
  have e1 := (Ext.refl w).alloc (.cells #[S c.lx, S c.ly, S c.hx, S c.hy, .int .i64 c.W, .int .i64 c.H] 35)
  have pc := right2_c (c.lx, c.ly) (c.hx, c.hy) false (by simp only [Bool.false_eq_true, false_iff]; exact h) hs _ (hw.ext e1)
  simp only [World.size_alloc] at pc
  have e2 := e1.alloc (.cells #[S c.lx, S c.ly, S c.hx, S c.hy] 29)
  unfold ctV
  clear h hs
  go_enter Tryz.func20, Tryz.ntmps20
  go_wp2_with fail
  ((with_reducible refine pc.mono ?_); rintro e w1 ⟨rfl, hx⟩)
  have hE := e2.trans hx
  go_wp2
  go_ret
  exact ⟨rfl, hE⟩
set_option maxRecDepth 100000 in
set_option maxHeartbeats 2000000 in
theorem lCheck_orderX (c : CvT) {a b p q : Rat} (n : NumT c a b p q) (h : p ≤ a) : ckL 6 c := by
  intro w hw
  have e1 := (Ext.refl w).alloc (.cells #[S c.lx, S c.ly, S c.hx, S c.hy, .int .i64 c.W, .int .i64 c.H] 35)
  have pc := right2_c (c.lx, c.ly) (c.hx, c.hy) true (by simp only [true_iff]; exact n.okp) n.sh _ (hw.ext e1)
  simp only [World.size_alloc] at pc
  have c1 := refCompare_c a p (a := 20) (b := 20) ⟨n.za, n.zp, by omega, by omega, by omega⟩
  rw [← n.ex, ← n.fx] at c1
  have hz := cmpR_nn h
  obtain ⟨z, hzz⟩ : ∃ z, z = cmpR a p := ⟨_, rfl⟩
  rw [← hzz] at c1 hz
  have hb0 := heap_alloc_new w (.cells #[S c.lx, S c.ly, S c.hx, S c.hy, .int .i64 c.W, .int .i64 c.H] 35)
  have e2 := e1.alloc (.cells #[S c.lx, S c.ly, S c.hx, S c.hy] 29)
  have C0 := (BoxT.of hb0).ext ((Ext.refl _).alloc (.cells #[S c.lx, S c.ly, S c.hx, S c.hy] 29))
  unfold ctV
  clear hb0 n h hzz
  go_enter Tryz.func20, Tryz.ntmps20
  go_wp2_with fail
  ((with_reducible refine pc.mono ?_); rintro e w1 ⟨rfl, hx⟩)
  have hE := e2.trans hx
  have C1 := C0.ext hx
  clear C0 hx e1 e2
  obtain ⟨k1, k2, k3, k4, k5, k6⟩ := C1
  go_wp2_with fail
  ((with_reducible refine (c1 _ (hw.ext hE)).mono ?_); rintro e w2 ⟨rfl, hx⟩)
  replace hE := hE.trans hx
  go_wp2
  go_ret
  exact ⟨rfl, hE⟩
set_option maxRecDepth 100000 in
set_option maxHeartbeats 2000000 in
theorem lCheck_orderY (c : CvT) {a b p q : Rat} (n : NumT c a b p q) (h1 : a < p) (h : q ≤ b) : ckL 6 c := by
  intro w hw
  have e1 := (Ext.refl w).alloc (.cells #[S c.lx, S c.ly, S c.hx, S c.hy, .int .i64 c.W, .int .i64 c.H] 35)
  have pc := right2_c (c.lx, c.ly) (c.hx, c.hy) true (by simp only [true_iff]; exact n.okp) n.sh _ (hw.ext e1)
  simp only [World.size_alloc] at pc
  have c1 := refCompare_c a p (a := 20) (b := 20) ⟨n.za, n.zp, by omega, by omega, by omega⟩
  have c2 := refCompare_c b q (a := 20) (b := 20) ⟨n.zb, n.zq, by omega, by omega, by omega⟩
  rw [← n.ex, ← n.fx, cmpR_lt h1] at c1
  rw [← n.ey, ← n.fy] at c2
  have hz := cmpR_nn h
  obtain ⟨z, hzz⟩ : ∃ z, z = cmpR b q := ⟨_, rfl⟩
  rw [← hzz] at c2 hz
  have hb0 := heap_alloc_new w (.cells #[S c.lx, S c.ly, S c.hx, S c.hy, .int .i64 c.W, .int .i64 c.H] 35)
  have e2 := e1.alloc (.cells #[S c.lx, S c.ly, S c.hx, S c.hy] 29)
  have C0 := (BoxT.of hb0).ext ((Ext.refl _).alloc (.cells #[S c.lx, S c.ly, S c.hx, S c.hy] 29))
  unfold ctV
  clear hb0 n h h1 hzz
  go_enter Tryz.func20, Tryz.ntmps20
  go_wp2_with fail
  ((with_reducible refine pc.mono ?_); rintro e w1 ⟨rfl, hx⟩)
  have hE := e2.trans hx
  have C1 := C0.ext hx
  clear C0 hx e1 e2
  obtain ⟨k1, k2, k3, k4, k5, k6⟩ := C1
  go_wp2_with fail
  ((with_reducible refine (c1 _ (hw.ext hE)).mono ?_); rintro e w2 ⟨rfl, hx⟩)
  obtain ⟨q1, q2, q3, q4, q5, q6⟩ := (BoxT.mk k1 k2 k3 k4 k5 k6).ext hx
  replace hE := hE.trans hx
  clear k1 k2 k3 k4 k5 k6
  go_wp2_with fail
  ((with_reducible refine (c2 _ (hw.ext hE)).mono ?_); rintro e w3 ⟨rfl, hx2⟩)
  replace hE := hE.trans hx2
  go_wp2
  go_ret
  exact ⟨rfl, hE⟩
set_option maxRecDepth 100000 in
set_option maxHeartbeats 8000000 in
theorem lCheck_side (c : CvT) {a b p q : Rat} (n : NumT c a b p q) (h1 : a < p) (h2 : b < q) : ckL (sideE (badSide c)) c := by
  intro w hw
  obtain ⟨z, hz⟩ : ∃ z, z = sideE (badSide c) := ⟨_, rfl⟩
  rw [← hz]
  have HZ := Lib.hid hz
  clear hz
  have e1 := (Ext.refl w).alloc (.cells #[S c.lx, S c.ly, S c.hx, S c.hy, .int .i64 c.W, .int .i64 c.H] 35)
  have pc := right2_c (c.lx, c.ly) (c.hx, c.hy) true (by simp only [true_iff]; exact n.okp) n.sh _ (hw.ext e1)
  simp only [World.size_alloc] at pc
  have c1 := refCompare_c a p (a := 20) (b := 20) ⟨n.za, n.zp, by omega, by omega, by omega⟩
  have c2 := refCompare_c b q (a := 20) (b := 20) ⟨n.zb, n.zq, by omega, by omega, by omega⟩
  rw [← n.ex, ← n.fx, cmpR_lt h1] at c1
  rw [← n.ey, ← n.fy, cmpR_lt h2] at c2
  have hb0 := heap_alloc_new w (.cells #[S c.lx, S c.ly, S c.hx, S c.hy, .int .i64 c.W, .int .i64 c.H] 35)
  have e2 := e1.alloc (.cells #[S c.lx, S c.ly, S c.hx, S c.hy] 29)
  have C0 := (BoxT.of hb0).ext ((Ext.refl _).alloc (.cells #[S c.lx, S c.ly, S c.hx, S c.hy] 29))
  have hsc := side_cases c
  unfold ctV
  obtain ⟨cW, hcW⟩ : ∃ x, x = c.W := ⟨_, rfl⟩
  obtain ⟨cH, hcH⟩ : ∃ x, x = c.H := ⟨_, rfl⟩
  clear hb0 n h1 h2 hcW hcH
  go_enter Tryz.func20, Tryz.ntmps20
  go_wp2_with fail
  ((with_reducible refine pc.mono ?_); rintro e w1 ⟨rfl, hx⟩)
  have hE := e2.trans hx
  have C1 := C0.ext hx
  clear C0 hx e1 e2
  obtain ⟨k1, k2, k3, k4, k5, k6⟩ := C1
  go_wp2_with fail
  ((with_reducible refine (c1 _ (hw.ext hE)).mono ?_); rintro e w2 ⟨rfl, hx⟩)
  obtain ⟨q1, q2, q3, q4, q5, q6⟩ := (BoxT.mk k1 k2 k3 k4 k5 k6).ext hx
  replace hE := hE.trans hx
  clear k1 k2 k3 k4 k5 k6 hx
  go_wp2_with fail
  ((with_reducible refine (c2 _ (hw.ext hE)).mono ?_); rintro e w3 ⟨rfl, hx2⟩)
  obtain ⟨s1, s2, s3, s4, s5, s6⟩ := (BoxT.mk q1 q2 q3 q4 q5 q6).ext hx2
  replace hE := hE.trans hx2
  clear q1 q2 q3 q4 q5 q6 hx2
  rcases hsc with ⟨d1, hB⟩ | ⟨d1, d2, hB⟩ | ⟨d1, d2, d3, hB⟩ | ⟨d1, d2, d3, hB⟩
  · have HB := Lib.hid hB
    clear hB
    go_wp2
    go_ret
    exact ⟨by rw [HZ.out, HB.out, sideE_t]; rfl, hE⟩
  · have HB := Lib.hid hB
    clear hB
    go_wp2
    go_ret
    exact ⟨by rw [HZ.out, HB.out, sideE_t]; rfl, hE⟩
  · have HB := Lib.hid hB
    clear hB
    go_wp2
    go_ret
    exact ⟨by rw [HZ.out, HB.out, sideE_t]; rfl, hE⟩
  · cases hb : badSide c <;> rw [hb] at hB
    · have HB := Lib.hid hb
      clear hb
      go_wp2
      go_ret
      exact ⟨by rw [HZ.out, HB.out, sideE_f]; rfl, hE⟩
    · have HB := Lib.hid hb
      clear hb
      go_wp2
      go_ret
      exact ⟨by rw [HZ.out, HB.out, sideE_t]; rfl, hE⟩
end Go.Proofs.YtblijhokcjpeeaaGreatDoor
