/- drawing.line: the row of pixels. -/
import Derived.Test.YtblijhokcjpeeaaGreatDoorMN
/- drawing: Check, open, Pixel, Clip. -/
namespace Go.Proofs.YtblijhokcjpeeaaGreatDoor
open Go.RowKit Kl

theorem okR_sz {q : Rat} {k : Nat} (h : Sz k q) (hk : 0 < k) (hk2 : k ≤ 200) : OkR (R q) :=
  ⟨q, rfl, Nat.le_trans (D_length_le hk h.num) hk2, Nat.le_trans (D_length_le hk h.den) hk2⟩
theorem szl {q : Rat} {k : Nat} (h : Sz k q) (hk : 0 < k) (hk2 : k ≤ 40000) : (R q).length < 100000 := by have := R_length hk h; omega
def ptT (p : Pt) : Bs × Bs := (R p.x, R p.y)
theorem okPts_pts {l : List Pt} {k : Nat} (h : ∀ p ∈ l, SzP k p) (hk : 0 < k) (hk2 : k ≤ 200) : okPts (l.map ptT) := by
  intro q hq
  obtain ⟨p, hp, rfl⟩ := List.mem_map.1 hq
  exact ⟨okR_sz (h p hp).x hk hk2, okR_sz (h p hp).y hk hk2⟩
theorem shortPts_pts {l : List Pt} {k : Nat} (h : ∀ p ∈ l, SzP k p) (hk : 0 < k) (hk2 : k ≤ 200) : shortPts (l.map ptT) := by
  intro q hq
  obtain ⟨p, hp, rfl⟩ := List.mem_map.1 hq
  exact ⟨szl (h p hp).x hk (by omega), szl (h p hp).y hk (by omega)⟩
/-- points at places that are right, laid out in a block of their own. -/
theorem points2_c (p q : Bs × Bs) (ok : Bool) (hok : ok = true ↔ okPts [p, q]) (hsh : shortPts [p, q]) (w : World) (hw : Okw w) :
    Calls Tryz.prog 30 #[.slice (some ⟨w.heap.size, 0, none⟩) 2 2] (w.alloc (.cells #[S p.1, S p.2, S q.1, S q.2] 29)) (RetI (chkV ok) (w.alloc (.cells #[S p.1, S p.2, S q.1, S q.2] 29))) :=
  points_c [p, q] ok hok _ 2 _ (hw.ext ((Ext.refl w).alloc _)) (RdC.lit w #[S p.1, S p.2, S q.1, S q.2] 29) (by simp) (by omega) hsh
theorem points1_c (p : Bs × Bs) (ok : Bool) (hok : ok = true ↔ okPts [p]) (hsh : shortPts [p]) (w : World) (hw : Okw w) :
    Calls Tryz.prog 30 #[.slice (some ⟨w.heap.size, 0, none⟩) 1 1] (w.alloc (.cells #[S p.1, S p.2] 29)) (RetI (chkV ok) (w.alloc (.cells #[S p.1, S p.2] 29))) :=
  points_c [p] ok hok _ 1 _ (hw.ext ((Ext.refl w).alloc _)) (RdC.lit w #[S p.1, S p.2] 29) (by simp) (by omega) hsh

set_option maxRecDepth 100000 in
set_option maxHeartbeats 2000000 in
theorem dCheck_ok (c : Cv) (hc : CvS c) (w : World) (hw : Okw w) : Calls Tryz.prog 29 #[cvV c] w (RetI 0 w) := by
  have hz : ∀ p ∈ [c.low, c.high], SzP 3 p := by
    intro p hp
    simp only [List.mem_cons, List.not_mem_nil, or_false] at hp
    rcases hp with rfl | rfl
    · exact hc.low
    · exact hc.high
  have e1 := (Ext.refl w).alloc (.cells #[S (R c.low.x), S (R c.low.y), S (R c.high.x), S (R c.high.y), .int .i64 (c.W : Nat), .int .i64 (c.H : Nat)] 35)
  have pc := points2_c (ptT c.low) (ptT c.high) true (by simp only [true_iff]; exact okPts_pts hz (by omega) (by omega)) (shortPts_pts hz (by omega) (by omega)) _ (hw.ext e1)
  unfold ptT at pc
  simp only [World.size_alloc] at pc
  rw [chkV_t] at pc
  have c1 := rCompare_c c.low.x c.high.x (a := 3) (b := 3) ⟨hc.low.x, hc.high.x, by omega, by omega, by omega⟩
  have c2 := rCompare_c c.low.y c.high.y (a := 3) (b := 3) ⟨hc.low.y, hc.high.y, by omega, by omega, by omega⟩
  rw [cmpR_lt hc.ok.x] at c1
  rw [cmpR_lt hc.ok.y] at c2
  have hb0 := heap_alloc_new w (.cells #[S (R c.low.x), S (R c.low.y), S (R c.high.x), S (R c.high.y), .int .i64 (c.W : Nat), .int .i64 (c.H : Nat)] 35)
  have e2 := e1.alloc (.cells #[S (R c.low.x), S (R c.low.y), S (R c.high.x), S (R c.high.y)] 29)
  have d1 : decide ((c.W : Int) < 1) = false := by rw [decide_eq_false_iff_not]; have := hc.ok.w1; omega
  have d2 : decide ((2000 : Int) < (c.W : Int)) = false := by rw [decide_eq_false_iff_not]; have := hc.ok.w2; omega
  have d3 : decide ((c.H : Int) < 1) = false := by rw [decide_eq_false_iff_not]; have := hc.ok.h1; omega
  have d4 : decide ((2000 : Int) < (c.H : Int)) = false := by rw [decide_eq_false_iff_not]; have := hc.ok.h2; omega
  have C0 := (BoxC.of hb0).ext ((Ext.refl _).alloc (.cells #[S (R c.low.x), S (R c.low.y), S (R c.high.x), S (R c.high.y)] 29))
  unfold cvV
  clear hz hb0 hc
  go_enter Tryz.func29, Tryz.ntmps29
  go_wp2_with fail
  ((with_reducible refine pc.mono ?_); rintro e w1 ⟨rfl, hx⟩)
  have hE := e2.trans hx
  have C1 := C0.ext hx
  clear C0 hx e1 e2
  obtain ⟨k1, k2, k3, k4, k5, k6⟩ := C1
  go_wp2_with fail
  ((with_reducible refine (c1 _ (hw.ext hE)).mono ?_); rintro e w2 ⟨rfl, hx⟩)
  obtain ⟨q1, q2, q3, q4, q5, q6⟩ := (BoxC.mk k1 k2 k3 k4 k5 k6).ext hx
  replace hE := hE.trans hx
  go_wp2_with fail
  ((with_reducible refine (c2 _ (hw.ext hE)).mono ?_); rintro e w3 ⟨rfl, hx2⟩)
  obtain ⟨s1, s2, s3, s4, s5, s6⟩ := (BoxC.mk q1 q2 q3 q4 q5 q6).ext hx2
  replace hE := hE.trans hx2
  go_wp2
  go_ret
  exact ⟨rfl, hE⟩
set_option maxRecDepth 100000 in
set_option maxHeartbeats 2000000 in
theorem open_c' (c : Cv) (hc : CvS c) (l : List (Bs × Bs)) (ok : Bool) (hok : ok = true ↔ okPts l) (A : Option Addr) (cap : Nat) (w : World) (hw : Okw w) (hr : RdC w A (flat l)) (hcap : l.length ≤ cap) (hcm : cap ≤ 9223372036854775807) (hlen : shortPts l) :
    Calls Tryz.prog 32 #[cvV c, .slice A l.length cap] w (RetI (chkV ok) w) := by
  have e1 := (Ext.refl w).alloc (.cells #[S (R c.low.x), S (R c.low.y), S (R c.high.x), S (R c.high.y), .int .i64 (c.W : Nat), .int .i64 (c.H : Nat)] 35)
  have dc := dCheck_ok c hc _ (hw.ext e1)
  have pc := fun W (h : Ext w W) => points_c l ok hok A cap W (hw.ext h) (hr.ext h) hcap hcm hlen
  unfold cvV at dc ⊢
  clear hok hlen
  go_enter Tryz.func32, Tryz.ntmps32
  go_wp2_with fail
  ((with_reducible refine dc.mono ?_); rintro e w1 ⟨rfl, hx⟩)
  have hE := e1.trans hx
  go_wp2_with fail
  ((with_reducible refine (pc _ hE).mono ?_); rintro e w2 ⟨rfl, hx2⟩)
  go_wp2
  go_ret
  exact ⟨rfl, hE.trans hx2⟩
set_option maxRecDepth 100000 in
set_option maxHeartbeats 2000000 in
theorem Pixel_ok (c : Cv) (p : Pt) (hc : CvS c) {a : Nat} (hp : SzP a p) (ha : 0 < a) (ha2 : a ≤ 200) (c1 : -1000000 ≤ colR c p) (c2 : colR c p ≤ 1000000) (r1 : -1000000 ≤ rowR c p) (r2 : rowR c p ≤ 1000000) (w : World) (hw : Okw w) :
    Calls Tryz.prog 10 #[cvV c, ptV p] w (RetV (.tuple #[dotV (colR c p) (rowR c p), .int .i64 0]) w) := by
  have hz : ∀ q ∈ [p], SzP a q := by intro q hq; simp only [List.mem_singleton] at hq; rw [hq]; exact hp
  obtain ⟨W, hW, hE, hb1, hb2, hb3⟩ := blk3 w (.cells #[S (R c.low.x), S (R c.low.y), S (R c.high.x), S (R c.high.y), .int .i64 (c.W : Nat), .int .i64 (c.H : Nat)] 35) (.cells #[S (R p.x), S (R p.y)] 29) (.cells #[.int .i64 0, .int .i64 0] 38)
  have dc := dCheck_ok c hc
  have pc := points1_c (ptT p) true (by simp only [true_iff]; exact okPts_pts hz ha ha2) (shortPts_pts hz ha ha2)
  have px := pixel_ok c p hc hp ha (by omega) c1 c2 r1 r2
  obtain ⟨col, hcol⟩ : ∃ z, z = colR c p := ⟨_, rfl⟩
  obtain ⟨row, hrow⟩ : ∃ z, z = rowR c p := ⟨_, rfl⟩
  rw [← hcol, ← hrow] at px ⊢
  rw [chkV_t] at pc
  unfold ptT at pc
  unfold cvV ptV dotV at px
  unfold cvV at dc
  unfold cvV ptV dotV
  have hC := BoxC.of hb1
  have hP : BoxP W (w.heap.size + 1) p := ⟨cell_of_blk hb2 rfl, cell_of_blk hb2 rfl⟩
  have hZ := hb3
  clear hz hc hp c1 c2 r1 r2 hcol hrow hb1 hb2 hb3
  go_enter Tryz.func10, Tryz.ntmps10
  go_wp2_with fail
  rw [← hW]
  clear hW
  ((with_reducible refine (dc _ (hw.ext hE)).mono ?_); rintro e w1 ⟨rfl, hx⟩)
  replace hE := hE.trans hx
  replace hC := hC.ext hx
  replace hP := hP.ext hx
  replace hZ := (hx.block _ (lt_of_block hZ)).trans hZ
  clear hx
  obtain ⟨k1, k2⟩ := hP
  go_wp2_with fail
  ((with_reducible refine (pc _ (hw.ext hE)).mono ?_); rintro e w2 ⟨rfl, hx⟩)
  have hx := ((Ext.refl w1).alloc (.cells #[S (R p.x), S (R p.y)] 29)).trans hx
  have hP := (BoxP.mk k1 k2).ext hx
  replace hE := hE.trans hx
  replace hC := hC.ext hx
  replace hZ := (hx.block _ (lt_of_block hZ)).trans hZ
  clear hx k1 k2
  obtain ⟨k1, k2⟩ := hP
  obtain ⟨q1, q2, q3, q4, q5, q6⟩ := hC
  go_wp2_with fail
  ((with_reducible refine (px _ (hw.ext hE)).mono ?_); rintro e w3 ⟨rfl, hx⟩)
  replace hE := hE.trans hx
  replace hZ := (hx.block _ (lt_of_block hZ)).trans hZ
  have g1 := cell_of_blk (o := 0) hZ rfl
  have g2 := cell_of_blk (o := 1) hZ rfl
  have g3 := free_of_blk (o := 0) hZ
  have g4 := free_of_blk (o := 1) hZ
  obtain ⟨e1, e2⟩ := set2 (.int .i64 col) (.int .i64 row) g1 g2
  go_wp2
  refine bodyPost_ret (v := .tuple #[.agg #[.int .i64 col, .int .i64 row], .int .i64 0]) (by simp [results, Tryz.results10, go_sem, e1, e2]) rfl ?_
  exact ⟨rfl, (hE.setCell (by show w.heap.size ≤ w.heap.size + 1 + 1; omega) _).setCell (by show w.heap.size ≤ w.heap.size + 1 + 1; omega) _⟩
end Go.Proofs.YtblijhokcjpeeaaGreatDoor
/- drawing.Clip. -/
namespace Go.Proofs.YtblijhokcjpeeaaGreatDoor
open Go.RowKit Kl

/-- A segment as four texts. -/
structure SgT where
  fx : Bs
  fy : Bs
  tx : Bs
  ty : Bs
def stV (t : SgT) : Value := .agg #[S t.fx, S t.fy, S t.tx, S t.ty]
def SgT.pts (t : SgT) : List (Bs × Bs) := [(t.fx, t.fy), (t.tx, t.ty)]
def sgT (s : Sg) : SgT := ⟨R s.a.x, R s.a.y, R s.b.x, R s.b.y⟩
def clip3V (c : Cv) (s : Sg) : Value := match clipR c s with | none => .tuple #[.agg #[S [], S [], S [], S []], .bool false, .int .i64 0] | some p => .tuple #[sgV p, .bool true, .int .i64 0]
theorem clip3V_none {c : Cv} {s : Sg} (h : clipR c s = none) : clip3V c s = .tuple #[.agg #[S [], S [], S [], S []], .bool false, .int .i64 0] := by unfold clip3V; rw [h]
theorem clip3V_some {c : Cv} {s p : Sg} (h : clipR c s = some p) : clip3V c s = .tuple #[sgV p, .bool true, .int .i64 0] := by unfold clip3V; rw [h]
/-- What Clip's and Line's opening lays. -/
theorem open2_c (c : Cv) (hc : CvS c) (p q : Bs × Bs) (ok : Bool) (hok : ok = true ↔ okPts [p, q]) (hsh : shortPts [p, q]) (w : World) (hw : Okw w) :
    Calls Tryz.prog 32 #[cvV c, .slice (some ⟨w.heap.size, 0, none⟩) 2 2] (w.alloc (.cells #[S p.1, S p.2, S q.1, S q.2] 29)) (RetI (chkV ok) (w.alloc (.cells #[S p.1, S p.2, S q.1, S q.2] 29))) :=
  open_c' c hc [p, q] ok hok _ 2 _ (hw.ext ((Ext.refl w).alloc _)) (RdC.lit w #[S p.1, S p.2, S q.1, S q.2] 29) (by simp) (by omega) hsh
set_option maxRecDepth 100000 in
set_option maxHeartbeats 2000000 in
theorem Clip_bad (c : Cv) (hc : CvS c) (t : SgT) (hbad : ¬ okPts t.pts) (hsh : shortPts t.pts) (w : World) (hw : Okw w) :
    Calls Tryz.prog 11 #[cvV c, stV t] w (RetV (.tuple #[.agg #[S [], S [], S [], S []], .bool false, .int .i64 2]) w) := by
  obtain ⟨W, hW, hE, hb1, hb2, hb3⟩ := blk3 w (.cells #[S (R c.low.x), S (R c.low.y), S (R c.high.x), S (R c.high.y), .int .i64 (c.W : Nat), .int .i64 (c.H : Nat)] 35) (.cells #[S t.fx, S t.fy, S t.tx, S t.ty] 31) (.cells #[S [], S [], S [], S []] 31)
  have op := open2_c c hc (t.fx, t.fy) (t.tx, t.ty) false (by simp only [Bool.false_eq_true, false_iff]; exact hbad) hsh W (hw.ext hE)
  rw [chkV_f] at op
  have hsz : W.heap.size = w.heap.size + 1 + 1 + 1 := by rw [hW]; simp
  obtain ⟨V, hV⟩ : ∃ V, V = W.alloc (.cells #[S t.fx, S t.fy, S t.tx, S t.ty] 29) := ⟨_, rfl⟩
  rw [← hV, hsz] at op
  have hEV : Ext W V := by rw [hV]; exact (Ext.refl W).alloc _
  have hZ := (hEV.block _ (lt_of_block hb3)).trans hb3
  have hE := hE.trans hEV
  unfold cvV at op
  unfold cvV stV
  rw [hW] at hV
  clear hc hbad hsh hsz hb1 hb2 hb3 hEV hW
  go_enter Tryz.func11, Tryz.ntmps11
  go_wp2_with fail
  rw [show (⟨#[]⟩ : ByteArray) = ⟨([] : Bs).toArray⟩ from rfl, ← hV]
  clear hV
  ((with_reducible refine op.mono ?_); rintro e w1 ⟨rfl, hx⟩)
  replace hE := hE.trans hx
  replace hZ := (hx.block _ (lt_of_block hZ)).trans hZ
  have z0 := cell_of_blk (o := 0) hZ rfl
  have z1 := cell_of_blk (o := 1) hZ rfl
  have z2 := cell_of_blk (o := 2) hZ rfl
  have z3 := cell_of_blk (o := 3) hZ rfl
  have y0 := free_of_blk (o := 0) hZ
  have y1 := free_of_blk (o := 1) hZ
  have y2 := free_of_blk (o := 2) hZ
  have y3 := free_of_blk (o := 3) hZ
  obtain ⟨X, hX, x0, x1, x2, x3⟩ := set4 (S []) (S []) (S []) (S []) z0 z1 z2 z3
  go_wp2
  rw [show (⟨#[]⟩ : ByteArray) = ⟨([] : Bs).toArray⟩ from rfl, ← hX]
  refine bodyPost_ret (v := .tuple #[.agg #[S [], S [], S [], S []], .bool false, .int .i64 2]) (by simp [results, Tryz.results11, go_sem, x0, x1, x2, x3]) rfl ⟨rfl, ?_⟩
  rw [hX]
  exact (((hE.setCell (by show w.heap.size ≤ w.heap.size + 1 + 1; omega) _).setCell (by show w.heap.size ≤ w.heap.size + 1 + 1; omega) _).setCell (by show w.heap.size ≤ w.heap.size + 1 + 1; omega) _).setCell (by show w.heap.size ≤ w.heap.size + 1 + 1; omega) _
theorem blk4_set {w : World} {b : Nat} {a0 a1 a2 a3 : Value} {t : TypeId} (v0 v1 v2 v3 : Value) (h : w.heap[b]? = some (.cells #[a0, a1, a2, a3] t)) :
    ((((w.setCell ⟨b, 0, none⟩ v0).setCell ⟨b, 1, none⟩ v1).setCell ⟨b, 2, none⟩ v2).setCell ⟨b, 3, none⟩ v3).heap[b]? = some (.cells #[v0, v1, v2, v3] t) := by
  simp only [World.setCell, Array.getElem?_modify, h]
  simp
set_option maxRecDepth 100000 in
set_option maxHeartbeats 4000000 in
theorem Clip_none (c : Cv) (hc : CvS c) (s : Sg) {a : Nat} (hs : SzS a s) (ha : 0 < a) (ha2 : a ≤ 200) (hn : clipR c s = none) (w : World) (hw : Okw w) :
    Calls Tryz.prog 11 #[cvV c, sgV s] w (RetV (.tuple #[.agg #[S [], S [], S [], S []], .bool false, .int .i64 0]) w) := by
  obtain ⟨W, hW, hE, hb1, hb2, hb3⟩ := blk3 w (.cells #[S (R c.low.x), S (R c.low.y), S (R c.high.x), S (R c.high.y), .int .i64 (c.W : Nat), .int .i64 (c.H : Nat)] 35) (.cells #[S (R s.a.x), S (R s.a.y), S (R s.b.x), S (R s.b.y)] 31) (.cells #[S [], S [], S [], S []] 31)
  have hz : ∀ p ∈ [s.a, s.b], SzP a p := by
    intro p hp
    simp only [List.mem_cons, List.not_mem_nil, or_false] at hp
    rcases hp with rfl | rfl
    · exact hs.a
    · exact hs.b
  have op := open2_c c hc (ptT s.a) (ptT s.b) true (by simp only [true_iff]; exact okPts_pts hz ha ha2) (shortPts_pts hz ha ha2) W (hw.ext hE)
  unfold ptT at op
  rw [chkV_t] at op
  have hsz : W.heap.size = w.heap.size + 1 + 1 + 1 := by rw [hW]; simp
  obtain ⟨V, hV⟩ : ∃ V, V = W.alloc (.cells #[S (R s.a.x), S (R s.a.y), S (R s.b.x), S (R s.b.y)] 29) := ⟨_, rfl⟩
  rw [← hV, hsz] at op
  have hEV : Ext W V := by rw [hV]; exact (Ext.refl W).alloc _
  have hZ := (hEV.block _ (lt_of_block hb3)).trans hb3
  have hC := (BoxC.of hb1).ext hEV
  have hS := (BoxS.mk (s := s) (cell_of_blk hb2 rfl) (cell_of_blk hb2 rfl) (cell_of_blk hb2 rfl) (cell_of_blk hb2 rfl)).ext hEV
  have hE := hE.trans hEV
  have cl := clip_c c s hc hs ha ha2
  rw [clipV_none hn] at cl
  unfold cvV at op
  unfold cvV sgV at cl
  unfold cvV sgV
  rw [hW] at hV
  clear hc hs hz hn hsz hb1 hb2 hb3 hEV hW
  go_enter Tryz.func11, Tryz.ntmps11
  go_wp2_with fail
  rw [show (⟨#[]⟩ : ByteArray) = ⟨([] : Bs).toArray⟩ from rfl, ← hV]
  clear hV
  ((with_reducible refine op.mono ?_); rintro e w1 ⟨rfl, hx⟩)
  replace hE := hE.trans hx
  replace hZ := (hx.block _ (lt_of_block hZ)).trans hZ
  obtain ⟨q1, q2, q3, q4, q5, q6⟩ := hC.ext hx
  obtain ⟨k1, k2, k3, k4⟩ := hS.ext hx
  clear hC hS op hx
  go_wp2_with fail
  ((with_reducible refine (cl _ (hw.ext hE)).mono ?_); rintro e w2 ⟨rfl, hx⟩)
  replace hE := hE.trans hx
  replace hZ := (hx.block _ (lt_of_block hZ)).trans hZ
  clear q1 q2 q3 q4 q5 q6 k1 k2 k3 k4 cl hx
  have z0 := cell_of_blk (o := 0) hZ rfl
  have z1 := cell_of_blk (o := 1) hZ rfl
  have z2 := cell_of_blk (o := 2) hZ rfl
  have z3 := cell_of_blk (o := 3) hZ rfl
  have y0 := free_of_blk (o := 0) hZ
  have y1 := free_of_blk (o := 1) hZ
  have y2 := free_of_blk (o := 2) hZ
  have y3 := free_of_blk (o := 3) hZ
  have hZ2 := blk4_set (S []) (S []) (S []) (S []) hZ
  have hE2 := (((hE.setCell (p := ⟨w.heap.size + 1 + 1, 0, none⟩) (by show w.heap.size ≤ w.heap.size + 1 + 1; omega) (S [])).setCell (p := ⟨w.heap.size + 1 + 1, 1, none⟩) (by show w.heap.size ≤ w.heap.size + 1 + 1; omega) (S [])).setCell (p := ⟨w.heap.size + 1 + 1, 2, none⟩) (by show w.heap.size ≤ w.heap.size + 1 + 1; omega) (S [])).setCell (p := ⟨w.heap.size + 1 + 1, 3, none⟩) (by show w.heap.size ≤ w.heap.size + 1 + 1; omega) (S [])
  go_upto_region 5 with fail
  generalize (((w2.setCell ⟨w.heap.size + 1 + 1, 0, none⟩ (S [])).setCell ⟨w.heap.size + 1 + 1, 1, none⟩ (S [])).setCell ⟨w.heap.size + 1 + 1, 2, none⟩ (S [])).setCell ⟨w.heap.size + 1 + 1, 3, none⟩ (S []) = X at *
  clear z0 z1 z2 z3 y0 y1 y2 y3 hZ hE
  have z0 := cell_of_blk (o := 0) hZ2 rfl
  have z1 := cell_of_blk (o := 1) hZ2 rfl
  have z2 := cell_of_blk (o := 2) hZ2 rfl
  have z3 := cell_of_blk (o := 3) hZ2 rfl
  have y0 := free_of_blk (o := 0) hZ2
  have y1 := free_of_blk (o := 1) hZ2
  have y2 := free_of_blk (o := 2) hZ2
  have y3 := free_of_blk (o := 3) hZ2
  obtain ⟨Y, hY, x0, x1, x2, x3⟩ := set4 (S []) (S []) (S []) (S []) z0 z1 z2 z3
  go_wp2
  rw [← hY]
  refine bodyPost_ret (v := .tuple #[.agg #[S [], S [], S [], S []], .bool false, .int .i64 0]) (by simp [results, Tryz.results11, go_sem, x0, x1, x2, x3]) rfl ⟨rfl, ?_⟩
  rw [hY]
  exact (((hE2.setCell (by show w.heap.size ≤ w.heap.size + 1 + 1; omega) _).setCell (by show w.heap.size ≤ w.heap.size + 1 + 1; omega) _).setCell (by show w.heap.size ≤ w.heap.size + 1 + 1; omega) _).setCell (by show w.heap.size ≤ w.heap.size + 1 + 1; omega) _
set_option maxRecDepth 100000 in
set_option maxHeartbeats 4000000 in
theorem Clip_some (c : Cv) (hc : CvS c) (s p : Sg) {a : Nat} (hs : SzS a s) (ha : 0 < a) (ha2 : a ≤ 200) (hn : clipR c s = some p) (hps : SzS 200 p) (w : World) (hw : Okw w) :
    Calls Tryz.prog 11 #[cvV c, sgV s] w (RetV (.tuple #[sgV p, .bool true, .int .i64 0]) w) := by
  obtain ⟨W, hW, hE, hb1, hb2, hb3⟩ := blk3 w (.cells #[S (R c.low.x), S (R c.low.y), S (R c.high.x), S (R c.high.y), .int .i64 (c.W : Nat), .int .i64 (c.H : Nat)] 35) (.cells #[S (R s.a.x), S (R s.a.y), S (R s.b.x), S (R s.b.y)] 31) (.cells #[S [], S [], S [], S []] 31)
  have hz : ∀ p ∈ [s.a, s.b], SzP a p := by
    intro p hp
    simp only [List.mem_cons, List.not_mem_nil, or_false] at hp
    rcases hp with rfl | rfl
    · exact hs.a
    · exact hs.b
  have op := open2_c c hc (ptT s.a) (ptT s.b) true (by simp only [true_iff]; exact okPts_pts hz ha ha2) (shortPts_pts hz ha ha2) W (hw.ext hE)
  unfold ptT at op
  rw [chkV_t] at op
  have hsz : W.heap.size = w.heap.size + 1 + 1 + 1 := by rw [hW]; simp
  obtain ⟨V, hV⟩ : ∃ V, V = W.alloc (.cells #[S (R s.a.x), S (R s.a.y), S (R s.b.x), S (R s.b.y)] 29) := ⟨_, rfl⟩
  rw [← hV, hsz] at op
  have hEV : Ext W V := by rw [hV]; exact (Ext.refl W).alloc _
  have hZ := (hEV.block _ (lt_of_block hb3)).trans hb3
  have hC := (BoxC.of hb1).ext hEV
  have hS := (BoxS.mk (s := s) (cell_of_blk hb2 rfl) (cell_of_blk hb2 rfl) (cell_of_blk hb2 rfl) (cell_of_blk hb2 rfl)).ext hEV
  have hE := hE.trans hEV
  have cl := clip_c c s hc hs ha ha2
  rw [clipV_some hn] at cl
  have hz2 : ∀ q ∈ [p.a, p.b], SzP 200 q := by
    intro q hq
    simp only [List.mem_cons, List.not_mem_nil, or_false] at hq
    rcases hq with rfl | rfl
    · exact hps.a
    · exact hps.b
  have pc := points2_c (ptT p.a) (ptT p.b) true (by simp only [true_iff]; exact okPts_pts hz2 (by omega) (by omega)) (shortPts_pts hz2 (by omega) (by omega))
  unfold ptT at pc
  rw [chkV_t] at pc
  unfold cvV at op
  unfold cvV sgV at cl
  unfold cvV sgV
  rw [hW] at hV
  clear hc hs hz hn hz2 hps hsz hb1 hb2 hb3 hEV hW
  go_enter Tryz.func11, Tryz.ntmps11
  go_wp2_with fail
  rw [show (⟨#[]⟩ : ByteArray) = ⟨([] : Bs).toArray⟩ from rfl, ← hV]
  clear hV
  ((with_reducible refine op.mono ?_); rintro e w1 ⟨rfl, hx⟩)
  replace hE := hE.trans hx
  replace hZ := (hx.block _ (lt_of_block hZ)).trans hZ
  obtain ⟨q1, q2, q3, q4, q5, q6⟩ := hC.ext hx
  obtain ⟨k1, k2, k3, k4⟩ := hS.ext hx
  clear hC hS op hx
  go_wp2_with fail
  ((with_reducible refine (cl _ (hw.ext hE)).mono ?_); rintro e w2 ⟨rfl, hx⟩)
  replace hE := hE.trans hx
  replace hZ := (hx.block _ (lt_of_block hZ)).trans hZ
  clear q1 q2 q3 q4 q5 q6 k1 k2 k3 k4 cl hx
  have z0 := cell_of_blk (o := 0) hZ rfl
  have z1 := cell_of_blk (o := 1) hZ rfl
  have z2 := cell_of_blk (o := 2) hZ rfl
  have z3 := cell_of_blk (o := 3) hZ rfl
  have y0 := free_of_blk (o := 0) hZ
  have y1 := free_of_blk (o := 1) hZ
  have y2 := free_of_blk (o := 2) hZ
  have y3 := free_of_blk (o := 3) hZ
  have hZ2 := blk4_set (S (R p.a.x)) (S (R p.a.y)) (S (R p.b.x)) (S (R p.b.y)) hZ
  have hE2 := (((hE.setCell (p := ⟨w.heap.size + 1 + 1, 0, none⟩) (by show w.heap.size ≤ w.heap.size + 1 + 1; omega) (S (R p.a.x))).setCell (p := ⟨w.heap.size + 1 + 1, 1, none⟩) (by show w.heap.size ≤ w.heap.size + 1 + 1; omega) (S (R p.a.y))).setCell (p := ⟨w.heap.size + 1 + 1, 2, none⟩) (by show w.heap.size ≤ w.heap.size + 1 + 1; omega) (S (R p.b.x))).setCell (p := ⟨w.heap.size + 1 + 1, 3, none⟩) (by show w.heap.size ≤ w.heap.size + 1 + 1; omega) (S (R p.b.y))
  go_upto_region 5 with fail
  generalize (((w2.setCell ⟨w.heap.size + 1 + 1, 0, none⟩ (S (R p.a.x))).setCell ⟨w.heap.size + 1 + 1, 1, none⟩ (S (R p.a.y))).setCell ⟨w.heap.size + 1 + 1, 2, none⟩ (S (R p.b.x))).setCell ⟨w.heap.size + 1 + 1, 3, none⟩ (S (R p.b.y)) = X at *
  clear z0 z1 z2 z3 y0 y1 y2 y3 hZ hE
  have z0 := cell_of_blk (o := 0) hZ2 rfl
  have z1 := cell_of_blk (o := 1) hZ2 rfl
  have z2 := cell_of_blk (o := 2) hZ2 rfl
  have z3 := cell_of_blk (o := 3) hZ2 rfl
  go_wp2_with fail
  ((with_reducible refine (pc _ (hw.ext hE2)).mono ?_); rintro e w3 ⟨rfl, hx⟩)
  have hx := ((Ext.refl X).alloc (.cells #[S (R p.a.x), S (R p.a.y), S (R p.b.x), S (R p.b.y)] 29)).trans hx
  have hE3 := hE2.trans hx
  have hZ3 := (hx.block _ (lt_of_block hZ2)).trans hZ2
  clear z0 z1 z2 z3 hZ2 hE2 hx
  have z0 := cell_of_blk (o := 0) hZ3 rfl
  have z1 := cell_of_blk (o := 1) hZ3 rfl
  have z2 := cell_of_blk (o := 2) hZ3 rfl
  have z3 := cell_of_blk (o := 3) hZ3 rfl
  have y0 := free_of_blk (o := 0) hZ3
  have y1 := free_of_blk (o := 1) hZ3
  have y2 := free_of_blk (o := 2) hZ3
  have y3 := free_of_blk (o := 3) hZ3
  obtain ⟨Y, hY, x0, x1, x2, x3⟩ := set4 (S (R p.a.x)) (S (R p.a.y)) (S (R p.b.x)) (S (R p.b.y)) z0 z1 z2 z3
  go_wp2
  rw [← hY]
  refine bodyPost_ret (v := .tuple #[.agg #[S (R p.a.x), S (R p.a.y), S (R p.b.x), S (R p.b.y)], .bool true, .int .i64 0]) (by simp [results, Tryz.results11, go_sem, x0, x1, x2, x3]) rfl ⟨rfl, ?_⟩
  rw [hY]
  exact (((hE3.setCell (by show w.heap.size ≤ w.heap.size + 1 + 1; omega) _).setCell (by show w.heap.size ≤ w.heap.size + 1 + 1; omega) _).setCell (by show w.heap.size ≤ w.heap.size + 1 + 1; omega) _).setCell (by show w.heap.size ≤ w.heap.size + 1 + 1; omega) _
end Go.Proofs.YtblijhokcjpeeaaGreatDoor
namespace Go.Proofs.YtblijhokcjpeeaaGreatDoor
open Go.RowKit Kl

theorem Tryz.infoDot : (Tryz.prog.info? 38).map (fun i => (i.zero, i.size, i.bytes)) = some (some (.agg #[.int .i64 0, .int .i64 0]), 2, 16) := by kernel_rfl
def dcells (l : List (Int × Int)) : List Value := l.flatMap fun d => [.int .i64 d.1, .int .i64 d.2]
theorem dcells_length (l : List (Int × Int)) : (dcells l).length = l.length * 2 := by
  induction l with
  | nil => rfl
  | cons p l ih => unfold dcells at *; simp only [List.flatMap_cons, List.length_append, List.length_cons, List.length_nil]; omega
theorem dcells_snoc (l : List (Int × Int)) (d : Int × Int) : dcells (l ++ [d]) = dcells l ++ [.int .i64 d.1, .int .i64 d.2] := by unfold dcells; simp
/-- A row that the call owns reads as its pixels. -/
theorem RdC.of_own {w : World} {base : Nat} {e : TypeId} {v : Value} {n : Nat} {l : List (Int × Int)} (h : w.ownsRow base e 2 v n (dcells l)) (hn : n = l.length) : ∃ A c, v = .slice A n c ∧ RdC w A (dcells l) ∧ n ≤ c ∧ c ≤ 9223372036854775807 := by
  subst hn
  rcases h.2 with ⟨rfl, h0⟩ | ⟨g, cap, cur, rfl, _, hg, hn, hm, _, _⟩
  · exact ⟨none, 0, by rw [h0], ⟨fun h1 => by rw [dcells_length] at h1; omega⟩, by omega, by omega⟩
  · refine ⟨some ⟨g, 0, none⟩, cap, rfl, ⟨fun _ => ⟨g, 0, rfl, fun j hj => ?_⟩⟩, hn, by unfold maxLen at hm; omega⟩
    rw [Nat.zero_add, h.cellAt j (by rw [dcells_length] at hj; exact hj), List.getElem?_eq_getElem hj]
section
variable {ops : Array Oper} {rest : List Oper} {o : Oper} {a : Act} {Q : Exit → Act → World → Prop}
/-- append of one pixel, which lies in a block of its own. -/
theorem appDot (hgd : o.guard = none) (s x : Operand) (ho : o.op = .call { callee := .builtin .append, args := #[s, x], argTypes := #[44, 44] })
    (wr : World) (base : Nat) (v : Value) (n : Nat) (l : List (Int × Int)) (hs : a.eval s = v) (hown : wr.ownsRow base 38 2 v n (dcells l)) (hn : n < 200000) (d : Int × Int)
    (hx : a.eval x = .slice (some ⟨wr.heap.size, 0, none⟩) 1 1) (hbase : base ≤ wr.heap.size)
    (h : ∀ v' w', w'.ownsRow base 38 2 v' (n + 1) (dcells (l ++ [d])) → (∀ w0, Ext w0 wr → w0.heap.size ≤ base → Ext w0 w') → wpList Tryz.prog ops Q rest (a.put o.dst v') w') :
    wpList Tryz.prog ops Q (o :: rest) a (wr.alloc (.cells #[.int .i64 d.1, .int .i64 d.2] 38)) := by
  obtain ⟨i0, hi, hz0, hz1, hz2⟩ := info_parts Tryz.infoDot
  refine wpList_plain hgd fun K hK => ?_
  refine wp_append_own _ s x 44 ho base 38 i0 (.agg #[.int .i64 0, .int .i64 0]) 2 16 Tryz.underlying44 hi hz0 hz1 hz2 rfl (by omega) v n (dcells l) hs (hown.alloc _) ⟨wr.heap.size, 0, none⟩ 1 1 [.int .i64 d.1, .int .i64 d.2] hx rfl ?_ ?_ ?_ ?_ ?_ ?_
  · intro j u hu
    have hj : j < 2 := by have := (List.getElem?_eq_some_iff.1 hu).1; simpa using this
    rw [Addr.add_lit]
    refine cell_of_blk (heap_alloc_new wr _) ?_
    rw [Nat.zero_add, ← Array.getElem?_toList]
    exact hu
  · intro u hu
    simp only [List.mem_cons, List.not_mem_nil, or_false] at hu
    rcases hu with rfl | rfl <;> rfl
  · unfold maxLen; omega
  · omega
  · simp; omega
  · intro v' w' h2 h3 _
    refine hK _ _ (h v' w' (by rw [dcells_snoc]; exact h2) fun w0 he hb => ?_)
    have hg := hown.alloc (.cells #[.int .i64 d.1, .int .i64 d.2] 38)
    exact (he.alloc _).grown h3 fun k hk => by
      rcases hg.2 with ⟨rfl, _⟩ | ⟨g, cap, cur, rfl, hb', _⟩
      · cases hk
      · simp only [Value.ownBlock, Option.some.injEq] at hk; omega
end
end Go.Proofs.YtblijhokcjpeeaaGreatDoor
