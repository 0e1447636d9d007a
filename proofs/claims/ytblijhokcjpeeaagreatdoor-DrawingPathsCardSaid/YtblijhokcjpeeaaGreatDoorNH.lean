/- drawing.Path: the walk. -/
import Derived.Test.YtblijhokcjpeeaaGreatDoorNG
/- slices.Repeat at points: the walk. -/
namespace Go.Proofs.YtblijhokcjpeeaaGreatDoor
open Go.RowKit Kl

theorem ext_setRow {w0 w : World} {g : Nat} (h : Ext w0 w) (hg : w0.heap.size ≤ g) (cs : Array Value) : Ext w0 (w.setRow g cs) :=
  Below.trans h ⟨rfl, rfl, rfl, by simp [World.setRow], fun k hk => setRow_other w g k cs (by omega)⟩
theorem copy_rep {p : Bs × Bs} {m j k : Nat} (hjk : j + k ≤ m) {W : World} {b : Nat} (hb : W.heap[b]? = some (.cells (rep p j m).toArray 29 (0, 0))) (a : Addr) (dl dc sl sc : Nat) (hk : Nat.min sl dl = k)
    (hs : ∀ i v, (flat (List.replicate k p))[i]? = some v → W.cell? (a.add i) = some v) (ty : TypeId) :
    (Builtin.copy_ #[52, 52] ty #[.slice (some ⟨b, j * 2, none⟩) dl dc, .slice (some a) sl sc]).run Tryz.prog W = .ok (.int .i64 (k : Nat)) (W.setRow b (rep p (j + k) m).toArray) := by
  have e2 : (flat (List.replicate k p)).length = k * 2 := by rw [flat_length]; simp
  have h := run_copy_pts W ty b (j * 2) dl dc a sl sc _ _ (flat (List.replicate k p)) k hb hk e2 hs (by rw [e2, List.size_toArray, rep_length p (by omega)]; omega) (by
    intro v hv
    unfold flat at hv
    simp only [List.mem_flatMap, List.mem_cons, List.not_mem_nil, or_false] at hv
    obtain ⟨q, _, h | h⟩ := hv <;> (rw [h]; rfl))
  rw [h, rep_step p hjk]
set_option maxRecDepth 100000 in
set_option maxHeartbeats 4000000 in
theorem repeat_c (p : Bs × Bs) (A : Option Addr) (c m : Nat) (hm : 1 ≤ m) (hm2 : m ≤ 1000) (w : World) (hr : RdC w A (flat [p])) :
    Calls Tryz.prog 17 #[.slice A 1 c, .int .i64 (m : Nat)] w (fun e w' => ∃ A', e = .returned (.slice A' m m) ∧ RdC w' A' (flat (List.replicate m p)) ∧ Ext w w') := by
  obtain ⟨ba, oa, rfl, hcells⟩ := hr.ad (by rw [flat_length]; simp)
  have bm := Tryz.bits_Mul 1 m (by omega) (by omega) w
  rw [Nat.one_mul, Nat.div_eq_of_lt (by omega), Nat.mod_eq_of_lt (by omega)] at bm
  have bm1 : Calls Tryz.prog 43 #[.int .u64 1, .int .u64 (m : Nat)] w fun e w' => e = .returned (.tuple #[.int .u64 0, .int .u64 (m : Nat)]) ∧ w' = w := bm
  have hwm : IntKind.u64.wrap (m : Int) = m := by rw [IntKind.wrap_u64]; omega
  have hwi : IntKind.i64.wrap (m : Int) = m := IntWalk.i64_in _ (by omega)
  have mk := mk_ptn m (by omega) m rfl w
  have hV := heap_alloc_new w (.cells (madeCells #[S [], S []] (m * 2)) 29)
  have hE := (Ext.refl w).alloc (.cells (madeCells #[S [], S []] (m * 2)) 29)
  obtain ⟨b, hb⟩ : ∃ b, b = w.heap.size := ⟨_, rfl⟩
  have hsa : ∀ i v, (flat (List.replicate 1 p))[i]? = some v → (w.alloc (.cells (madeCells #[S [], S []] (m * 2)) 29)).cell? ((⟨ba, oa, none⟩ : Addr).add i) = some v := by
    intro i v h
    obtain ⟨hi, e⟩ := List.getElem?_eq_some_iff.1 h
    rw [← e, Addr.add_lit]
    exact hE.cellS (hcells i hi)
  rw [← hb] at mk hV
  rw [made_rep p] at mk hV hE hsa
  have hm0 : (0 : Int) ≤ (m : Int) := by omega
  have hm3 : (m : Int) ≤ 9223372036854775807 := by omega
  have hcp := copy_rep (j := 0) (k := 1) (by omega) hV ⟨ba, oa, none⟩ m m 1 c (by rw [show Nat.min 1 m = min 1 m from rfl]; omega) hsa
  rw [Nat.zero_mul, Nat.zero_add] at hcp
  have hgb : w.heap.size ≤ b := Nat.le_of_eq hb.symm
  clear hcells hr bm hsa hb
  go_enter Tryz.func17, Tryz.ntmps17
  go_wp2_with fail
  ((with_reducible refine bm1.mono ?_); rintro e w1 ⟨rfl, rfl⟩)
  have hE1 := ext_setRow hE hgb (rep p 1 m).toArray
  have hR := setRow_heap _ b _ (rep p 1 m).toArray _ _ hV
  go_wp2
  go_loopw [8] (fun s wr => ∃ j : Nat, s = .int .i64 (j : Nat) ∧ 1 ≤ j ∧ j ≤ m ∧ wr.heap[b]? = some (.cells (rep p j m).toArray 29 (0, 0)) ∧ Ext w1 wr) (fun s _ => m - (intOf s).toNat)
  case atStart => exact ⟨1, rfl, Nat.le_refl _, hm, hR, hE1⟩
  case round =>
    clear hV hE hcp hE1 hR mk bm1 hwm hwi
    obtain ⟨j, rfl, hj1, hj, hW, hE⟩ := hrel
    have hj0 : (0 : Int) ≤ (j : Int) := by omega
    have hjm : (j : Int) ≤ (m : Int) := by omega
    by_cases hlt : j < m
    · have hjl : (j : Int) < (m : Int) := by omega
      obtain ⟨k, hk⟩ : ∃ k, k = min j (m - j) := ⟨_, rfl⟩
      have hk1 : 1 ≤ k := by omega
      have hkm : j + k ≤ m := by omega
      have hsrc : ∀ i v, (flat (List.replicate k p))[i]? = some v → wr.drew.cell? ((⟨b, 0, none⟩ : Addr).add i) = some v := by
        intro i v h
        obtain ⟨hi, e⟩ := List.getElem?_eq_some_iff.1 h
        rw [flat_length, List.length_replicate] at hi
        rw [Addr.add_lit, Nat.zero_add]
        refine cell_of_blk (W := wr.drew) hW ?_
        rw [show (rep p j m).toArray[i]? = (rep p j m)[i]? from List.getElem?_toArray, rep_cell p (by omega), flat_rep_get p j i (by omega), ← flat_rep_get p k i hi]
        exact h
      have hcp := copy_rep (W := wr.drew) (j := j) (k := k) hkm hW ⟨b, 0, none⟩ (m - j) (m - j) j m (by rw [show Nat.min j (m - j) = min j (m - j) from rfl]; omega) hsrc
      have hR := setRow_heap wr.drew b _ (rep p (j + k) m).toArray _ _ hW
      have hE1 := ext_setRow hE.drew hgb (rep p (j + k) m).toArray
      clear hsrc hW hk
      go_wp2
      go_region
      all_goals go_wp2
      all_goals go_roundw
      all_goals first
        | exact ⟨j + k, by go_num, by omega, hkm, hR, hE1⟩
        | (simp [intOf]; omega)
    · obtain rfl : j = m := by omega
      clear hlt
      go_wp2
      go_ret
      refine ⟨some ⟨b, 0, none⟩, by rfl, ?_, hE⟩
      rw [rep_all] at hW
      refine ⟨fun _ => ⟨b, 0, rfl, fun i hi => ?_⟩⟩
      refine cell_of_blk hW ?_
      rw [Nat.zero_add, show (flat (List.replicate j p)).toArray[i]? = (flat (List.replicate j p))[i]? from List.getElem?_toArray, List.getElem?_eq_getElem hi]
end Go.Proofs.YtblijhokcjpeeaaGreatDoor
/- drawing.Path. -/
namespace Go.Proofs.YtblijhokcjpeeaaGreatDoor
open Go.RowKit Kl

/-- The pixels of the part of a segment in the window. -/
def lineD (c : Cv) (s : Sg) : List (Int × Int) := match clipR c s with | none => [] | some p => dots c p
theorem lineD_none {c : Cv} {s : Sg} (h : clipR c s = none) : lineD c s = [] := by unfold lineD; rw [h]
theorem lineD_some {c : Cv} {s p : Sg} (h : clipR c s = some p) : lineD c s = dots c p := by unfold lineD; rw [h]
theorem line_c (c : Cv) (hc : CvS c) (s : Sg) {a : Nat} (hs : SzS a s) (ha : 0 < a) (ha2 : a ≤ 200) (w : World) (hw : Okw w) :
    Calls Tryz.prog 34 #[cvV c, sgV s] w (RetDots (lineD c s) w) := by
  cases h : clipR c s with
  | none => rw [lineD_none h]; exact line_none c hc s hs ha ha2 h w hw
  | some p => rw [lineD_some h]; exact line_some c hc s p hs ha ha2 h w hw
theorem lineD_length {c : Cv} (hc : CvS c) (s : Sg) : (lineD c s).length ≤ 2001 := by
  cases h : clipR c s with
  | none => rw [lineD_none h]; simp
  | some p =>
    obtain ⟨ia, ib⟩ := clipR_in h
    have ca := colR_in hc.ok ia
    have cb := colR_in hc.ok ib
    have ra := rowR_in hc.ok ia
    have rb := rowR_in hc.ok ib
    have w2 := hc.ok.w2
    have h2 := hc.ok.h2
    have hst : steps c p = (max (max (max (max 1 (colR c p.a - colR c p.b)) (colR c p.b - colR c p.a)) (rowR c p.a - rowR c p.b)) (rowR c p.b - rowR c p.a)).toNat := rfl
    rw [lineD_some h, dots_length]
    omega
instance : Inhabited Pt := ⟨⟨0, 0⟩⟩
/-- What a place of the row adds in the program; what it adds in the law. -/
def segP (c : Cv) (l : List Pt) (i : Nat) : List (Int × Int) :=
  if i = 0 then (if 1 < l.length then [] else lineD c ⟨l[0]!, l[0]!⟩) else lineD c ⟨l[i - 1]!, l[i]!⟩
def segL (c : Cv) (l : List Pt) (i : Nat) : List (Int × Int) :=
  if i + 1 < l.length then lineD c ⟨l[i]!, l[i + 1]!⟩ else if i = 0 then lineD c ⟨l[0]!, l[0]!⟩ else []
theorem segP_length {c : Cv} (hc : CvS c) (l : List Pt) (i : Nat) : (segP c l i).length ≤ 2001 := by
  unfold segP
  split
  · split
    · simp
    · exact lineD_length hc _
  · exact lineD_length hc _
theorem segL_length {c : Cv} (hc : CvS c) (l : List Pt) (i : Nat) : (segL c l i).length ≤ 2001 := by
  unfold segL
  split
  · exact lineD_length hc _
  · split
    · exact lineD_length hc _
    · simp
theorem rowOf_succ (g : Nat → List (Int × Int)) (n : Nat) : (List.range (n + 1)).flatMap g = (List.range n).flatMap g ++ g n := by
  rw [List.range_succ, List.flatMap_append]; simp
theorem rowOf_length {g : Nat → List (Int × Int)} (h : ∀ i, (g i).length ≤ 2001) (n : Nat) : ((List.range n).flatMap g).length ≤ n * 2001 := by
  induction n with
  | zero => simp
  | succ n ih => rw [rowOf_succ, List.length_append]; have := h n; omega
theorem seg_same (c : Cv) (l : List Pt) : (List.range l.length).flatMap (segP c l) = (List.range l.length).flatMap (segL c l) := by
  cases hn : l.length with
  | zero => rfl
  | succ m =>
    cases m with
    | zero =>
      simp [segP, segL, hn]
    | succ k =>
      have e : ∀ j, j ≤ k + 1 → (List.range (j + 1)).flatMap (segP c l) = (List.range j).flatMap (segL c l) := by
        intro j
        induction j with
        | zero => intro _; simp [segP, hn]
        | succ j ih =>
          intro hj
          rw [rowOf_succ, ih (by omega), rowOf_succ]
          congr 1
          unfold segP segL
          rw [if_neg (by omega), if_pos (by omega)]
          simp
      rw [e (k + 1) (Nat.le_refl _), rowOf_succ (segL c l) (k + 1)]
      have : segL c l (k + 1) = [] := by unfold segL; rw [if_neg (by omega), if_neg (by omega)]
      rw [this, List.append_nil]
theorem rdC_ptR {w : World} {A : Option Addr} {l : List Pt} (hr : RdC w A (flat (l.map ptT))) {j : Nat} (h : j < l.length) : ∃ b o, A = some ⟨b, o, none⟩ ∧ w.cell? ⟨b, o + j * 2, none⟩ = some (S (R l[j]!.x)) ∧ w.cell? ⟨b, o + j * 2 + 1, none⟩ = some (S (R l[j]!.y)) := by
  obtain ⟨b, o, e, h1, h2⟩ := rdC_pt hr (j := j) h
  rw [getElem!_pos l j h]
  exact ⟨b, o, e, h1, h2⟩
theorem pts_of : ∀ {l : List (Bs × Bs)}, okPts l → (∀ p ∈ l, longP p = false) → ∃ ps : List Pt, l = ps.map ptT ∧ ∀ q ∈ ps, SzP 20 q
  | [], _, _ => ⟨[], rfl, by simp⟩
  | (x, y) :: l, h, hb => by
    obtain ⟨ps, e, hz⟩ := pts_of (l := l) (fun p hp => h p (by simp [hp])) (fun p hp => hb p (by simp [hp]))
    have h1 := h (x, y) (by simp)
    have b1 := longP_no (hb (x, y) (by simp))
    obtain ⟨q1, e1, z1⟩ := okR_short h1.1 b1.1
    obtain ⟨q2, e2, z2⟩ := okR_short h1.2 b1.2
    dsimp only at e1 e2
    subst e1 e2
    refine ⟨⟨q1, q2⟩ :: ps, by rw [e]; rfl, fun q hq => ?_⟩
    rcases List.mem_cons.1 hq with rfl | hq
    · exact ⟨z1, z2⟩
    · exact hz q hq
theorem szs_get {l : List Pt} (hz : ∀ q ∈ l, SzP 20 q) {i j : Nat} (hi : i < l.length) (hj : j < l.length) : SzS 20 ⟨l[i]!, l[j]!⟩ := by
  rw [getElem!_pos l i hi, getElem!_pos l j hj]
  exact ⟨hz _ (List.getElem_mem hi), hz _ (List.getElem_mem hj)⟩
end Go.Proofs.YtblijhokcjpeeaaGreatDoor
namespace Go.Proofs.YtblijhokcjpeeaaGreatDoor
open Go.RowKit Kl
theorem run_max_int2 {P : Program} {w : World} (ts : Array TypeId) (t : TypeId) (k : IntKind) (a b : Int) : (Builtin.max_ ts t #[.int k a, .int k b]).run P w = .ok (.int k (max a b)) w := by
  have m : ∀ x y : Int, (if y > x then y else x) = max x y := by intro x y; split <;> omega
  simp only [Builtin.max_, List.foldlM_cons, List.foldlM_nil, Builtin.max2]
  simp [m]
attribute [local go_sem] run_max_int2
/-- The row of pixels ahead of slices.Compact. -/
def pathD (c : Cv) (l : List Pt) : List (Int × Int) := (List.range l.length).flatMap (segP c l)

set_option maxRecDepth 100000 in
set_option maxHeartbeats 4000000 in
theorem Path_limit (c : Cv) (hc : CvS c) (A : Option Addr) (n cap : Nat) (hn : 200 < n) (w : World) (hw : Okw w) :
    Calls Tryz.prog 18 #[cvV c, .slice A n cap] w (RetV (.tuple #[.slice none 0 0, .int .i64 4]) w) := by
  have e1 := (Ext.refl w).alloc (.cells #[S (R c.low.x), S (R c.low.y), S (R c.high.x), S (R c.high.y), .int .i64 (c.W : Nat), .int .i64 (c.H : Nat)] 35)
  have ck := dCheck_ok c hc _ (hw.ext e1)
  unfold cvV at ck ⊢
  have hn' : (200 : Int) < (n : Int) := by omega
  clear hc
  go_enter Tryz.func18, Tryz.ntmps18
  go_wp2_with fail
  ((with_reducible refine ck.mono ?_); rintro e w1 ⟨rfl, hx⟩)
  go_wp2
  go_ret2
  exact ⟨rfl, e1.trans hx⟩
set_option maxRecDepth 100000 in
set_option maxHeartbeats 4000000 in
theorem Path_bad (c : Cv) (hc : CvS c) (l : List (Bs × Bs)) (A : Option Addr) (cap : Nat) (hn : l.length ≤ 200) (hcap : l.length ≤ cap) (hcm : cap ≤ 9223372036854775807) (hbad : ¬ okPts l) (hsh : shortPts l) (w : World) (hw : Okw w) (hr : RdC w A (flat l)) :
    Calls Tryz.prog 18 #[cvV c, .slice A l.length cap] w (RetV (.tuple #[.slice none 0 0, .int .i64 2]) w) := by
  have e1 := (Ext.refl w).alloc (.cells #[S (R c.low.x), S (R c.low.y), S (R c.high.x), S (R c.high.y), .int .i64 (c.W : Nat), .int .i64 (c.H : Nat)] 35)
  have ck := dCheck_ok c hc _ (hw.ext e1)
  have pt := points_c l false (by simp only [Bool.false_eq_true, false_iff]; exact hbad) A cap
  rw [chkV_f] at pt
  unfold cvV at ck ⊢
  have hn' : (l.length : Int) ≤ (200 : Int) := by omega
  have HR := Lib.hid hr
  have HS := Lib.hid hsh
  clear hc hbad hr hsh
  go_enter Tryz.func18, Tryz.ntmps18
  go_wp2_with fail
  ((with_reducible refine ck.mono ?_); rintro e w1 ⟨rfl, hx⟩)
  replace hx := e1.trans hx
  have pt1 := pt w1 (hw.ext hx) (HR.out.ext hx) hcap hcm HS.out
  clear pt
  go_wp2_with fail
  ((with_reducible refine pt1.mono ?_); rintro e w2 ⟨rfl, hx2⟩)
  go_wp2
  go_ret2
  exact ⟨rfl, hx.trans hx2⟩
set_option maxRecDepth 100000 in
set_option maxHeartbeats 8000000 in
theorem Path_ok (c : Cv) (hc : CvS c) (l : List Pt) (A : Option Addr) (cap : Nat) (hn : l.length ≤ 200) (hcap : l.length ≤ cap) (hcm : cap ≤ 9223372036854775807) (hz : ∀ q ∈ l, SzP 20 q) (w : World) (hw : Okw w) (hr : RdC w A (flat (l.map ptT))) :
    Calls Tryz.prog 18 #[cvV c, .slice A l.length cap] w (RetDots (Lib.compact (pathD c l)) w) := by
  have e1 := (Ext.refl w).alloc (.cells #[S (R c.low.x), S (R c.low.y), S (R c.high.x), S (R c.high.y), .int .i64 (c.W : Nat), .int .i64 (c.H : Nat)] 35)
  have ck := dCheck_ok c hc _ (hw.ext e1)
  have pt := points_c (l.map ptT) true (by simp only [true_iff]; exact okPts_pts hz (by omega) (by omega)) A cap
  rw [chkV_t, List.length_map] at pt
  have hsh := shortPts_pts hz (by omega) (by omega)
  have hC0 := BoxC.of (heap_alloc_new w (.cells #[S (R c.low.x), S (R c.low.y), S (R c.high.x), S (R c.high.y), .int .i64 (c.W : Nat), .int .i64 (c.H : Nat)] 35))
  have hln : ∀ i j : Nat, i < l.length → j < l.length → ∀ W, Okw W → Calls Tryz.prog 34 #[cvV c, sgV ⟨l[i]!, l[j]!⟩] W (RetDots (lineD c ⟨l[i]!, l[j]!⟩) W) := fun i j hi hj W hW => line_c c hc _ (szs_get hz hi hj) (by omega) (by omega) W hW
  have hgl := segP_length hc l
  have HGL := Lib.hid hgl
  have HC := Lib.hid hc
  have HZ := Lib.hid hz
  unfold cvV at ck hln ⊢
  have hn' : (l.length : Int) ≤ (200 : Int) := by omega
  have HR := Lib.hid hr
  have HS := Lib.hid hsh
  clear hc hz hr hsh hgl
  go_enter Tryz.func18, Tryz.ntmps18
  go_wp2_with fail
  ((with_reducible refine ck.mono ?_); rintro e w1 ⟨rfl, hx⟩)
  have hC1 := hC0.ext hx
  replace hx := e1.trans hx
  have pt1 := pt w1 (hw.ext hx) (HR.out.ext hx) hcap hcm HS.out
  clear pt ck e1 hC0
  go_wp2_with fail
  ((with_reducible refine pt1.mono ?_); rintro e V ⟨rfl, hx2⟩)
  have hE := hx.trans hx2
  have hC2 := hC1.ext hx2
  clear pt1 hx2 hx hC1
  go_wp2
  go_loopw [8, 28] (fun out i wr => ∃ j : Nat, i = .int .i64 (j : Nat) ∧ j ≤ l.length ∧ wr.ownsRow V.heap.size 38 2 out ((List.range j).flatMap (segP c l)).length (dcells ((List.range j).flatMap (segP c l))) ∧ Ext V wr) (fun _ i _ => l.length - (intOf i).toNat)
  case atStart => exact ⟨0, rfl, by omega, World.ownsRow_nil _ _ _ _, Ext.refl _⟩
  case round =>
    obtain ⟨j, rfl, hj, hown, hext⟩ := hrel
    have hlen := rowOf_length HGL.out j
    have hlen2 := HGL.out j
    have hsuc := rowOf_succ (segP c l) j
    obtain ⟨D, hD⟩ : ∃ D, D = (List.range j).flatMap (segP c l) := ⟨_, rfl⟩
    rw [← hD] at hown hlen hsuc
    by_cases hlt : j < l.length
    · have hj0 : (0 : Int) ≤ (j : Int) := by omega
      have hjl : (j : Int) < (l.length : Int) := by omega
      obtain ⟨b, o, rfl, g3, g4⟩ := rdC_ptR (HR.out.ext (hE.trans hext)) hlt
      have hstep : ∀ i0 : Nat, True := fun _ => trivial
      clear hstep
      obtain ⟨x2, hx2⟩ : ∃ x, x = l[j]!.x := ⟨_, rfl⟩
      obtain ⟨y2, hy2⟩ : ∃ x, x = l[j]!.y := ⟨_, rfl⟩
      rw [← hx2] at g3
      rw [← hy2] at g4
      have hY := Lib.hid (And.intro hx2 hy2)
      clear hx2 hy2
      have hbl : b < wr.heap.size := World.block_lt_of_cell? wr _ g3
      go_upto_region 13 with fail
      have hbt := heap_alloc_new wr (.cells #[S (R x2), S (R y2)] 29)
      have hX4 := hext.alloc (.cells #[S (R x2), S (R y2)] 29)
      replace hown := own_ext hown ((Ext.refl wr).alloc (.cells #[S (R x2), S (R y2)] 29))
      generalize wr.alloc (.cells #[S (R x2), S (R y2)] 29) = w4 at *
      obtain ⟨bt, hbte⟩ : ∃ bt, bt = wr.heap.size := ⟨_, rfl⟩
      rw [← hbte] at hbt ⊢
      clear hbte g3 g4 hext
      by_cases h0 : j = 0 ∧ 1 < l.length
      · obtain ⟨rfl, h1⟩ := h0
        have h1' : (1 : Int) < (l.length : Int) := by omega
        have hseg : segP c l 0 = [] := by unfold segP; rw [if_pos rfl, if_pos h1]
        have hD1 : (List.range (0 + 1)).flatMap (segP c l) = D := by rw [hsuc, hseg, List.append_nil]
        have HD1 := Lib.hid hD1
        clear hseg hD1 hsuc
        go_wp2
        go_roundw
        case rel => exact ⟨1, by go_num, by omega, by rw [HD1.out]; exact hown, hX4⟩
        case measure => simp [intOf]; omega
      · obtain ⟨i0, hi0⟩ : ∃ i0, i0 = j - 1 := ⟨_, rfl⟩
        have hi1 : i0 < l.length := by omega
        have hseg : segP c l j = lineD c ⟨l[i0]!, l[j]!⟩ := by
          unfold segP
          by_cases hj00 : j = 0
          · have e0 : i0 = 0 := by omega
            rw [if_pos hj00, if_neg (fun h => h0 ⟨hj00, h⟩), e0, hj00]
          · rw [if_neg hj00, hi0]
        obtain ⟨b', o', e', g1, g2⟩ := rdC_ptR (HR.out.ext (hE.trans hX4)) hi1
        cases e'
        have ln := hln i0 j hi1 hlt
        unfold sgV at ln
        obtain ⟨x1, hx1⟩ : ∃ x, x = l[i0]!.x := ⟨_, rfl⟩
        obtain ⟨y1, hy1⟩ : ∃ x, x = l[i0]!.y := ⟨_, rfl⟩
        obtain ⟨LD, hLD⟩ : ∃ x, x = lineD c ⟨l[i0]!, l[j]!⟩ := ⟨_, rfl⟩
        rw [← hLD, ← hx1, ← hy1, ← hY.out.1, ← hY.out.2] at ln
        rw [← hx1] at g1
        rw [← hy1] at g2
        rw [hseg, ← hLD] at hsuc
        have HSUC := Lib.hid hsuc
        have hC4 := hC2.ext hX4
        have HC4 := hC4
        obtain ⟨q1, q2, q3, q4, q5, q6⟩ := hC4
        have hC4 := HC4
        clear HC4
        have t1 := cell_of_blk (o := 0) hbt rfl
        have t2 := cell_of_blk (o := 1) hbt rfl
        have hw4 := hw.ext (hE.trans hX4)
        have hmx : max ((j : Int) - 1) 0 = (i0 : Int) := by omega
        have hmw : IntKind.i64.wrap ((j : Int) - 1) = (j : Int) - 1 := IntWalk.i64_in _ (by omega)
        have hi2 : (0 : Int) ≤ (i0 : Int) := by omega
        have hi3 : (i0 : Int) < (l.length : Int) := by omega
        have hLl : LD.length ≤ 2001 := by rw [hLD, ← hseg]; exact HGL.out j
        clear hx1 hy1 hLD hseg hsuc hln
        by_cases hj00 : j = 0
        · have hjeq : ((j : Int) == 0) = true := by simp; omega
          have hl1 : (l.length : Int) ≤ 1 := by omega
          clear hi0 h0 hj00
          go_upto_region 14 with fail
          go_region_held3 (fun w' => w'.cell? ⟨w.heap.size, 0, none⟩ = some (S (R c.low.x)) ∧ w'.cell? ⟨w.heap.size, 1, none⟩ = some (S (R c.low.y)) ∧ w'.cell? ⟨w.heap.size, 2, none⟩ = some (S (R c.high.x)) ∧ w'.cell? ⟨w.heap.size, 3, none⟩ = some (S (R c.high.y)) ∧ w'.cell? ⟨w.heap.size, 4, none⟩ = some (.int .i64 (c.W : Nat)) ∧ w'.cell? ⟨w.heap.size, 5, none⟩ = some (.int .i64 (c.H : Nat)) ∧ w'.cell? ⟨b, o + i0 * 2, none⟩ = some (S (R x1)) ∧ w'.cell? ⟨b, o + i0 * 2 + 1, none⟩ = some (S (R y1)) ∧ w'.cell? ⟨bt, 0, none⟩ = some (S (R x2)) ∧ w'.cell? ⟨bt, 1, none⟩ = some (S (R y2)))
            (go_keep)
            (((with_reducible refine (ln _ ?_).mono ?_); (exact hw4.ext (Ext.refl w4).drew); rintro e w5 ⟨A3, c3, rfl, hr3, hc3, hm3, hx3⟩; have X5 := (Ext.refl w4).drew.trans hx3; obtain ⟨r1, r2, r3, r4, r5, r6⟩ := hC4.ext X5; have p1 := X5.cellS g1; have p2 := X5.cellS g2; have p3 := X5.cellS t1; have p4 := X5.cellS t2; have hown5 := own_ext hown X5; have hX5 := hX4.trans X5))
          go_wp2_with (at_builtin; go_loud (refine applD rfl _ _ rfl w5 V.heap.size u8 _ D rfl hown5 LD A3 c3 rfl hr3 (by omega) hX5.size ?_); intro v8 w8 hown8 hx8)
          go_roundw
          case rel => exact ⟨j + 1, by go_num, hlt, by rw [HSUC.out, List.length_append]; exact hown8, hx8 V hX5 (Nat.le_refl _)⟩
          case measure => simp [intOf]; omega
        · have hj01 : (1 : Int) ≤ (j : Int) := by omega
          have hjne : ((j : Int) == 0) = false := by simp; omega
          clear hi0 h0 hj00
          go_upto_region 14 with fail
          go_region_held3 (fun w' => w'.cell? ⟨w.heap.size, 0, none⟩ = some (S (R c.low.x)) ∧ w'.cell? ⟨w.heap.size, 1, none⟩ = some (S (R c.low.y)) ∧ w'.cell? ⟨w.heap.size, 2, none⟩ = some (S (R c.high.x)) ∧ w'.cell? ⟨w.heap.size, 3, none⟩ = some (S (R c.high.y)) ∧ w'.cell? ⟨w.heap.size, 4, none⟩ = some (.int .i64 (c.W : Nat)) ∧ w'.cell? ⟨w.heap.size, 5, none⟩ = some (.int .i64 (c.H : Nat)) ∧ w'.cell? ⟨b, o + i0 * 2, none⟩ = some (S (R x1)) ∧ w'.cell? ⟨b, o + i0 * 2 + 1, none⟩ = some (S (R y1)) ∧ w'.cell? ⟨bt, 0, none⟩ = some (S (R x2)) ∧ w'.cell? ⟨bt, 1, none⟩ = some (S (R y2)))
            (go_keep)
            (((with_reducible refine (ln _ ?_).mono ?_); (exact hw4.ext (Ext.refl w4).drew); rintro e w5 ⟨A3, c3, rfl, hr3, hc3, hm3, hx3⟩; have X5 := (Ext.refl w4).drew.trans hx3; obtain ⟨r1, r2, r3, r4, r5, r6⟩ := hC4.ext X5; have p1 := X5.cellS g1; have p2 := X5.cellS g2; have p3 := X5.cellS t1; have p4 := X5.cellS t2; have hown5 := own_ext hown X5; have hX5 := hX4.trans X5))
          go_wp2_with (at_builtin; go_loud (refine applD rfl _ _ rfl w5 V.heap.size u8 _ D rfl hown5 LD A3 c3 rfl hr3 (by omega) hX5.size ?_); intro v8 w8 hown8 hx8)
          go_roundw
          case rel => exact ⟨j + 1, by go_num, hlt, by rw [HSUC.out, List.length_append]; exact hown8, hx8 V hX5 (Nat.le_refl _)⟩
          case measure => simp [intOf]; omega
    · have hend : j = l.length := by omega
      have hle : (l.length : Int) ≤ (j : Int) := by omega
      have hPD : pathD c l = D := by unfold pathD; rw [hD, hend]
      have HPD := Lib.hid hPD
      have cp := compact_c D _ wr V.heap.size hown
      have HX := Lib.hid hext
      have HE := Lib.hid hE
      clear hown hD hsuc hPD hlen hlen2 hext hE
      go_wp2_with fail
      ((with_reducible refine cp.mono ?_); rintro e w3 ⟨A3, c3, rfl, hr3, hc3, hm3, hx3⟩)
      go_wp2
      go_ret2
      rw [HPD.out]
      exact ⟨A3, c3, rfl, hr3, hc3, hm3, hx3 w (HE.out.trans HX.out) HE.out.size⟩
end Go.Proofs.YtblijhokcjpeeaaGreatDoor
