/- DrawingPaths: the walk. -/
import Derived.Test.YtblijhokcjpeeaaGreatDoorNH
import Derived.Test.YtblijhokcjpeeaaGreatDoorNB
import Derived.Test.YtblijhokcjpeeaaGreatDoorMW
/- klippelaw54.path. -/
namespace Go.Proofs.YtblijhokcjpeeaaGreatDoor
open Go.RowKit Kl

theorem lawLineO_c (c : Cv) (hc : CvS c) (s : Sg) {a : Nat} (hs : SzS a s) (ha : 0 < a) (ha2 : a ≤ 200) (w : World) (hw : Okw w) :
    Calls Tryz.prog 16 #[cvV c, sgV s] w (RetRowO (lineD c s) w) := by
  cases h : clipR c s with
  | none => rw [lineD_none h]; exact lawLineO_none c hc s hs ha ha2 h w hw
  | some p => rw [lineD_some h]; exact lawLineO_some c hc s p hs ha ha2 h w hw
def pathL (c : Cv) (l : List Pt) : List (Int × Int) := (List.range l.length).flatMap (segL c l)
theorem path_same (c : Cv) (l : List Pt) : pathL c l = pathD c l := (seg_same c l).symm
set_option maxRecDepth 100000 in
set_option maxHeartbeats 8000000 in
theorem lawPath_c (c : Cv) (hc : CvS c) (l : List Pt) (A : Option Addr) (cap : Nat) (hn : l.length ≤ 200) (hcap : l.length ≤ cap) (hcm : cap ≤ 9223372036854775807) (hz : ∀ q ∈ l, SzP 20 q) (w : World) (hw : Okw w) (hr : RdC w A (flat (l.map ptT))) :
    Calls Tryz.prog 19 #[cvV c, .slice A l.length cap] w (RetRow (Lib.compact (pathL c l)) w) := by
  have e1 := (Ext.refl w).alloc (.cells #[S (R c.low.x), S (R c.low.y), S (R c.high.x), S (R c.high.y), .int .i64 (c.W : Nat), .int .i64 (c.H : Nat)] 35)
  have hC0 := BoxC.of (heap_alloc_new w (.cells #[S (R c.low.x), S (R c.low.y), S (R c.high.x), S (R c.high.y), .int .i64 (c.W : Nat), .int .i64 (c.H : Nat)] 35))
  have hln : ∀ i j : Nat, i < l.length → j < l.length → ∀ W, Okw W → Calls Tryz.prog 16 #[cvV c, sgV ⟨l[i]!, l[j]!⟩] W (RetRowO (lineD c ⟨l[i]!, l[j]!⟩) W) := fun i j hi hj W hW => lawLineO_c c hc _ (szs_get hz hi hj) (by omega) (by omega) W hW
  have HGL := Lib.hid (segL_length hc l)
  unfold cvV at hln ⊢
  have hn' : (l.length : Int) ≤ (200 : Int) := by omega
  have HR := Lib.hid hr
  clear hc hz hr
  go_enter Tryz.func19, Tryz.ntmps19
  go_upto_region 2 with fail
  generalize w.alloc (.cells #[S (R c.low.x), S (R c.low.y), S (R c.high.x), S (R c.high.y), .int .i64 (c.W : Nat), .int .i64 (c.H : Nat)] 35) = V at *
  obtain ⟨bc, hbc⟩ : ∃ bc, bc = w.heap.size := ⟨_, rfl⟩
  rw [← hbc] at hC0 ⊢
  clear hbc
  go_wp2
  go_loopw [5, 10] (fun out i wr => ∃ j : Nat, i = .int .i64 (j : Nat) ∧ j ≤ l.length ∧ wr.ownsRow V.heap.size 38 2 out ((List.range j).flatMap (segL c l)).length (dcells ((List.range j).flatMap (segL c l))) ∧ Ext V wr) (fun _ i _ => l.length - (intOf i).toNat)
  case atStart => exact ⟨0, rfl, by omega, World.ownsRow_nil _ _ _ _, Ext.refl _⟩
  case round =>
    obtain ⟨j, rfl, hj, hown, hext⟩ := hrel
    have hlen := rowOf_length HGL.out j
    have hsuc := rowOf_succ (segL c l) j
    obtain ⟨D, hD⟩ : ∃ D, D = (List.range j).flatMap (segL c l) := ⟨_, rfl⟩
    rw [← hD] at hown hlen hsuc
    by_cases hlt : j < l.length
    · have hj0 : (0 : Int) ≤ (j : Int) := by omega
      have hjl : (j : Int) < (l.length : Int) := by omega
      obtain ⟨b, o, rfl, g3, g4⟩ := rdC_ptR (HR.out.ext (e1.trans hext)) hlt
      obtain ⟨x1, hx1⟩ : ∃ x, x = l[j]!.x := ⟨_, rfl⟩
      obtain ⟨y1, hy1⟩ : ∃ x, x = l[j]!.y := ⟨_, rfl⟩
      rw [← hx1] at g3
      rw [← hy1] at g4
      have hY := Lib.hid (And.intro hx1 hy1)
      clear hx1 hy1
      go_upto_region 5 with fail
      have hbt := heap_alloc_new wr (.cells #[S (R x1), S (R y1)] 29)
      have hX4 := hext.alloc (.cells #[S (R x1), S (R y1)] 29)
      have hown0 := hown
      replace hown := own_ext hown ((Ext.refl wr).alloc (.cells #[S (R x1), S (R y1)] 29))
      generalize wr.alloc (.cells #[S (R x1), S (R y1)] 29) = w4 at *
      obtain ⟨bt, hbte⟩ : ∃ bt, bt = wr.heap.size := ⟨_, rfl⟩
      have hvn : u5.ownBlock ≠ some bt := fun e => by have := (hown0.lt bt e).2; omega
      have HVN := Lib.hid hvn
      rw [← hbte] at hbt ⊢
      clear hbte g3 g4 hext hvn hown0
      have hw4 := hw.ext (e1.trans hX4)
      have hC4 := hC0.ext hX4
      have HC4 := hC4
      obtain ⟨q1, q2, q3, q4, q5, q6⟩ := hC4
      have hC4 := HC4
      clear HC4
      have t1 := cell_of_blk (o := 0) hbt rfl
      have t2 := cell_of_blk (o := 1) hbt rfl
      have hjw : IntKind.i64.wrap ((j : Int) + 1) = (j : Int) + 1 := IntWalk.i64_in _ (by omega)
      by_cases hnx : j + 1 < l.length
      · have hnx' : (j : Int) + 1 < (l.length : Int) := by omega
        have hj1 : (0 : Int) ≤ (j : Int) + 1 := by omega
        have hjt : ((j : Int) + 1).toNat = j + 1 := by omega
        obtain ⟨b', o', e', g1, g2⟩ := rdC_ptR (HR.out.ext (e1.trans hX4)) hnx
        cases e'
        obtain ⟨x2, hx2⟩ : ∃ x, x = l[j + 1]!.x := ⟨_, rfl⟩
        obtain ⟨y2, hy2⟩ : ∃ x, x = l[j + 1]!.y := ⟨_, rfl⟩
        have ln := hln j (j + 1) hlt hnx
        unfold sgV at ln
        obtain ⟨LD, hLD⟩ : ∃ x, x = lineD c ⟨l[j]!, l[j + 1]!⟩ := ⟨_, rfl⟩
        have hseg : segL c l j = LD := by unfold segL; rw [if_pos hnx, hLD]
        rw [← hLD, ← hx2, ← hy2, ← hY.out.1, ← hY.out.2] at ln
        rw [← hx2] at g1
        rw [← hy2] at g2
        rw [hseg] at hsuc
        have HSUC := Lib.hid hsuc
        have hLl : LD.length ≤ 2001 := by rw [← hseg]; exact HGL.out j
        have HX2 := Lib.hid (And.intro hx2 hy2)
        clear hx2 hy2 hLD hseg hsuc hln
        go_upto_region 6 with fail
        have hG := rdC_ptR (HR.out.ext e1) hnx
        obtain ⟨b', o', e', G1, G2⟩ := hG
        cases e'
        rw [← HX2.out.1] at G1
        rw [← HX2.out.2] at G2
        go_region_held3 (fun w' => w'.cell? ⟨bc, 0, none⟩ = some (S (R c.low.x)) ∧ w'.cell? ⟨bc, 1, none⟩ = some (S (R c.low.y)) ∧ w'.cell? ⟨bc, 2, none⟩ = some (S (R c.high.x)) ∧ w'.cell? ⟨bc, 3, none⟩ = some (S (R c.high.y)) ∧ w'.cell? ⟨bc, 4, none⟩ = some (.int .i64 (c.W : Nat)) ∧ w'.cell? ⟨bc, 5, none⟩ = some (.int .i64 (c.H : Nat)) ∧ w'.cell? ⟨b, o + (j + 1) * 2, none⟩ = some (S (R x2)) ∧ w'.cell? ⟨b, o + (j + 1) * 2 + 1, none⟩ = some (S (R y2)) ∧ w'.cell? ⟨bt, 0, none⟩ = some (S (R x1)) ∧ w'.cell? ⟨bt, 1, none⟩ = some (S (R y1)))
          (first | exact ⟨r1, r2, r3, r4, r5, r6, p1, p2, p3, p4⟩ | exact ⟨q1, q2, q3, q4, q5, q6, g1, g2, t1, t2⟩)
          (first | ((with_reducible refine (ln _ ?_).mono ?_); (exact hw4.ext (Ext.refl w4).drew); rintro e w6 ⟨v6, rfl, ho6, hx6⟩; have X := (Ext.refl w4).drew.trans hx6; obtain ⟨A3, c3, rfl, hr3, _, _⟩ := RdC.of_own ho6 rfl; obtain ⟨r1, r2, r3, r4, r5, r6⟩ := hC4.ext X; have p1 := X.cellS g1; have p2 := X.cellS g2; have p3 := X.cellS t1; have p4 := X.cellS t2; have hown6 := own_ext hown X; have hX6 := hX4.trans X; have hs6 := hX6.size; have hbl := World.block_lt_of_cell? w6 _ p3) | (refine step_applD rfl _ _ rfl w6 V.heap.size u5 _ D rfl hown6 LD A3 c3 rfl hr3 (by omega) hs6 ?_; intro v8 w8 hown8 hx8 hgr; have Y := hx8 V hX6 (Nat.le_refl _); have Z3 := (World.cell?_of_block (a := ⟨bt, 0, none⟩) (hgr bt hbl HVN.out)).trans p3; have Z4 := (World.cell?_of_block (a := ⟨bt, 1, none⟩) (hgr bt hbl HVN.out)).trans p4; clear r1 r2 r3 r4 r5 r6 p1 p2 p3 p4; obtain ⟨r1, r2, r3, r4, r5, r6⟩ := hC0.ext Y; have p1 := Y.cellS G1; have p2 := Y.cellS G2; have p3 := Z3; have p4 := Z4))
        go_wp2
        go_roundw
        case rel => exact ⟨j + 1, by go_num, hlt, by rw [HSUC.out, List.length_append]; exact hown8, hx8 V hX6 (Nat.le_refl _)⟩
        case measure => simp [intOf]; omega
      · have hnx' : (l.length : Int) ≤ (j : Int) + 1 := by omega
        by_cases hj00 : j = 0
        · obtain rfl := hj00
          have ln := hln 0 0 hlt hlt
          unfold sgV at ln
          obtain ⟨LD, hLD⟩ : ∃ x, x = lineD c ⟨l[0]!, l[0]!⟩ := ⟨_, rfl⟩
          have hseg : segL c l 0 = LD := by unfold segL; rw [if_neg hnx, if_pos rfl, hLD]
          rw [← hLD, ← hY.out.1, ← hY.out.2] at ln
          have hsuc2 : (List.range (0 + 1)).flatMap (segL c l) = LD := by rw [hsuc, hseg, hD]; simp
          have HSUC := Lib.hid hsuc2
          clear hLD hseg hsuc hsuc2 hln
          go_wp2_with fail
          ((with_reducible refine (ln _ hw4).mono ?_); rintro e w6 ⟨v6, rfl, ho6, hx6⟩)
          have hown6 := own_lower ho6 hX4.size
          have hX6 := hX4.trans hx6
          clear ho6 hown hx6
          go_wp2
          go_roundw
          case rel => exact ⟨1, by go_num, by omega, by rw [HSUC.out]; exact hown6, hX6⟩
          case measure => simp [intOf]; omega
        · have hseg : segL c l j = [] := by unfold segL; rw [if_neg hnx, if_neg hj00]
          rw [hseg, List.append_nil] at hsuc
          have HSUC := Lib.hid hsuc
          have hj01 : (1 : Int) ≤ (j : Int) := by omega
          clear hseg hsuc
          go_wp2
          go_roundw
          case rel => exact ⟨j + 1, by go_num, hlt, by rw [HSUC.out]; exact hown, hX4⟩
          case measure => simp [intOf]; omega
    · have hend : j = l.length := by omega
      have hle : (l.length : Int) ≤ (j : Int) := by omega
      have hPD : pathL c l = D := by unfold pathL; rw [hD, hend]
      have HPD := Lib.hid hPD
      have cp := compact_c D _ wr V.heap.size hown
      have HX := Lib.hid hext
      have HE := Lib.hid e1
      clear hown hD hsuc hPD hlen hext e1
      go_wp2_with fail
      ((with_reducible refine cp.mono ?_); rintro e w3 ⟨A3, c3, rfl, hr3, hc3, hm3, hx3⟩)
      go_wp2
      go_ret
      rw [HPD.out]
      exact ⟨A3, c3, rfl, hr3, hc3, hm3, hx3 w (HE.out.trans HX.out) HE.out.size⟩
end Go.Proofs.YtblijhokcjpeeaaGreatDoor
namespace Go.Proofs.YtblijhokcjpeeaaGreatDoor
open Go.RowKit Kl

theorem rdC_head {w : World} {A : Option Addr} {p : Bs × Bs} {l : List (Bs × Bs)} (h : RdC w A (flat (p :: l))) : RdC w A (flat [p]) := by
  obtain ⟨b, o, e, hc⟩ := h.ad (by rw [flat_length]; simp)
  refine ⟨fun _ => ⟨b, o, e, fun j hj => ?_⟩⟩
  have e1 : flat (p :: l) = flat [p] ++ flat l := by unfold flat; simp
  have h2 := hc j (by rw [e1, List.length_append]; omega)
  rw [h2, ← List.getElem?_eq_getElem, ← List.getElem?_eq_getElem (l := flat [p]) hj, e1, List.getElem?_append_left hj]
open Classical in
set_option maxRecDepth 100000 in
set_option maxHeartbeats 16000000 in
theorem paths_c (f : Fr) (hf : f.Ok) (l : List (Bs × Bs)) (A : Option Addr) (cap : Nat) (hcap : l.length ≤ cap) (hcm : cap ≤ 9223372036854775807) (many : Nat) (hmany : many < 256) (w : World) (hw : Okw w) (hr : RdC w A (flat l)) :
    Calls Tryz.prog 5 #[frV f, .slice A l.length cap, .int .u8 (many : Nat)] w (RetB true w) := by
  have mk := make_c f hf
  have hc := frCv_ok f
  obtain ⟨bb, hbb⟩ : ∃ b : Bool, b = true ↔ ∀ p ∈ l, longP p = false := ⟨decide (∀ p ∈ l, longP p = false), decide_eq_true_iff⟩
  have br := fun W (hW : Ext w W) => brief_c l bb hbb A cap W (hr.ext hW) hcap hcm
  have HBB := Lib.hid hbb
  have HF := Lib.hid hf
  have HR := Lib.hid hr
  have hA := heap_alloc_new w (.cells #[.int .i8 f.a, .int .i8 f.b, .int .u8 f.s, .int .u8 f.t, .int .u8 f.u, .int .u8 f.v] 26)
  have hE := (Ext.refl w).alloc (.cells #[.int .i8 f.a, .int .i8 f.b, .int .u8 f.s, .int .u8 f.t, .int .u8 f.u, .int .u8 f.v] 26)
  unfold frV at mk
  unfold frV
  clear hbb hf hr
  go_enter Tryz.func5, Tryz.ntmps5
  go_upto_region 1 with fail
  generalize w.alloc (.cells #[.int .i8 f.a, .int .i8 f.b, .int .u8 f.s, .int .u8 f.t, .int .u8 f.u, .int .u8 f.v] 26) = V at *
  obtain ⟨bf, hbf⟩ : ∃ g, g = w.heap.size := ⟨_, rfl⟩
  rw [← hbf] at hA ⊢
  have hV := hw.ext hE
  clear hbf
  have kn := known_c V hV
  by_cases hl4 : 4 < l.length
  · have hl4' : (4 : Int) < (l.length : Int) := by omega
    clear br
    go_wp2_with fail
    ((with_reducible refine kn.mono ?_); rintro e w1 ⟨rfl, hx1⟩)
    have kn2 := known_c w1 (hV.ext hx1)
    go_wp2_with fail
    ((with_reducible refine kn2.mono ?_); rintro e w3 ⟨rfl, hx3⟩)
    go_wp2
    go_ret
    exact ⟨rfl, (hE.trans hx1).trans hx3⟩
  · have hl4' : (l.length : Int) ≤ (4 : Int) := by omega
    go_wp2_with fail
    ((with_reducible refine kn.mono ?_); rintro e w1 ⟨rfl, hx1⟩)
    have hE1 := hE.trans hx1
    have br1 := br w1 hE1
    clear br kn
    go_wp2_with fail
    ((with_reducible refine br1.mono ?_); rintro e w2 ⟨rfl, hx2⟩)
    have hA2 := ((hx1.trans hx2).block _ (lt_of_block hA)).trans hA
    have hE2 := hE1.trans hx2
    clear hA hx1 hx2 br1 hE1
    have hw2 := hw.ext hE2
    cases bb with
    | false =>
      have kn2 := known_c w2 hw2
      go_wp2_with fail
      ((with_reducible refine kn2.mono ?_); rintro e w3 ⟨rfl, hx3⟩)
      go_wp2
      go_ret
      exact ⟨rfl, hE2.trans hx3⟩
    | true =>
      have hlong := HBB.out.1 (by trivial)
      generalize frCv f = c at *
      unfold cvV at mk
      have k1 := cell_of_blk (o := 0) hA2 rfl
      have k2 := cell_of_blk (o := 1) hA2 rfl
      have k3 := cell_of_blk (o := 2) hA2 rfl
      have k4 := cell_of_blk (o := 3) hA2 rfl
      have k5 := cell_of_blk (o := 4) hA2 rfl
      have k6 := cell_of_blk (o := 5) hA2 rfl
      have HLONG := Lib.hid hlong
      clear hlong
      go_wp2_with fail
      ((with_reducible refine (mk _ hw2).mono ?_); rintro e w3 ⟨rfl, hx3⟩)
      have hE3 := hE2.trans hx3
      have hC := heap_alloc_new w3 (.cells #[S (R c.low.x), S (R c.low.y), S (R c.high.x), S (R c.high.y), .int .i64 (c.W : Nat), .int .i64 (c.H : Nat)] 35)
      have hE4 := hE3.alloc (.cells #[S (R c.low.x), S (R c.low.y), S (R c.high.x), S (R c.high.y), .int .i64 (c.W : Nat), .int .i64 (c.H : Nat)] 35)
      clear k1 k2 k3 k4 k5 k6 hx3 hA2 hE2 hE3 mk
      go_upto_region 4 with fail
      generalize w3.alloc (.cells #[S (R c.low.x), S (R c.low.y), S (R c.high.x), S (R c.high.y), .int .i64 (c.W : Nat), .int .i64 (c.H : Nat)] 35) = w4 at *
      obtain ⟨bc, hbc⟩ : ∃ g, g = w3.heap.size := ⟨_, rfl⟩
      rw [← hbc] at hC ⊢
      clear hbc
      have hw4 := hw.ext hE4
      obtain ⟨gb, hgb⟩ : ∃ b : Bool, b = true ↔ many % 8 = 7 ∧ 0 < l.length := ⟨decide (many % 8 = 7 ∧ 0 < l.length), decide_eq_true_iff⟩
      have HGB := Lib.hid hgb
      go_cut [33] (fun v33 wx => v33 = .bool gb ∧ wx = w4)
      case first =>
        by_cases h7 : many % 8 = 7 ∧ 0 < l.length
        · have hg : gb = true := hgb.2 h7
          obtain ⟨h7, hl0⟩ := h7
          have h7' : (many : Int) % 8 = 7 := by omega
          have hl0' : (0 : Int) < (l.length : Int) := by omega
          clear hgb h7
          go_wp2
          go_meet
          exact ⟨by rw [hg], rfl⟩
        · have hg : gb = false := by cases gb with | false => rfl | true => exact absurd (hgb.1 rfl) h7
          by_cases h8 : many % 8 = 7
          · have h8' : (many : Int) % 8 = 7 := by omega
            have hl0' : (l.length : Int) ≤ 0 := by omega
            clear h7 h8 hgb
            go_wp2
            go_meet
            exact ⟨by rw [hg, decide_eq_false (by omega)], rfl⟩
          · have h8' : ((many : Int) % 8 == 7) = false := by simp; omega
            clear h7 h8 hgb
            go_wp2
            go_meet
            exact ⟨by rw [hg], rfl⟩
      case rest =>
        obtain ⟨rfl, rfl⟩ := hcut
        go_upto_if 33 with (fail)
        go_cut [1] (fun v1 wx => ∃ (l' : List (Bs × Bs)) (A' : Option Addr) (cap' : Nat), v1 = .slice A' l'.length cap' ∧ RdC wx A' (flat l') ∧ l'.length ≤ cap' ∧ cap' ≤ 9223372036854775807 ∧ l'.length ≤ 202 ∧ (∀ p ∈ l', longP p = false) ∧ Ext wc wx)
        case first =>
          cases gb with
          | false =>
            go_wp2
            go_meet
            exact ⟨l, A, cap, rfl, HR.out.ext hE4, hcap, hcm, by omega, HLONG.out, Ext.refl _⟩
          | true =>
            obtain ⟨h7, hl0⟩ := HGB.out.1 rfl
            obtain ⟨p, r, rfl⟩ : ∃ p r, l = p :: r := by cases l with | nil => simp at hl0 | cons p r => exact ⟨p, r, rfl⟩
            obtain ⟨ba, oa, rfl, _⟩ := HR.out.ad (by rw [flat_length]; simp)
            obtain ⟨m, hm⟩ : ∃ m, m = 199 + many / 8 % 4 := ⟨_, rfl⟩
            have hmw : IntKind.i64.wrap (199 + (many : Int) / 8 % 4) = (m : Int) := by rw [IntWalk.i64_in _ (by omega)]; omega
            have rp := repeat_c p (some ⟨ba, oa, none⟩) cap m (by omega) (by omega) wc (rdC_head (HR.out.ext hE4))
            have hfl : ∀ q ∈ List.replicate m p, longP q = false := fun q hq => by rw [(List.mem_replicate.1 hq).2]; exact HLONG.out p (by simp)
            have HFL := Lib.hid hfl
            have hm202 : m ≤ 202 := by omega
            have hcap1 : (1 : Int) ≤ (cap : Int) := by simp at hcap; omega
            have hcap2 : (1 : Int) ≤ ((p :: r).length : Int) := by simp; omega
            clear hm h7 hl0 hfl hgb
            go_wp2_with fail
            ((with_reducible refine rp.mono ?_); rintro e w5 ⟨A5, rfl, hr5, hx5⟩)
            go_wp2
            go_meet
            exact ⟨List.replicate m p, A5, m, by simp, hr5, by simp, by omega, by simp; omega, HFL.out, hx5⟩
        case rest =>
          obtain ⟨l', A', cap', rfl, hr', hcap', hcm', hl', hlong', hxc⟩ := hcut
          have hE5 := hE4.trans hxc
          have hC5 := (hxc.block _ (lt_of_block hC)).trans hC
          have hw5 := hw.ext hE5
          have hC0 := BoxC.of hC5
          obtain ⟨q1, q2, q3, q4, q5, q6⟩ := hC0
          clear HR HLONG HGB hgb hC hxc hE4 hw4 hcap hcm hl4 hl4' hV
          have HL' := Lib.hid hlong'
          by_cases hlim : 200 < l'.length
          · have hlim' : (200 : Int) < (l'.length : Int) := by omega
            have pl := Path_limit c hc A' l'.length cap' hlim _ hw5
            unfold cvV at pl
            clear hlong' hr' hlim
            go_wp2_with fail
            ((with_reducible refine pl.mono ?_); rintro e w6 ⟨rfl, hx6⟩)
            go_wp2
            go_ret
            exact ⟨rfl, hE5.trans hx6⟩
          · have hlim' : (l'.length : Int) ≤ (200 : Int) := by omega
            have hsh : shortPts l' := fun p hp => by have := longP_no (hlong' p hp); omega
            by_cases hp : okPts l'
            · obtain ⟨ps, rfl, hz⟩ := pts_of hp hlong'
              have hln : (ps.map ptT).length = ps.length := by simp
              have rt := right_c (ps.map ptT) true (by
                simp only [true_iff]
                intro q hq
                unfold badP
                simpa using hp q hq) hsh A' cap'
              rw [hln] at hcap' hl' hlim' hlim rt ⊢
              have po := Path_ok c hc ps A' cap' (by omega) hcap' hcm' hz _ hw5 hr'
              have lp := fun W hW hR => lawPath_c c hc ps A' cap' (by omega) hcap' hcm' hz W hW hR
              have hps := path_same c ps
              obtain ⟨L, hL⟩ : ∃ L, L = Lib.compact (pathD c ps) := ⟨_, rfl⟩
              rw [hps, ← hL] at lp
              rw [← hL] at po
              unfold cvV at po lp
              clear hlong' HL' hlim hp hsh hps hL hz hln
              go_wp2_with fail
              ((with_reducible refine po.mono ?_); rintro e w6 ⟨A6, c6, rfl, hr6, hc6, hm6, hx6⟩)
              have hE6 := hE5.trans hx6
              have hC6 := (hx6.block _ (lt_of_block hC5)).trans hC5
              have hrA6 := hr'.ext hx6
              have rt1 := rt w6 (hw5.ext hx6) hrA6 hcap' hcm'
              clear rt po q1 q2 q3 q4 q5 q6 hx6 hr' hC5 hE5 hw5
              go_wp2_with fail
              ((with_reducible refine rt1.mono ?_); rintro e w7 ⟨rfl, hx7⟩)
              have hE7 := hE6.trans hx7
              have hC7 := (hx7.block _ (lt_of_block hC6)).trans hC6
              have hr7 := hr6.ext hx7
              have lp1 := lp w7 (hw.ext hE7) (hrA6.ext hx7)
              obtain ⟨q1, q2, q3, q4, q5, q6⟩ := BoxC.of hC7
              clear lp rt1 hx7 hr6 hC6 hE6 hrA6
              go_wp2_with fail
              ((with_reducible refine lp1.mono ?_); rintro e w8 ⟨A8, c8, rfl, hr8, hc8, hm8, hx8⟩)
              have eq := equal_dots L A6 A8 c6 c8 w8 (hr7.ext hx8) hr8 hc6 hm6 hc8 hm8
              clear lp1
              go_wp2_with fail
              ((with_reducible refine eq.mono ?_); rintro e w9 ⟨rfl, hx9⟩)
              go_wp2
              go_ret
              exact ⟨rfl, (hE7.trans hx8).trans hx9⟩
            · have pb := Path_bad c hc l' A' cap' (by omega) hcap' hcm' hp hsh _ hw5 hr'
              have rt := right_c l' false (by
                simp only [Bool.false_eq_true, false_iff]
                intro h
                exact hp fun q hq => by have := h q hq; unfold badP at this; simpa using this) hsh A' cap'
              unfold cvV at pb
              clear hlong' hlim hp hsh
              go_wp2_with fail
              ((with_reducible refine pb.mono ?_); rintro e w6 ⟨rfl, hx6⟩)
              have rt1 := rt w6 (hw5.ext hx6) (hr'.ext hx6) hcap' hcm'
              clear rt
              go_wp2_with fail
              ((with_reducible refine rt1.mono ?_); rintro e w7 ⟨rfl, hx7⟩)
              go_wp2
              go_ret
              exact ⟨rfl, (hE5.trans hx6).trans hx7⟩
end Go.Proofs.YtblijhokcjpeeaaGreatDoor
