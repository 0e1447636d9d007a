/- drawing.Hatch. -/
import Derived.Test.YtblijhokcjpeeaaGreatDoorMS
/- drawing.hatch. -/
namespace Go.Proofs.YtblijhokcjpeeaaGreatDoor
open Go.RowKit Kl

def px (p : List Pt) (i : Nat) : Pt := p.getD i ⟨0, 0⟩
def bx (B : List Rat) (i : Nat) : Rat := B.getD i 0
def shareR (B : List Rat) (i k : Nat) : Rat := bx B i / (bx B i - bx B k)
def crossR (p : List Pt) (B : List Rat) (i k : Nat) : Pt := atR ⟨px p i, px p k⟩ (shareR B i k)
def onStep (p : List Pt) (B : List Rat) (i : Nat) : List Pt :=
  (if sgnR (bx B i) = 0 then [px p i] else []) ++
  (if sgnR (bx B i) * sgnR (bx B ((i + 1) % p.length)) < 0 then [crossR p B i ((i + 1) % p.length)] else [])
def onR (p : List Pt) (B : List Rat) (n : Nat) : List Pt := (List.range n).flatMap (onStep p B)
theorem onR_succ (p : List Pt) (B : List Rat) (n : Nat) : onR p B (n + 1) = onR p B n ++ onStep p B n := by
  unfold onR
  rw [List.range_succ, List.flatMap_append]
  simp
theorem px_eq {p : List Pt} {i : Nat} (h : i < p.length) : px p i = p[i] := by unfold px; rw [List.getD_eq_getElem?_getD, List.getElem?_eq_getElem h]; rfl
theorem bx_eq {p : List Rat} {i : Nat} (h : i < p.length) : bx p i = p[i] := by unfold bx; rw [List.getD_eq_getElem?_getD, List.getElem?_eq_getElem h]; rfl
theorem rdC_px {w : World} {A : Option Addr} {l : List Pt} (hr : RdC w A (flat (ptsT l))) {j : Nat} (h : j < l.length) : ∃ b o, A = some ⟨b, o, none⟩ ∧ w.cell? ⟨b, o + j * 2, none⟩ = some (S (R (px l j).x)) ∧ w.cell? ⟨b, o + j * 2 + 1, none⟩ = some (S (R (px l j).y)) := by
  rw [px_eq h]; exact rdC_pt hr h
theorem rdC_bx {w : World} {A : Option Addr} {l : List Rat} (hr : RdC w A (rats l)) {j : Nat} (h : j < l.length) : ∃ b o, A = some ⟨b, o, none⟩ ∧ w.cell? ⟨b, o + j, none⟩ = some (S (R (bx l j))) := by
  obtain ⟨b, o, e, hcs⟩ := hr.ad (by rw [rats_length]; omega)
  have := hcs j (by rw [rats_length]; exact h)
  unfold rats at this
  rw [List.getElem_map] at this
  rw [bx_eq h]
  exact ⟨b, o, e, this⟩
theorem sgnR_three (q : Rat) : sgnR q = -1 ∨ sgnR q = 0 ∨ sgnR q = 1 := by unfold sgnR; split <;> (try split) <;> simp
theorem sgn_sub_ne {a b : Rat} (h : sgnR a * sgnR b < 0) : a - b ≠ 0 := by
  intro e
  have : a = b := by grind
  subst this
  rcases sgnR_three a with h1 | h1 | h1 <;> rw [h1] at h <;> omega
theorem onStep_length (p : List Pt) (B : List Rat) (i : Nat) : (onStep p B i).length ≤ 2 := by
  unfold onStep; rw [List.length_append]; split <;> split <;> simp
theorem onR_length (p : List Pt) (B : List Rat) (n : Nat) : (onR p B n).length ≤ 2 * n := by
  induction n with
  | zero => simp [onR]
  | succ n ih => rw [onR_succ, List.length_append]; have := onStep_length p B n; omega
theorem blk4s_set {w : World} {b : Nat} {a0 a1 a2 a3 : Value} {t : TypeId} (v0 v1 v2 v3 : Value) (h : w.heap[b]? = some (.cells #[a0, a1, a2, a3] t)) :
    ((((w.setCell ⟨b, 0, none⟩ v0).setCell ⟨b, 1, none⟩ v1).setCell ⟨b, 2, none⟩ v2).setCell ⟨b, 3, none⟩ v3).heap[b]? = some (.cells #[v0, v1, v2, v3] t) := by
  simp only [World.setCell, Array.getElem?_modify, h]
  simp
theorem Tryz.sizeSeg : (Tryz.prog.info? 31).map (·.size) = some 4 := by kernel_rfl

set_option maxRecDepth 100000 in
set_option maxHeartbeats 16000000 in
theorem hatch_c (p : List Pt) (B : List Rat) (hn : B.length = p.length) (h0 : 0 < p.length) (h60 : p.length ≤ 60) {k kb kd km ko : Nat} (hz : ∀ q ∈ p, SzP k q) (hzb : ∀ q ∈ B, Sz kb q)
    (hzd : ∀ i < p.length, Sz kd (bx B i - bx B ((i + 1) % p.length))) (hzm : ∀ i < p.length, Sz km (shareR B i ((i + 1) % p.length)))
    (hon : onR p B p.length ≠ []) (hzo : ∀ q ∈ onR p B p.length, SzP ko q)
    (hk : 0 < k) (hkb : 0 < kb) (hkd : 0 < kd) (hkm : 0 < km) (hko : 0 < ko) (hkm2 : 3 * k + km ≤ 3900) (hkb2 : kb ≤ 1000) (hkd2 : kd ≤ 1000) (hko2 : ko ≤ 400)
    (A A' : Option Addr) (c c' : Nat) (w : World) (hw : Okw w) (hr : RdC w A (flat (ptsT p))) (hr' : RdC w A' (rats B)) :
    Calls Tryz.prog 72 #[.slice A p.length c, .slice A' p.length c'] w (RetV (sgV ⟨foldP minP (onR p B p.length), foldP maxP (onR p B p.length)⟩) w) := by
  obtain ⟨b, o, rfl, hq1, hq2⟩ := rdC_px hr h0
  obtain ⟨b', o', rfl, hq3⟩ := rdC_bx hr' (show 0 < B.length by omega)
  have hbw : b < w.heap.size := World.block_lt_of_cell? w _ hq1
  clear hq1 hq2 hq3
  have HZ := Lib.hid hz
  have HZB := Lib.hid hzb
  have HZD := Lib.hid hzd
  have HZM := Lib.hid hzm
  have HN := Lib.hid hn
  have HON := Lib.hid hon
  have HZO := Lib.hid hzo
  have hV0 := (Ext.refl w).alloc (.cells #[S [], S [], S [], S []] 31)
  have hbr := heap_alloc_new w (.cells #[S [], S [], S [], S []] 31)
  have hVs : (w.alloc (.cells #[S [], S [], S [], S []] 31)).heap.size = w.heap.size + 1 := World.size_alloc ..
  clear hz hzb hzd hzm hn hon hzo
  go_enter Tryz.func72, Tryz.ntmps72
  go_wp2
  generalize w.alloc (.cells #[S [], S [], S [], S []] 31) = V at *
  obtain ⟨br, hbre⟩ : ∃ b, b = w.heap.size := ⟨_, rfl⟩
  rw [← hbre] at hbr ⊢
  have HBR := Lib.hid hbre
  have HVS := Lib.hid hVs
  clear hbre hVs
  go_loopw [5, 15] (fun v i wr => ∃ j : Nat, i = .int .i64 (j : Nat) ∧ j ≤ p.length ∧ wr.ownsRow V.heap.size 29 2 v (onR p B j).length (flat (ptsT (onR p B j))) ∧ Ext V wr) (fun _ i _ => p.length - (intOf i).toNat)
  case atStart => exact ⟨0, rfl, by omega, ⟨rfl, .inl ⟨rfl, rfl⟩⟩, Ext.refl _⟩
  case round =>
    obtain ⟨j, rfl, hj, hown, hext⟩ := hrel
    by_cases hlt : j < p.length
    · obtain ⟨kk, hkk⟩ : ∃ kk, kk = (j + 1) % p.length := ⟨_, rfl⟩
      have hkl : kk < p.length := by rw [hkk]; exact Nat.mod_lt _ h0
      have hki : ((j : Int) + 1) % (p.length : Int) = (kk : Int) := by rw [hkk]; simp
      have hX := hV0.trans hext
      obtain ⟨_, _, e1, hg1, hg2⟩ := rdC_px (hr.ext hX) hlt
      obtain ⟨_, _, e2, hg3, hg4⟩ := rdC_px (hr.ext hX) hkl
      obtain ⟨_, _, e3, hg5⟩ := rdC_bx (hr'.ext hX) (show j < B.length by rw [HN.out]; exact hlt)
      obtain ⟨_, _, e4, hg6⟩ := rdC_bx (hr'.ext hX) (show kk < B.length by rw [HN.out]; exact hkl)
      simp only [Option.some.injEq, Addr.mk.injEq, and_true] at e1 e2 e3 e4
      obtain ⟨rfl, rfl⟩ := e1
      obtain ⟨e2, e2'⟩ := e2
      subst e2 e2'
      obtain ⟨rfl, rfl⟩ := e3
      obtain ⟨e4, e4'⟩ := e4
      subst e4 e4'
      have hzj := HZ.out p[j] (List.getElem_mem hlt)
      have hzk := HZ.out p[kk] (List.getElem_mem hkl)
      have hbj := HZB.out (B[j]'(by rw [HN.out]; exact hlt)) (List.getElem_mem _)
      have hbk := HZB.out (B[kk]'(by rw [HN.out]; exact hkl)) (List.getElem_mem _)
      have hsd := HZD.out j hlt
      have hsm := HZM.out j hlt
      rw [← hkk] at hsd hsm
      rw [← px_eq] at hzj hzk
      rw [← bx_eq] at hbj hbk
      have at1 := at_c ⟨px p j, px p kk⟩ (shareR B j kk) ⟨hzj, hzk⟩ hsm hk hkm hkm2
      have sb1 := rSub_c (bx B j) (bx B kk) (a := kb) (b := kb) ⟨hbj, hbk, hkb, hkb, by omega⟩
      have dv1 : bx B j - bx B kk ≠ 0 → ∀ w, Okw w → _ := fun h => rDiv_c (bx B j) (bx B j - bx B kk) h (a := kb) (b := kd) ⟨hbj, hsd, hkb, hkd, by omega⟩
      have hst : onR p B (j + 1) = onR p B j ++ ((if sgnR (bx B j) = 0 then [px p j] else []) ++ (if sgnR (bx B j) * sgnR (bx B kk) < 0 then [crossR p B j kk] else [])) := by rw [onR_succ, hkk]; rfl
      have hlen2 := onR_length p B j
      have hsx : sgnR (bx B j) * sgnR (bx B kk) < 0 → bx B j - bx B kk ≠ 0 := sgn_sub_ne
      have hcr : crossR p B j kk = atR ⟨px p j, px p kk⟩ (shareR B j kk) := rfl
      have hsh : shareR B j kk = bx B j / (bx B j - bx B kk) := rfl
      have h3s := sgnR_three (bx B j)
      have h3t := sgnR_three (bx B kk)
      have s1 := rSign_c (bx B j)
      have s2 := rSign_c (bx B kk)
      generalize px p j = pa at *
      generalize px p kk = pb at *
      generalize bx B j = x at *
      generalize bx B kk = y at *
      generalize hs : sgnR x = s at *
      generalize ht : sgnR y = t at *
      have HST := Lib.hid hst
      have hj0 : (0 : Int) ≤ (j : Int) := by omega
      have hjl : (j : Int) < (p.length : Int) := by omega
      have hjl2 : (p.length : Int) ≤ 60 := by omega
      have hk0 : (0 : Int) ≤ (kk : Int) := by omega
      have hkl' : (kk : Int) < (p.length : Int) := by omega
      have HKK := Lib.hid hkk
      have HCR := Lib.hid hcr
      have HSH := Lib.hid hsh
      have HS := Lib.hid hs
      have HT := Lib.hid ht
      have hx1 := hext.alloc (.cells #[S (R pa.x), S (R pa.y)] 29)
      have hbx := heap_alloc_new wr (.cells #[S (R pa.x), S (R pa.y)] 29)
      have hxx := (Ext.refl wr).alloc (.cells #[S (R pa.x), S (R pa.y)] 29)
      have hg3' := hxx.cellS hg3
      have hg4' := hxx.cellS hg4
      have hg5' := hxx.cellS hg5
      have hg6' := hxx.cellS hg6
      have hownU := own_ext hown hxx
      have hvb : ∀ g, u5.ownBlock = some g → V.heap.size ≤ g ∧ g < wr.heap.size := hown.lt
      have HVB := Lib.hid hvb
      have HDV := Lib.hid dv1
      clear hs ht hst hkk hcr hsh hvb dv1 hzj hzk hbj hbk hsd hsm
      go_upto_region 6 with fail
      rw [hki]
      clear hki hg1 hg2 hg3 hg4 hg5 hg6
      generalize wr.alloc (.cells #[S (R pa.x), S (R pa.y)] 29) = U at *
      obtain ⟨bp, hbpe⟩ : ∃ g, g = wr.heap.size := ⟨_, rfl⟩
      rw [← hbpe] at hbx ⊢
      have HBP := Lib.hid hbpe
      have hUs := hxx.size
      have hU := hw.ext (hV0.trans hx1)
      clear hbpe hxx
      go_region_held3 (fun w' => w'.cell? ⟨b', o' + j, none⟩ = some (S (R x)) ∧ w'.cell? ⟨b', o' + kk, none⟩ = some (S (R y)))
        (go_keep)
        (first | ((with_reducible refine (s1 _).mono ?_); rintro e w5 ⟨rfl, hx5⟩; have X5 : Ext U w5 := (Ext.refl U).drew.trans hx5; have d1 := X5.cellS hg5'; have d2 := X5.cellS hg6') | ((with_reducible refine (s2 _).mono ?_); rintro e w6 ⟨rfl, hx6⟩; have X6 : Ext U w6 := X5.trans hx6; have f1 := X6.cellS hg5'; have f2 := X6.cellS hg6'))
      have hbx6 := (X6.block _ (lt_of_block hbx)).trans hbx
      have e1 := X6.cellS hg3'
      have e2 := X6.cellS hg4'
      have hown6 := own_ext hownU X6
      have c1 := cell_of_blk (o := 0) hbx6 rfl
      have c2 := cell_of_blk (o := 1) hbx6 rfl
      have hE6 : Ext V w6 := hx1.trans X6
      have hw6 := hU.ext X6
      have hn6 : (onR p B j).length < 200000 := by omega
      have hb6 := hE6.size
      clear hg5' hg6' hg3' hg4' hbx hU hownU hx1 hown hext hX d1 d2 X5 hx5 hx6
      by_cases hs0 : s = 0
      · have HEQ : Hid (onR p B (j + 1) = onR p B j ++ [pa]) := Lib.hid (by rw [HST.out, if_pos hs0, hs0]; simp)
        clear HST hsx h3s
        subst hs0
        go_wp2_with (at_builtin; go_loud (refine appPt rfl _ _ rfl _ V.heap.size u5 _ (onR p B j) rfl (own_ext hown6 ((Ext.refl w6).alloc _)) hn6 pa w6.heap.size (heap_alloc_new w6 _) rfl (by simp; omega) ?_); intro v8 w8 hown8 hx8)
        have HX8 := Lib.hid (hx8 V (hE6.alloc _) (Nat.le_refl _))
        clear hx8
        go_wp2
        go_roundw
        case rel => exact ⟨j + 1, by go_num, hlt, by rw [HEQ.out, List.length_append, List.length_singleton]; exact hown8, HX8.out⟩
        case measure => simp [intOf]; omega
      · have hsb : (s == 0) = false := by rw [beq_eq_false_iff_ne]; exact hs0
        have hst1 : -1 ≤ s * t := by rcases h3s with h | h | h <;> rcases h3t with h' | h' | h' <;> rw [h, h'] <;> omega
        have hst2 : s * t ≤ 1 := by rcases h3s with h | h | h <;> rcases h3t with h' | h' | h' <;> rw [h, h'] <;> omega
        obtain ⟨m, hm⟩ : ∃ m, m = s * t := ⟨_, rfl⟩
        have hmw : wrap64 (s * t) = m := by rw [hm]; unfold wrap64; omega
        by_cases hm0 : s * t < 0
        · have HEQ : Hid (onR p B (j + 1) = onR p B j ++ [crossR p B j kk]) := Lib.hid (by rw [HST.out, if_neg hs0, if_pos hm0]; simp)
          have dv1 := HDV.out (hsx hm0)
          rw [← HSH.out] at dv1
          have HCR2 := Lib.hid HCR.out
          have hq := HCR.out
          generalize crossR p B j kk = q at *
          generalize shareR B j kk = sh at *
          rw [← hq] at at1
          unfold sgV ptV at at1
          unfold retRE at dv1
          have hm1 : m < 0 := by omega
          generalize x - y = xy at *
          clear hst1 hst2 hm0 hm hsx h3s h3t hs0 hq HCR HCR2 HSH HDV HST
          go_upto_region 10 with fail
          go_region_held3 (fun w' => w'.cell? ⟨b', o' + j, none⟩ = some (S (R x)) ∧ w'.cell? ⟨b', o' + kk, none⟩ = some (S (R y)))
            (go_keep)
            (first | ((with_reducible refine (sb1 _ (hw6.ext (Ext.refl w6).drew)).mono ?_); rintro e w7 ⟨rfl, hx7⟩; have X7 : Ext w6 w7 := (Ext.refl w6).drew.trans hx7; have k1 := X7.cellS f1; have k2 := X7.cellS f2) | ((with_reducible refine (dv1 _ (hw6.ext X7)).mono ?_); rintro e w8 ⟨rfl, hx8⟩; have X8 : Ext w6 w8 := X7.trans hx8; have l1 := X8.cellS f1; have l2 := X8.cellS f2))
          have r1 := X8.cellS c1
          have r2 := X8.cellS c2
          have r3 := X8.cellS e1
          have r4 := X8.cellS e2
          have hE8 := hE6.trans X8
          have hw8 := hw6.ext X8
          have hown9 := own_ext hown6 X8
          have hsz8 := hE8.size
          have hvb1 : u5.ownBlock ≠ some bp := fun e => by have := (HVB.out _ e).2; have := HBP.out; omega
          have hvb2 : u5.ownBlock ≠ some b := fun e => by have := (HVB.out _ e).1; have := HVS.out; omega
          have hvn1 := Lib.hid (Ne.symm hvb1)
          have hvn2 := Lib.hid (Ne.symm hvb2)
          have hbp8 : bp < w8.heap.size := World.block_lt_of_cell? w8 _ r1
          have hb8 : b < w8.heap.size := World.block_lt_of_cell? w8 _ r3
          clear k1 k2 l1 l2 X7 hx7 hx8 X8 f1 f2 hE6 hw6 hown6 c1 c2 e1 e2 hbx6 hvb1 hvb2
          go_upto_region 11 with fail
          go_region_held3 (fun w' => w'.cell? ⟨bp, 0, none⟩ = some (S (R pa.x)) ∧ w'.cell? ⟨bp, 1, none⟩ = some (S (R pa.y)) ∧ w'.cell? ⟨b, o + kk * 2, none⟩ = some (S (R pb.x)) ∧ w'.cell? ⟨b, o + kk * 2 + 1, none⟩ = some (S (R pb.y)))
            (go_keep)
            (first | ((with_reducible refine (at1 _ (hw8.ext (Ext.refl w8).drew)).mono ?_); rintro e w9 ⟨rfl, hx9⟩; have X9 : Ext w8 w9 := (Ext.refl w8).drew.trans hx9; have m1 := X9.cellS r1; have m2 := X9.cellS r2; have m3 := X9.cellS r3; have m4 := X9.cellS r4; have hownA := own_ext hown9 (X9.alloc (.cells #[S (R q.x), S (R q.y)] 29)); have hsA := (X9.alloc (.cells #[S (R q.x), S (R q.y)] 29)).size) | (refine step_appPt rfl _ _ rfl (w9.alloc (.cells #[S (R q.x), S (R q.y)] 29)) V.heap.size u5 _ (onR p B j) rfl hownA hn6 q w9.heap.size (heap_alloc_new w9 _) rfl (by omega) ?_; intro v10 w10 hown10 hx10 hgr; have XA := X9.alloc (.cells #[S (R q.x), S (R q.y)] 29); have n1 := (World.cell?_of_block (a := ⟨bp, 0, none⟩) (hgr.block bp (by omega) hvn1.out)).trans (XA.cellS r1); have n2 := (World.cell?_of_block (a := ⟨bp, 1, none⟩) (hgr.block bp (by omega) hvn1.out)).trans (XA.cellS r2); have n3 := (World.cell?_of_block (a := ⟨b, o + kk * 2, none⟩) (hgr.block b (by omega) hvn2.out)).trans (XA.cellS r3); have n4 := (World.cell?_of_block (a := ⟨b, o + kk * 2 + 1, none⟩) (hgr.block b (by omega) hvn2.out)).trans (XA.cellS r4)))
          have HX10 := Lib.hid (hx10 V (hE8.trans XA) (Nat.le_refl _))
          clear hx10 hgr
          go_wp2
          go_roundw
          case rel => exact ⟨j + 1, by go_num, hlt, by rw [HEQ.out, List.length_append, List.length_singleton]; exact hown10, HX10.out⟩
          case measure => simp [intOf]; omega
        · have HEQ : Hid (onR p B (j + 1) = onR p B j) := Lib.hid (by rw [HST.out, if_neg hs0, if_neg hm0]; simp)
          have hm1 : 0 ≤ m := by omega
          clear hst1 hst2 hm0 hm hsx h3s h3t hs0
          go_wp2
          go_roundw
          case rel => exact ⟨j + 1, by go_num, hlt, by rw [HEQ.out]; exact hown6, hE6⟩
          case measure => simp [intOf]; omega
    · have hje : j = p.length := by omega
      subst hje
      obtain ⟨A, ca, rfl, hrd, hk1, hk2⟩ := RdC.of_own' (by omega) hown
      have hln : 0 < (onR p B p.length).length := List.length_pos_iff.2 HON.out
      have mn := minFuncP_c (onR p B p.length) hln hko hko2 HZO.out A ca
      have mx := maxFuncP_c (onR p B p.length) hln hko hko2 HZO.out A ca
      have hX := hV0.trans hext
      have hbr1 := (hext.block _ (lt_of_block hbr)).trans hbr
      have hwr := hw.ext hX
      have hge : w.heap.size ≤ br := by have := HBR.out; omega
      generalize onR p B p.length = on at *
      have mn1 := mn wr hwr hrd hk1 hk2
      have mx1 := fun w' hx => mx w' (hwr.ext hx) (hrd.ext hx) hk1 hk2
      generalize foldP minP on = qa at *
      generalize foldP maxP on = qb at *
      generalize on.length = no at *
      unfold ptV at mn1 mx1
      have HBR1 := Lib.hid hbr1
      clear mn mx hrd hown hbr hln hlt
      go_wp2_with fail
      ((with_reducible refine mn1.mono ?_); rintro e w2 ⟨rfl, hx2⟩)
      go_wp2_with fail
      ((with_reducible refine (mx1 _ hx2).mono ?_); rintro e w3 ⟨rfl, hx3⟩)
      have hx23 := hx2.trans hx3
      have hbr2 := (hx23.block _ (lt_of_block hbr1)).trans hbr1
      have k1 := cell_of_blk (o := 0) hbr2 rfl
      have k2 := cell_of_blk (o := 1) hbr2 rfl
      have k3 := cell_of_blk (o := 2) hbr2 rfl
      have k4 := cell_of_blk (o := 3) hbr2 rfl
      have g1 := free_of_blk (o := 0) hbr2
      have g2 := free_of_blk (o := 1) hbr2
      have g3 := free_of_blk (o := 2) hbr2
      have g4 := free_of_blk (o := 3) hbr2
      have hE := hX.trans hx23
      have hfin := blk4s_set (S (R qa.x)) (S (R qa.y)) (S (R qb.x)) (S (R qb.y)) hbr2
      have hE6 := (((hE.setCell (p := ⟨br, 0, none⟩) hge (S (R qa.x))).setCell (p := ⟨br, 1, none⟩) hge (S (R qa.y))).setCell (p := ⟨br, 2, none⟩) hge (S (R qb.x))).setCell (p := ⟨br, 3, none⟩) hge (S (R qb.y))
      have HFIN := Lib.hid hfin
      clear hbr2 hfin
      go_wp2
      (try simp only [Exit.inBlock, Exit.then])
      refine bodyPost_ret (results_cell_row rfl _ _ br 31 #[S (R qa.x), S (R qa.y), S (R qb.x), S (R qb.y)] (0, 0) _ rfl HFIN.out Tryz.underlying31 rfl Tryz.sizeSeg) rfl ?_
      exact ⟨rfl, hE6⟩
end Go.Proofs.YtblijhokcjpeeaaGreatDoor
/- integer.Sub; what drawing.Hatch computes. -/
namespace Go.Proofs.YtblijhokcjpeeaaGreatDoor
open Go.RowKit Kl

set_option maxRecDepth 100000 in
set_option maxHeartbeats 2000000 in
theorem iSub_c (x y : Int) (hx : Bnd x) (hy : Bnd y) (w : World) (hw : Okw w) : Calls Tryz.prog 68 #[S (I x), S (I y)] w (RetS (I (x - y)) w) := by
  have hn := iNeg_c y hy
  have ha := iAdd_c x (-y) hx hy.neg
  rw [← Int.sub_eq_add_neg] at ha
  clear hx hy
  go_enter Tryz.func68, Tryz.ntmps68
  go_wp2_with fail
  ((with_reducible refine (hn _).mono ?_); rintro e w1 ⟨rfl, hx1⟩)
  go_wp2_with fail
  ((with_reducible refine (ha _ (hw.ext hx1)).mono ?_); rintro e w2 ⟨rfl, hx2⟩)
  go_wp2
  go_ret
  exact ⟨rfl, hx1.trans hx2⟩

def dotR (nm : Pt) (st : Rat) (q : Pt) : Rat := (nm.x * q.x + nm.y * q.y) / st
def dotsR (nm : Pt) (st : Rat) (p : List Pt) : List Rat := p.map (dotR nm st)
def lowR (l : List Rat) : Int := (foldR minR l).floor + 1
def highR (l : List Rat) : Int := -((-(foldR maxR l)).floor + 1)
def byK (l : List Rat) (k : Int) : List Rat := l.map fun d => d - (k : Rat)
def segR (p : List Pt) (l : List Rat) (k : Int) : Sg := ⟨foldP minP (onR p (byK l k) p.length), foldP maxP (onR p (byK l k) p.length)⟩
def segsR (p : List Pt) (l : List Rat) (lo : Int) (n : Nat) : List Sg := (List.range n).map fun (i : Nat) => segR p l (lo + (i : Int))
theorem segsR_succ (p : List Pt) (l : List Rat) (lo : Int) (n : Nat) : segsR p l lo (n + 1) = segsR p l lo n ++ [segR p l (lo + (n : Int))] := by unfold segsR; rw [List.range_succ, List.map_append]; rfl
def RetSegs (L : List Sg) (w : World) (e : Ending) (w' : World) : Prop :=
  ∃ A c, e = .returned (.tuple #[.slice A L.length c, .int .i64 0]) ∧ RdC w' A (scells L) ∧ L.length ≤ c ∧ c ≤ 9223372036854775807 ∧ Ext w w'
/-- One line of the hatching is right. -/
structure LineOk (p : List Pt) (B : List Rat) (kb kd km ko : Nat) : Prop where
  zb : ∀ q ∈ B, Sz kb q
  zd : ∀ i < p.length, Sz kd (bx B i - bx B ((i + 1) % p.length))
  zm : ∀ i < p.length, Sz km (shareR B i ((i + 1) % p.length))
  on : onR p B p.length ≠ []
  zo : ∀ q ∈ onR p B p.length, SzP ko q
structure HatchOk (p : List Pt) (nm : Pt) (st : Rat) (kz kb kd km ko : Nat) : Prop where
  poly : PolyOk p
  zp : ∀ q ∈ p, SzP kz q
  zn : SzP kz nm
  zs : Sz kz st
  st0 : 0 < st
  nz : nm.x ≠ 0 ∨ nm.y ≠ 0
  lo : -1000000000 ≤ lowR (dotsR nm st p)
  lo' : lowR (dotsR nm st p) ≤ 1000000000
  hi : -1000000000 ≤ highR (dotsR nm st p)
  hi' : highR (dotsR nm st p) ≤ 1000000000
  cnt : highR (dotsR nm st p) - lowR (dotsR nm st p) + 1 ≤ 200
  line : ∀ k, lowR (dotsR nm st p) ≤ k → k ≤ highR (dotsR nm st p) → LineOk p (byK (dotsR nm st p) k) kb kd km ko
  kz0 : 0 < kz
  kz1 : kz ≤ 100
  kb0 : 0 < kb
  kb1 : kb ≤ 1000
  kd0 : 0 < kd
  kd1 : kd ≤ 1000
  km0 : 0 < km
  km1 : 3 * kz + km ≤ 3900
  ko0 : 0 < ko
  ko1 : ko ≤ 200
end Go.Proofs.YtblijhokcjpeeaaGreatDoor
namespace Go.Proofs.YtblijhokcjpeeaaGreatDoor
open Go.RowKit Kl

theorem foldR_sz (f : Rat → Rat → Rat) (hf : ∀ x y, f x y = x ∨ f x y = y) {l : List Rat} (h0 : 0 < l.length) {k : Nat} (hz : ∀ q ∈ l, Sz k q) : Sz k (foldR f l) := by
  match l, h0 with
  | x :: t, _ =>
    rcases foldR_mem f hf t x with h | h
    · show Sz k (t.foldl f x); rw [h]; exact hz x (List.mem_cons_self ..)
    · exact hz _ (List.mem_cons_of_mem _ h)
theorem foldP_sz (f : Pt → Pt → Pt) (hf : ∀ x y, f x y = x ∨ f x y = y) {l : List Pt} (h0 : 0 < l.length) {k : Nat} (hz : ∀ q ∈ l, SzP k q) : SzP k (foldP f l) := by
  match l, h0 with
  | x :: t, _ =>
    rcases foldP_mem f hf t x with h | h
    · show SzP k (t.foldl f x); rw [h]; exact hz x (List.mem_cons_self ..)
    · exact hz _ (List.mem_cons_of_mem _ h)
set_option maxRecDepth 100000 in
set_option maxHeartbeats 16000000 in
theorem Hatch_ok (p : List Pt) (nm : Pt) (st : Rat) {kz kb kd km ko : Nat} (H : HatchOk p nm st kz kb kd km ko) (A : Option Addr) (c : Nat) (w : World) (hw : Okw w) (hr : RdC w A (flat (ptsT p))) (hc : p.length ≤ c) (hcm : c ≤ 9223372036854775807) :
    Calls Tryz.prog 24 #[.slice A p.length c, ptV nm, S (R st)] w (RetSegs (segsR p (dotsR nm st p) (lowR (dotsR nm st p)) (highR (dotsR nm st p) - lowR (dotsR nm st p) + 1).toNat) w) := by
  have h3 := H.poly.n3
  have h60 := H.poly.n60
  have ck := fun w hw hr => polyCheck_ok p H.poly H.zp H.kz0 (by have := H.kz1; omega) A c w hw hr hc hcm
  have hznm : ∀ q ∈ [nm], SzP kz q := by intro q hq; rw [List.mem_singleton] at hq; rw [hq]; exact H.zn
  have pc := points1_c (ptT nm) true (by simp only [true_iff]; exact okPts_pts hznm H.kz0 (by have := H.kz1; omega)) (shortPts_pts hznm H.kz0 (by have := H.kz1; omega))
  have rc := rCheck_c (R st) (szl H.zs H.kz0 (by have := H.kz1; omega))
  have hok : OkR (R st) := okR_sz H.zs H.kz0 (by have := H.kz1; omega)
  simp only [hok, decide_true] at rc
  rw [chkV_t] at rc pc
  have sg := rSign_c st
  rw [sgnR_pos H.st0] at sg
  have HH := Lib.hid H
  obtain ⟨L, hL⟩ : ∃ L, L = segsR p (dotsR nm st p) (lowR (dotsR nm st p)) (highR (dotsR nm st p) - lowR (dotsR nm st p) + 1).toNat := ⟨_, rfl⟩
  rw [← hL]
  have HL := Lib.hid hL
  have hx0 := (Ext.refl w).alloc (.cells #[S (R nm.x), S (R nm.y)] 29)
  have hbn := heap_alloc_new w (.cells #[S (R nm.x), S (R nm.y)] 29)
  unfold ptT at pc
  dsimp only at pc
  unfold ptV
  clear hL hznm H hok
  go_enter Tryz.func24, Tryz.ntmps24
  go_wp2_with fail
  ((with_reducible refine (ck _ (hw.ext hx0) (hr.ext hx0)).mono ?_); rintro e w1 ⟨rfl, hx1⟩)
  have hx1' := hx0.trans hx1
  have hbn1 := (hx1.block _ (lt_of_block hbn)).trans hbn
  obtain ⟨bn, hbne⟩ : ∃ g, g = w.heap.size := ⟨_, rfl⟩
  rw [← hbne] at hbn1 ⊢
  clear hbne hbn hx0 hx1 ck
  have k1 := cell_of_blk (o := 0) hbn1 rfl
  have k2 := cell_of_blk (o := 1) hbn1 rfl
  go_wp2_with fail
  ((with_reducible refine (pc _ (hw.ext hx1')).mono ?_); rintro e w2 ⟨rfl, hx2⟩)
  have hx2a := ((Ext.refl w1).alloc (.cells #[S (R nm.x), S (R nm.y)] 29)).trans hx2
  have hbn2 := (hx2a.block _ (lt_of_block hbn1)).trans hbn1
  have hx2' := hx1'.trans hx2a
  clear hbn1 hx1' hx2a hx2 k1 k2 pc
  have k1 := cell_of_blk (o := 0) hbn2 rfl
  have k2 := cell_of_blk (o := 1) hbn2 rfl
  go_wp2_with fail
  ((with_reducible refine (rc _ (hw.ext hx2')).mono ?_); rintro e w3 ⟨rfl, hx3⟩)
  have hbn3 := (hx3.block _ (lt_of_block hbn2)).trans hbn2
  have hx3' := hx2'.trans hx3
  clear hbn2 hx2' hx3 k1 k2 rc
  have k1 := cell_of_blk (o := 0) hbn3 rfl
  have k2 := cell_of_blk (o := 1) hbn3 rfl
  go_upto_region 6 with fail
  go_cut [37] (fun v37 wx => v37 = .bool false ∧ wx = w3)
  case first =>
    have hnz := HH.out.nz
    by_cases hnx : nm.x = 0
    · have hny := R_ne0 (hnz.resolve_left (fun h => h hnx))
      have hnx' : (R nm.x == [48]) = true := by rw [hnx, R_zero]; rfl
      clear hnz hnx
      go_wp2
      go_meet
      exact ⟨rfl, rfl⟩
    · have hnx' := R_ne0 hnx
      clear hnz hnx
      go_wp2
      go_meet
      exact ⟨rfl, rfl⟩
  case rest =>
    obtain ⟨rfl, rfl⟩ := hcut
    go_wp2_with fail
    ((with_reducible refine (sg _).mono ?_); rintro e w4 ⟨rfl, hx4⟩)
    have hbn4 := (hx4.block _ (lt_of_block hbn3)).trans hbn3
    have hx4' := hx3'.trans hx4
    clear hbn3 hx3' hx4 k1 k2 sg
    go_wp2
    have HDS := Lib.hid (show (dotsR nm st p).length = p.length by unfold dotsR; simp)
    go_loopw [9, 52] (fun v i wr => ∃ j : Nat, i = .int .i64 (j : Nat) ∧ j ≤ p.length ∧ wr.ownsRow w4.heap.size 27 1 v j (rats ((dotsR nm st p).take j)) ∧ Ext w4 wr) (fun _ i _ => p.length - (intOf i).toNat)
    case atStart => exact ⟨0, rfl, by omega, ⟨rfl, .inl ⟨rfl, rfl⟩⟩, Ext.refl _⟩
    case round =>
      obtain ⟨j, rfl, hj, hown, hext⟩ := hrel
      by_cases hlt : j < p.length
      · have hX := hx4'.trans hext
        obtain ⟨b, o, rfl, hg1, hg2⟩ := rdC_px (hr.ext hX) hlt
        have hzq := HH.out.zp p[j] (List.getElem_mem hlt)
        rw [← px_eq] at hzq
        have hzn := HH.out.zn
        have hzs := HH.out.zs
        have hk0 := HH.out.kz0
        have hk1 := HH.out.kz1
        have hst : (dotsR nm st p).take (j + 1) = (dotsR nm st p).take j ++ [dotR nm st (px p j)] := by
          rw [List.take_succ_eq_append_getElem (by rw [HDS.out]; exact hlt)]
          simp [dotsR, px_eq hlt]
        generalize px p j = q at *
        have ml1 := rMul_c nm.x q.x (a := kz) (b := kz) ⟨hzn.x, hzq.x, hk0, hk0, by omega⟩
        have ml2 := rMul_c nm.y q.y (a := kz) (b := kz) ⟨hzn.y, hzq.y, hk0, hk0, by omega⟩
        have hz1 := hzn.x.mul hzq.x
        have hz2 := hzn.y.mul hzq.y
        have ad := rAdd_c (nm.x * q.x) (nm.y * q.y) (a := kz + kz) (b := kz + kz) ⟨hz1, hz2, by omega, by omega, by omega⟩
        have dv := rDiv_c (nm.x * q.x + nm.y * q.y) st (by have := HH.out.st0; grind) (a := kz + kz + (kz + kz) + 1) (b := kz) ⟨hz1.add hz2, hzs, by omega, hk0, by omega⟩
        have hdt : dotR nm st q = (nm.x * q.x + nm.y * q.y) / st := rfl
        rw [← hdt] at dv
        unfold retRE at dv
        generalize dotR nm st q = d at *
        generalize nm.x * q.x + nm.y * q.y = sm at *
        generalize nm.x * q.x = m1 at *
        generalize nm.y * q.y = m2 at *
        have HST := Lib.hid hst
        have hj0 : (0 : Int) ≤ (j : Int) := by omega
        have hjl : (j : Int) < (p.length : Int) := by omega
        have hjl2 : (p.length : Int) ≤ 60 := by omega
        have hx1 := hext.alloc (.cells #[S (R q.x), S (R q.y)] 29)
        have hbq := heap_alloc_new wr (.cells #[S (R q.x), S (R q.y)] 29)
        have hxx := (Ext.refl wr).alloc (.cells #[S (R q.x), S (R q.y)] 29)
        have hownU := own_ext hown hxx
        have hbnU := (hx1.block _ (lt_of_block hbn4)).trans hbn4
        have HBN4 := Lib.hid hbn4
        clear hst hdt hzq hzn hzs hk0 hk1 hz1 hz2 hbn4
        go_upto_region 14 with fail
        clear hg1 hg2
        generalize wr.alloc (.cells #[S (R q.x), S (R q.y)] 29) = U at *
        obtain ⟨bq, hbqe⟩ : ∃ g, g = wr.heap.size := ⟨_, rfl⟩
        rw [← hbqe] at hbq ⊢
        have hU := hw.ext (hx4'.trans hx1)
        have hsz := hx1.size
        clear hbqe hxx hown hext hX
        have c1 := cell_of_blk (o := 0) hbnU rfl
        have c2 := cell_of_blk (o := 1) hbnU rfl
        have c3 := cell_of_blk (o := 0) hbq rfl
        have c4 := cell_of_blk (o := 1) hbq rfl
        clear hbnU hbq
        go_region_held3 (fun w' => w'.cell? ⟨bn, 0, none⟩ = some (S (R nm.x)) ∧ w'.cell? ⟨bn, 1, none⟩ = some (S (R nm.y)) ∧ w'.cell? ⟨bq, 0, none⟩ = some (S (R q.x)) ∧ w'.cell? ⟨bq, 1, none⟩ = some (S (R q.y)))
          (go_keep)
          (first | ((with_reducible refine (ml1 _ (hU.ext (Ext.refl U).drew)).mono ?_); rintro e w5 ⟨rfl, hx5⟩; have X5 : Ext U w5 := (Ext.refl U).drew.trans hx5; have d1 := X5.cellS c1; have d2 := X5.cellS c2; have d3 := X5.cellS c3; have d4 := X5.cellS c4) | ((with_reducible refine (ml2 _ (hU.ext X5)).mono ?_); rintro e w6 ⟨rfl, hx6⟩; have X6 : Ext U w6 := X5.trans hx6; have f1 := X6.cellS c1; have f2 := X6.cellS c2; have f3 := X6.cellS c3; have f4 := X6.cellS c4) | ((with_reducible refine (ad _ (hU.ext X6)).mono ?_); rintro e w7 ⟨rfl, hx7⟩; have X7 : Ext U w7 := X6.trans hx7; have g1 := X7.cellS c1; have g2 := X7.cellS c2; have g3 := X7.cellS c3; have g4 := X7.cellS c4) | ((with_reducible refine (dv _ (hU.ext X7)).mono ?_); rintro e w8 ⟨rfl, hx8⟩; have X8 : Ext U w8 := X7.trans hx8; have l1 := X8.cellS c1; have l2 := X8.cellS c2; have l3 := X8.cellS c3; have l4 := X8.cellS c4))
        have hE8 := hx1.trans X8
        have hown8 := own_ext hownU X8
        have hn8 : j < 200000 := by omega
        have hb8 := hE8.size
        clear X5 X6 X7 X8 hx5 hx6 hx7 hx8 d1 d2 d3 d4 f1 f2 f3 f4 g1 g2 g3 g4 l1 l2 l3 l4 c1 c2 c3 c4 hownU hU hx1 ml1 ml2 ad dv
        go_wp2_with (at_builtin; go_loud (refine appRt rfl _ _ rfl _ w4.heap.size u9 j ((dotsR nm st p).take j) rfl (own_ext hown8 ((Ext.refl w8).alloc _)) hn8 d w8.heap.size (heap_alloc_new w8 _) rfl (by simp; omega) ?_); intro v9 w9 hown9 hx9)
        have HX9 := Lib.hid (hx9 w4 (hE8.alloc _) (Nat.le_refl _))
        clear hx9
        go_wp2
        go_roundw
        case rel => exact ⟨j + 1, by go_num, hlt, by rw [HST.out]; exact hown9, HX9.out⟩
        case measure => simp [intOf]; omega
      · have hje : j = p.length := by omega
        subst hje
        have htk : (dotsR nm st p).take p.length = dotsR nm st p := List.take_of_length_le (by rw [HDS.out]; omega)
        rw [htk] at hown
        have hX := hx4'.trans hext
        have hbn5 := (hext.block _ (lt_of_block hbn4)).trans hbn4
        obtain ⟨A9, c9, rfl, hrd, hk1, hk2⟩ := RdC.of_own' (by omega) hown
        have hwr := hw.ext hX
        have hdz : ∀ d ∈ dotsR nm st p, Sz 600 d := by
          intro d hd
          obtain ⟨q, hq, rfl⟩ := List.mem_map.1 hd
          have hzq := HH.out.zp q hq
          exact (((HH.out.zn.x.mul hzq.x).add (HH.out.zn.y.mul hzq.y)).div HH.out.kz0 HH.out.zs).mono (by have := HH.out.kz1; omega)
        have hlo := HH.out.lo
        have hlo' := HH.out.lo'
        have hhi := HH.out.hi
        have hhi' := HH.out.hi'
        have hcnt := HH.out.cnt
        have hds0 : 0 < (dotsR nm st p).length := by rw [HDS.out]; omega
        have hmi := foldR_sz minR minR_or hds0 hdz
        have hma := foldR_sz maxR maxR_or hds0 hdz
        have mn := minFunc_c (dotsR nm st p) hds0 (k := 600) (by omega) (by omega) hdz A9 c9
        have mx := maxFunc_c (dotsR nm st p) hds0 (k := 600) (by omega) (by omega) hdz A9 c9
        have hlR : lowR (dotsR nm st p) = (foldR minR (dotsR nm st p)).floor + 1 := rfl
        have hhR : highR (dotsR nm st p) = -((-(foldR maxR (dotsR nm st p))).floor + 1) := rfl
        have HLN := HL.out
        have HLINE := Lib.hid HH.out.line
        rw [HDS.out] at mn mx
        generalize dotsR nm st p = ds at *
        generalize foldR minR ds = mi at *
        generalize foldR maxR ds = ma at *
        have fl1 := rFloor_c mi (k := 600) (by omega) (by omega) hmi
        have ng1 := rNeg_c ma (k := 600) (by omega) (by omega) hma
        have fl2 := rFloor_c (-ma) (k := 600) (by omega) (by omega) hma.neg
        generalize highR ds = hi at *
        generalize lowR ds = lo at *
        generalize mi.floor = f1 at *
        generalize (-ma).floor = f2 at *
        have B1 : Bnd 1 := Bnd.small (by omega) (by omega)
        have ad1 := iAdd_c f1 1 (Bnd.small (by omega) (by omega)) B1
        rw [← hlR] at ad1
        have ad2 := iAdd_c f2 1 (Bnd.small (by omega) (by omega)) B1
        have ng2 := iNeg_c (f2 + 1) (Bnd.small (by omega) (by omega))
        rw [← hhR] at ng2
        generalize f2 + 1 = f3 at *
        have blo : Bnd lo := Bnd.small (by omega) (by omega)
        have bhi : Bnd hi := Bnd.small (by omega) (by omega)
        have sb := iSub_c hi lo bhi blo
        have ad3 := iAdd_c (hi - lo) 1 (Bnd.small (by omega) (by omega)) B1
        have of2 := iOf_c 200 (by omega) (by omega)
        have cp := iCompare_c (hi - lo + 1) 200 (Bnd.small (by omega) (by omega)) (Bnd.small (by omega) (by omega))
        obtain ⟨z, hz, hz0⟩ : ∃ z, z = cmpZ (hi - lo + 1) 200 ∧ z ≤ 0 := ⟨_, rfl, by unfold cmpZ; split <;> (try split) <;> omega⟩
        rw [← hz] at cp
        have HN := Lib.hid HLN
        obtain ⟨cn, hcn⟩ : ∃ cn, cn = hi - lo + 1 := ⟨_, rfl⟩
        rw [← hcn] at cp HN ad3
        obtain ⟨hl, hhl⟩ : ∃ cn, cn = hi - lo := ⟨_, rfl⟩
        rw [← hhl] at sb ad3
        have HCN := Lib.hid hcn
        rw [I_one'] at ad1 ad2 ad3
        have mn1 := mn wr hwr hrd hk1 hk2
        have mx1 := fun w' hx => mx w' (hwr.ext hx) (hrd.ext hx) hk1 hk2
        have HDZ := Lib.hid hdz
        have HCNT := Lib.hid hcnt
        clear hdz hlR hhR HLN hz hcn hhl mn mx hmi hma B1 hds0 hcnt hown hext hbn4 hlt
        go_wp2_with fail
        ((with_reducible refine mn1.mono ?_); rintro e w5 ⟨rfl, hx5⟩)
        have hw5 := hwr.ext hx5
        go_wp2_with fail
        ((with_reducible refine (fl1 _ hw5).mono ?_); rintro e w6 ⟨rfl, hx6⟩)
        replace hx6 := hx5.trans hx6
        have hw6 := hwr.ext hx6
        go_wp2_with fail
        ((with_reducible refine (ad1 _ hw6).mono ?_); rintro e w7 ⟨rfl, hx7⟩)
        replace hx7 := hx6.trans hx7
        have hw7 := hwr.ext hx7
        have mx2 := mx1 w7 hx7
        go_wp2_with fail
        ((with_reducible refine mx2.mono ?_); rintro e w8 ⟨rfl, hx8⟩)
        replace hx8 := hx7.trans hx8
        have hw8 := hwr.ext hx8
        go_wp2_with fail
        ((with_reducible refine (ng1 _).mono ?_); rintro e w9 ⟨rfl, hx9⟩)
        replace hx9 := hx8.trans hx9
        have hw9 := hwr.ext hx9
        go_wp2_with fail
        ((with_reducible refine (fl2 _ hw9).mono ?_); rintro e w10 ⟨rfl, hx10⟩)
        replace hx10 := hx9.trans hx10
        have hw10 := hwr.ext hx10
        go_wp2_with fail
        ((with_reducible refine (ad2 _ hw10).mono ?_); rintro e w11 ⟨rfl, hx11⟩)
        replace hx11 := hx10.trans hx11
        have hw11 := hwr.ext hx11
        go_wp2_with fail
        ((with_reducible refine (ng2 _).mono ?_); rintro e w12 ⟨rfl, hx12⟩)
        replace hx12 := hx11.trans hx12
        have hw12 := hwr.ext hx12
        go_wp2_with fail
        ((with_reducible refine (sb _ hw12).mono ?_); rintro e w13 ⟨rfl, hx13⟩)
        replace hx13 := hx12.trans hx13
        have hw13 := hwr.ext hx13
        go_wp2_with fail
        ((with_reducible refine (ad3 _ hw13).mono ?_); rintro e w14 ⟨rfl, hx14⟩)
        replace hx14 := hx13.trans hx14
        have hw14 := hwr.ext hx14
        go_wp2_with fail
        ((with_reducible refine (of2 _ hw14).mono ?_); rintro e w15 ⟨rfl, hx15⟩)
        replace hx15 := hx14.trans hx15
        have hw15 := hwr.ext hx15
        go_wp2_with fail
        ((with_reducible refine (cp _).mono ?_); rintro e w16 ⟨rfl, hx16⟩)
        replace hx16 := hx15.trans hx16
        have hw16 := hwr.ext hx16
        clear hx5 hx6 hx7 hx8 hx9 hx10 hx11 hx12 hx13 hx14 hx15 hw5 hw6 hw7 hw8 hw9 hw10 hw11 hw12 hw13 hw14 hw15 mx1 mx2 mn1 fl1 fl2 ad1 ad2 ad3 sb of2 cp ng1 ng2
        go_wp2
        have hX16 := hX.trans hx16
        have hr16 := hr.ext hX16
        have hrd16 := hrd.ext hx16
        have hbn16 := Lib.hid ((hx16.block _ (lt_of_block hbn5)).trans hbn5)
        clear hbn5 hrd hX hx4' hwr hx16
        obtain ⟨cN, hcN⟩ : ∃ n, n = cn.toNat := ⟨_, rfl⟩
        rw [← hcN] at HN
        have HCNN := Lib.hid hcN
        clear hcN
        go_loopg [17, 18] cN (fun g v kv wr => ∃ m : Nat, g + m = cN ∧ kv = S (I (lo + (m : Int))) ∧ wr.ownsRow w16.heap.size 31 4 v m (scells (segsR p ds lo m)) ∧ Ext w16 wr)
        case atStart => exact ⟨0, by omega, by simp, ⟨rfl, .inl ⟨rfl, rfl⟩⟩, Ext.refl _⟩
        case round =>
          obtain ⟨m, hgm, rfl, hown, hext⟩ := hrel
          obtain ⟨k, hk⟩ : ∃ k : Int, k = lo + (m : Int) := ⟨_, rfl⟩
          rw [← hk]
          have hkm : m < cN ↔ k ≤ hi := by have := HCN.out; have := HCNN.out; omega
          have hkb1 : -1000000001 ≤ k := by omega
          have hkb2 : k ≤ 1000000001 := by have := HCN.out; have := HCNN.out; omega
          have bk : Bnd k := Bnd.small (by omega) (by omega)
          have cp := iCompare_c k hi bk bhi
          by_cases hmc : m < cN
          · obtain ⟨z, hz, hz0⟩ : ∃ z, z = cmpZ k hi ∧ z ≤ 0 := ⟨_, rfl, by have := hkm.1 hmc; unfold cmpZ; split <;> (try split) <;> omega⟩
            rw [← hz] at cp
            have hlk : lo ≤ k := by omega
            have hline := HLINE.out k hlk (hkm.1 hmc)
            have HLI := Lib.hid hline
            have HK := Lib.hid hk
            have HKM := Lib.hid hkm
            have HGM := Lib.hid hgm
            clear hz hk hkm hline hgm
            go_wp2_with fail
            ((with_reducible refine (cp _).mono ?_); rintro e w17 ⟨rfl, hx17⟩)
            have hown17 := own_ext hown hx17
            have hE17 := hext.trans hx17
            have hzb : decide (z ≤ 0) = true := by simp [hz0]
            clear hown hext hx17 cp
            go_wp2
            (try simp only [hzb])
            clear hzb
            go_loopw [19, 104] (fun v i wr => ∃ j : Nat, i = .int .i64 (j : Nat) ∧ j ≤ p.length ∧ wr.ownsRow w17.heap.size 27 1 v j (rats ((byK ds k).take j)) ∧ Ext w17 wr) (fun _ i _ => p.length - (intOf i).toNat)
            case atStart => exact ⟨0, rfl, by omega, ⟨rfl, .inl ⟨rfl, rfl⟩⟩, Ext.refl _⟩
            case round =>
              obtain ⟨j, rfl, hj, hownB, hextB⟩ := hrel
              by_cases hlt : j < p.length
              · have hXB := hE17.trans hextB
                obtain ⟨b9, o9, rfl, hg1⟩ := rdC_bx (hrd16.ext hXB) (show j < ds.length by rw [HDS.out]; exact hlt)
                have hzd : Sz 600 (bx ds j) := HDZ.out _ (by rw [bx_eq (by rw [HDS.out]; exact hlt)]; exact List.getElem_mem _)
                have sbk := rSub_c (bx ds j) (k : Rat) (a := 600) (b := 10) ⟨hzd, Sz.int (by omega) (by omega), by omega, by omega, by omega⟩
                rw [R_int] at sbk
                have hst : (byK ds k).take (j + 1) = (byK ds k).take j ++ [bx ds j - (k : Rat)] := by
                  rw [List.take_succ_eq_append_getElem (by unfold byK; rw [List.length_map, HDS.out]; exact hlt)]
                  simp [byK, bx_eq (show j < ds.length by rw [HDS.out]; exact hlt)]
                have HST := Lib.hid hst
                generalize bx ds j = d at *
                generalize d - (k : Rat) = dk at *
                have hj0 : (0 : Int) ≤ (j : Int) := by omega
                have hjl : (j : Int) < (p.length : Int) := by omega
                have hjl2 : (p.length : Int) ≤ 60 := by omega
                clear hst hzd
                go_wp2_with fail
                ((with_reducible refine (sbk _ (hw16.ext hXB)).mono ?_); rintro e w18 ⟨rfl, hx18⟩)
                have hown18 := own_ext hownB hx18
                have hE18 := hextB.trans hx18
                have hn18 : j < 200000 := by omega
                have hs18 := hE18.size
                clear hownB hextB hx18 hXB sbk hg1
                go_wp2_with (at_builtin; go_loud (refine appRt rfl _ _ rfl _ w17.heap.size u19 j ((byK ds k).take j) rfl (own_ext hown18 ((Ext.refl w18).alloc _)) hn18 dk w18.heap.size (heap_alloc_new w18 _) rfl (by simp; omega) ?_); intro v19 w19 hown19 hx19)
                have HX19 := Lib.hid (hx19 w17 (hE18.alloc _) (Nat.le_refl _))
                clear hx19
                go_wp2
                go_roundw
                case rel => exact ⟨j + 1, by go_num, hlt, by rw [HST.out]; exact hown19, HX19.out⟩
                case measure => simp [intOf]; omega
              · have hje : j = p.length := by omega
                subst hje
                have htB : (byK ds k).take p.length = byK ds k := List.take_of_length_le (by unfold byK; rw [List.length_map, HDS.out]; omega)
                rw [htB] at hownB
                have hlB : (byK ds k).length = p.length := by unfold byK; rw [List.length_map, HDS.out]
                obtain ⟨A19, c19, rfl, hrB, _, _⟩ := RdC.of_own' (by omega) hownB
                have hE := hE17.trans hextB
                have hws := hw16.ext hE
                have hownS := own_ext hown17 hextB
                have HI := HLI.out
                have hh := hatch_c p (byK ds k) hlB (by omega) h60 HH.out.zp HI.zb HI.zd HI.zm HI.on HI.zo HH.out.kz0 HH.out.kb0 HH.out.kd0 HH.out.km0 HH.out.ko0 HH.out.km1 HH.out.kb1 HH.out.kd1 (by have := HH.out.ko1; omega) A A19 c c19 wr hws (hr16.ext hE) hrB
                have hsr : segR p ds k = ⟨foldP minP (onR p (byK ds k) p.length), foldP maxP (onR p (byK ds k) p.length)⟩ := rfl
                rw [← hsr] at hh
                have hon0 : 0 < (onR p (byK ds k) p.length).length := List.length_pos_iff.2 HI.on
                have hsa : SzP ko (segR p ds k).a := foldP_sz minP minP_or hon0 HI.zo
                have hsb : SzP ko (segR p ds k).b := foldP_sz maxP maxP_or hon0 HI.zo
                have hz2 : ∀ q ∈ [(segR p ds k).a, (segR p ds k).b], SzP ko q := by
                  intro q hq
                  simp only [List.mem_cons, List.not_mem_nil, or_false] at hq
                  rcases hq with rfl | rfl
                  · exact hsa
                  · exact hsb
                have pc2 := points2_c (ptT (segR p ds k).a) (ptT (segR p ds k).b) true (by simp only [true_iff]; exact okPts_pts hz2 HH.out.ko0 HH.out.ko1) (shortPts_pts hz2 HH.out.ko0 HH.out.ko1)
                rw [chkV_t] at pc2
                have hsg : segsR p ds lo (m + 1) = segsR p ds lo m ++ [segR p ds k] := by rw [segsR_succ, ← HK.out]
                have HSG := Lib.hid hsg
                generalize segR p ds k = sg at *
                have ad4 := iAdd_c k 1 bk (Bnd.small (by omega) (by omega))
                rw [I_one'] at ad4
                have hk1e : k + 1 = lo + ((m + 1 : Nat) : Int) := by rw [HK.out]; omega
                rw [hk1e] at ad4
                unfold ptT at pc2
                dsimp only at pc2
                unfold sgV at hh
                have hmn : m < 200000 := by have := HGM.out; have := HCN.out; have := HCNN.out; have := HCNT.out; omega
                clear hsa hsb hz2 hsr hon0 HI hsg hk1e htB hlB hownB hrB hown17 hlt
                go_wp2_with fail
                ((with_reducible refine hh.mono ?_); rintro e w20 ⟨rfl, hx20⟩)
                clear hh
                have hE20 := hE.trans hx20
                have hownS20 := own_ext hownS hx20
                have hw20 := hws.ext hx20
                have hb22 := heap_alloc_new w20 (.cells #[S (R sg.a.x), S (R sg.a.y), S (R sg.b.x), S (R sg.b.y)] 31)
                have hx21 := (Ext.refl w20).alloc (.cells #[S (R sg.a.x), S (R sg.a.y), S (R sg.b.x), S (R sg.b.y)] 31)
                clear hownS hx20 hE hws
                have pc3 := pc2 (w20.alloc (.cells #[S (R sg.a.x), S (R sg.a.y), S (R sg.b.x), S (R sg.b.y)] 31)) (hw20.ext hx21)
                rw [World.size_alloc] at pc3
                go_wp2_with fail
                ((with_reducible refine pc3.mono ?_); rintro e w22 ⟨rfl, hx22⟩)
                have hx22' := hx21.trans (((Ext.refl _).alloc _).trans hx22)
                have hb23 := ((((Ext.refl _).alloc _).trans hx22).block _ (lt_of_block hb22)).trans hb22
                have hE22 := hE20.trans hx22'
                have hown22 := own_ext hownS20 hx22'
                have hs22 := hE22.size
                have k1 := cell_of_blk (o := 0) hb23 rfl
                have k2 := cell_of_blk (o := 1) hb23 rfl
                have k3 := cell_of_blk (o := 2) hb23 rfl
                have k4 := cell_of_blk (o := 3) hb23 rfl
                clear pc2 pc3 hx22 hx22' hx21 hb22 hownS20 hE20 hw20
                go_wp2_with (at_builtin; go_loud (refine appSeg rfl _ _ rfl _ w16.heap.size u17 m (segsR p ds lo m) rfl (own_ext hown22 ((Ext.refl w22).alloc _)) hmn sg w22.heap.size (heap_alloc_new w22 _) rfl (by simp; omega) ?_); intro v23 w23 hown23 hx23)
                have hE23 := hx23 w16 (hE22.alloc _) (Nat.le_refl _)
                clear hx23 hown22 hE22
                have hw23 := hw16.ext hE23
                go_wp2_with fail
                ((with_reducible refine (ad4 _ hw23).mono ?_); rintro e w24 ⟨rfl, hx24⟩)
                go_wp2
                go_roundg (gk - 1)
                case measure => have := HGM.out; omega
                case rel => exact ⟨m + 1, by have := HGM.out; omega, rfl, by rw [HSG.out]; exact own_ext hown23 hx24, hE23.trans hx24⟩
          · have hme : m = cN := by omega
            obtain ⟨z, hz, hz0⟩ : ∃ z, z = cmpZ k hi ∧ 0 < z := ⟨_, rfl, by have : ¬ k ≤ hi := fun h => hmc (hkm.2 h); unfold cmpZ; rw [if_neg (by omega), if_neg (by omega)]; omega⟩
            rw [← hz] at cp
            subst hme
            have hzb : decide (z ≤ 0) = false := by simp; omega
            have hlL : (segsR p ds lo m).length = m := by unfold segsR; simp
            clear hz hk hkm hgm hmc
            obtain ⟨A17, c17, rfl, hrS, hk3, hk4⟩ := RdC.of_own' (by omega) hown
            go_wp2_with fail
            ((with_reducible refine (cp _).mono ?_); rintro e w17 ⟨rfl, hx17⟩)
            have hR : Hid (RetSegs L w (.returned (.tuple #[.slice A17 m c17, .int .i64 0])) w17) := Lib.hid ⟨A17, c17, by rw [HN.out, hlL], by rw [HN.out]; exact hrS.ext hx17, by rw [HN.out, hlL]; exact hk3, hk4, hX16.trans (hext.trans hx17)⟩
            clear hlL
            go_wp2
            go_ret2
            exact hR.out
end Go.Proofs.YtblijhokcjpeeaaGreatDoor
