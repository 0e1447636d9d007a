/- cmp.Or of two, drawing.order. -/
import Derived.Test.YtblijhokcjpeeaaGreatDoorMQ
/- slices.MinFunc and MaxFunc over fractions. -/
namespace Go.Proofs.YtblijhokcjpeeaaGreatDoor
open Go.RowKit Kl

def foldR (f : Rat → Rat → Rat) : List Rat → Rat
  | [] => 0
  | x :: l => l.foldl f x
theorem foldR_snoc (f : Rat → Rat → Rat) {l : List Rat} (h : l ≠ []) (y : Rat) : foldR f (l ++ [y]) = f (foldR f l) y := by
  match l, h with
  | x :: l, _ => simp [foldR, List.foldl_append]
theorem foldR_mem (f : Rat → Rat → Rat) (hf : ∀ x y, f x y = x ∨ f x y = y) : ∀ (l : List Rat) (x : Rat), l.foldl f x = x ∨ l.foldl f x ∈ l
  | [], x => .inl rfl
  | y :: l, x => by
    rw [List.foldl_cons]
    rcases foldR_mem f hf l (f x y) with h | h
    · rcases hf x y with h2 | h2
      · left; rw [h, h2]
      · right; rw [h, h2]; exact List.mem_cons_self ..
    · right; exact List.mem_cons_of_mem _ h
def rats (l : List Rat) : List Value := l.map fun q => S (R q)
theorem rats_length (l : List Rat) : (rats l).length = l.length := by simp [rats]

theorem minR_or (x y : Rat) : minR x y = x ∨ minR x y = y := by unfold minR; split <;> simp
set_option maxRecDepth 100000 in
set_option maxHeartbeats 2000000 in
theorem minFunc_c (l : List Rat) (h0 : 0 < l.length) {k : Nat} (hk : 0 < k) (hk2 : k ≤ 1900) (hz : ∀ q ∈ l, Sz k q) (A : Option Addr) (c : Nat) (w : World) (hw : Okw w) (hr : RdC w A (rats l)) (hc : l.length ≤ c) (hcm : c ≤ 9223372036854775807) :
    Calls Tryz.prog 63 #[.slice A l.length c, .func (.func 64) #[] #[]] w (RetS (R (foldR minR l)) w) := by
  obtain ⟨b, o, rfl, hcs⟩ := hr.ad (by rw [rats_length]; exact h0)
  have hget : ∀ j (h : j < l.length), w.cell? ⟨b, o + j, none⟩ = some (S (R l[j])) := by
    intro j h
    have := hcs j (by rw [rats_length]; exact h)
    unfold rats at this
    rw [List.getElem_map] at this
    exact this
  have hg0 := hget 0 h0
  rw [Nat.add_zero] at hg0
  have hlen : (1 : Int) ≤ (l.length : Int) := by omega
  have HG := Lib.hid hget
  have HZ := Lib.hid hz
  obtain ⟨rv, hrv⟩ : ∃ v, v = foldR minR l := ⟨_, rfl⟩
  rw [← hrv]
  have HRV := Lib.hid hrv
  clear hget hz hcs hr hrv
  go_enter Tryz.func63, Tryz.ntmps63
  go_wp2
  go_loopw [5, 6] (fun v i wr => ∃ j : Nat, i = .int .i64 (j : Nat) ∧ 1 ≤ j ∧ j ≤ l.length ∧ v = S (R (foldR minR (l.take j))) ∧ Ext w wr) (fun _ i _ => l.length - (intOf i).toNat)
  case atStart =>
    refine ⟨1, rfl, by omega, by omega, ?_, Ext.refl _⟩
    match l, h0 with
    | x :: l, _ => rfl
  case round =>
    obtain ⟨j, rfl, hj1, hj, rfl, hext⟩ := hrel
    have hne : l.take j ≠ [] := by intro e; have : (l.take j).length = 0 := by rw [e]; rfl
                                   rw [List.length_take] at this; omega
    have hzm : Sz k (foldR minR (l.take j)) := by
      match ht : l.take j, hne with
      | x :: t, _ =>
        have hm : ∀ y ∈ x :: t, y ∈ l := fun y hy => List.mem_of_mem_take (by rw [ht]; exact hy)
        rcases foldR_mem minR minR_or t x with h | h
        · show Sz k (t.foldl minR x); rw [h]; exact HZ.out x (hm x (List.mem_cons_self ..))
        · exact HZ.out _ (hm _ (List.mem_cons_of_mem _ h))
    by_cases hlt : j < l.length
    · have hg := hext.cellS (HG.out j hlt)
      have hzj := HZ.out l[j] (List.getElem_mem hlt)
      have hsn : foldR minR (l.take (j + 1)) = minR (foldR minR (l.take j)) l[j] := by
        rw [List.take_succ_eq_append_getElem hlt, foldR_snoc _ hne]
      have cp := rCompare_c l[j] (foldR minR (l.take j)) (a := k) (b := k) ⟨hzj, hzm, hk, hk, by omega⟩
      obtain ⟨x, hx⟩ : ∃ x, x = l[j] := ⟨_, rfl⟩
      obtain ⟨m, hm⟩ : ∃ m, m = foldR minR (l.take j) := ⟨_, rfl⟩
      rw [← hx, ← hm] at cp
      rw [← hx] at hg
      rw [← hx, ← hm] at hsn
      rw [← hm]
      have HSN := Lib.hid hsn
      have hj0 : (0 : Int) ≤ (j : Int) := by omega
      have hjl : (j : Int) < (l.length : Int) := by omega
      clear hx hm hzm hzj hne hsn
      by_cases hlt2 : x < m
      · rw [cmpR_lt hlt2] at cp
        have HF : Hid (minR m x = x) := Lib.hid (if_pos hlt2)
        clear hlt2
        go_wp2_with fail
        ((with_reducible refine (cp _ (hw.ext hext)).mono ?_); rintro e w2 ⟨rfl, hx2⟩)
        have hg2 := hx2.cellS hg
        go_wp2
        go_roundw
        case rel => exact ⟨j + 1, by go_num, by omega, hlt, by rw [HSN.out, HF.out], hext.trans hx2⟩
        case measure => simp [intOf]; omega
      · obtain ⟨sg, hsg, hsg0⟩ : ∃ z : Int, z = cmpR x m ∧ ¬ z < 0 := by
          by_cases e : x = m
          · exact ⟨_, rfl, by rw [cmpR_eq e]; omega⟩
          · exact ⟨_, rfl, by rw [cmpR_gt (by grind)]; omega⟩
        rw [← hsg] at cp
        have HF : Hid (minR m x = m) := Lib.hid (if_neg hlt2)
        clear hsg hlt2
        go_wp2_with fail
        ((with_reducible refine (cp _ (hw.ext hext)).mono ?_); rintro e w2 ⟨rfl, hx2⟩)
        go_wp2
        go_roundw
        case rel => exact ⟨j + 1, by go_num, by omega, hlt, by rw [HSN.out, HF.out], hext.trans hx2⟩
        case measure => simp [intOf]; omega
    · have hrv : foldR minR (l.take j) = rv := by rw [HRV.out, List.take_of_length_le (by omega)]
      have hle : (l.length : Int) ≤ (j : Int) := by omega
      rw [hrv]
      clear hrv hzm hne
      go_wp2
      go_ret
      exact ⟨rfl, hext⟩

theorem maxR_or (x y : Rat) : maxR x y = x ∨ maxR x y = y := by unfold maxR; split <;> simp
set_option maxRecDepth 100000 in
set_option maxHeartbeats 2000000 in
theorem maxFunc_c (l : List Rat) (h0 : 0 < l.length) {k : Nat} (hk : 0 < k) (hk2 : k ≤ 1900) (hz : ∀ q ∈ l, Sz k q) (A : Option Addr) (c : Nat) (w : World) (hw : Okw w) (hr : RdC w A (rats l)) (hc : l.length ≤ c) (hcm : c ≤ 9223372036854775807) :
    Calls Tryz.prog 67 #[.slice A l.length c, .func (.func 64) #[] #[]] w (RetS (R (foldR maxR l)) w) := by
  obtain ⟨b, o, rfl, hcs⟩ := hr.ad (by rw [rats_length]; exact h0)
  have hget : ∀ j (h : j < l.length), w.cell? ⟨b, o + j, none⟩ = some (S (R l[j])) := by
    intro j h
    have := hcs j (by rw [rats_length]; exact h)
    unfold rats at this
    rw [List.getElem_map] at this
    exact this
  have hg0 := hget 0 h0
  rw [Nat.add_zero] at hg0
  have hlen : (1 : Int) ≤ (l.length : Int) := by omega
  have HG := Lib.hid hget
  have HZ := Lib.hid hz
  obtain ⟨rv, hrv⟩ : ∃ v, v = foldR maxR l := ⟨_, rfl⟩
  rw [← hrv]
  have HRV := Lib.hid hrv
  clear hget hz hcs hr hrv
  go_enter Tryz.func67, Tryz.ntmps67
  go_wp2
  go_loopw [5, 6] (fun v i wr => ∃ j : Nat, i = .int .i64 (j : Nat) ∧ 1 ≤ j ∧ j ≤ l.length ∧ v = S (R (foldR maxR (l.take j))) ∧ Ext w wr) (fun _ i _ => l.length - (intOf i).toNat)
  case atStart =>
    refine ⟨1, rfl, by omega, by omega, ?_, Ext.refl _⟩
    match l, h0 with
    | x :: l, _ => rfl
  case round =>
    obtain ⟨j, rfl, hj1, hj, rfl, hext⟩ := hrel
    have hne : l.take j ≠ [] := by intro e; have : (l.take j).length = 0 := by rw [e]; rfl
                                   rw [List.length_take] at this; omega
    have hzm : Sz k (foldR maxR (l.take j)) := by
      match ht : l.take j, hne with
      | x :: t, _ =>
        have hm : ∀ y ∈ x :: t, y ∈ l := fun y hy => List.mem_of_mem_take (by rw [ht]; exact hy)
        rcases foldR_mem maxR maxR_or t x with h | h
        · show Sz k (t.foldl maxR x); rw [h]; exact HZ.out x (hm x (List.mem_cons_self ..))
        · exact HZ.out _ (hm _ (List.mem_cons_of_mem _ h))
    by_cases hlt : j < l.length
    · have hg := hext.cellS (HG.out j hlt)
      have hzj := HZ.out l[j] (List.getElem_mem hlt)
      have hsn : foldR maxR (l.take (j + 1)) = maxR (foldR maxR (l.take j)) l[j] := by
        rw [List.take_succ_eq_append_getElem hlt, foldR_snoc _ hne]
      have cp := rCompare_c l[j] (foldR maxR (l.take j)) (a := k) (b := k) ⟨hzj, hzm, hk, hk, by omega⟩
      obtain ⟨x, hx⟩ : ∃ x, x = l[j] := ⟨_, rfl⟩
      obtain ⟨m, hm⟩ : ∃ m, m = foldR maxR (l.take j) := ⟨_, rfl⟩
      rw [← hx, ← hm] at cp
      rw [← hx] at hg
      rw [← hx, ← hm] at hsn
      rw [← hm]
      have HSN := Lib.hid hsn
      have hj0 : (0 : Int) ≤ (j : Int) := by omega
      have hjl : (j : Int) < (l.length : Int) := by omega
      clear hx hm hzm hzj hne hsn
      by_cases hlt2 : m < x
      · rw [cmpR_gt hlt2] at cp
        have HF : Hid (maxR m x = x) := Lib.hid (if_pos hlt2)
        clear hlt2
        go_wp2_with fail
        ((with_reducible refine (cp _ (hw.ext hext)).mono ?_); rintro e w2 ⟨rfl, hx2⟩)
        have hg2 := hx2.cellS hg
        go_wp2
        go_roundw
        case rel => exact ⟨j + 1, by go_num, by omega, hlt, by rw [HSN.out, HF.out], hext.trans hx2⟩
        case measure => simp [intOf]; omega
      · obtain ⟨sg, hsg, hsg0⟩ : ∃ z : Int, z = cmpR x m ∧ ¬ z > 0 := by
          by_cases e : x = m
          · exact ⟨_, rfl, by rw [cmpR_eq e]; omega⟩
          · exact ⟨_, rfl, by rw [cmpR_lt (by grind)]; omega⟩
        rw [← hsg] at cp
        have HF : Hid (maxR m x = m) := Lib.hid (if_neg hlt2)
        clear hsg hlt2
        go_wp2_with fail
        ((with_reducible refine (cp _ (hw.ext hext)).mono ?_); rintro e w2 ⟨rfl, hx2⟩)
        go_wp2
        go_roundw
        case rel => exact ⟨j + 1, by go_num, by omega, hlt, by rw [HSN.out, HF.out], hext.trans hx2⟩
        case measure => simp [intOf]; omega
    · have hrv : foldR maxR (l.take j) = rv := by rw [HRV.out, List.take_of_length_le (by omega)]
      have hle : (l.length : Int) ≤ (j : Int) := by omega
      rw [hrv]
      clear hrv hzm hne
      go_wp2
      go_ret
      exact ⟨rfl, hext⟩
end Go.Proofs.YtblijhokcjpeeaaGreatDoor
/- polygon: area, turn, less. -/
namespace Go.Proofs.YtblijhokcjpeeaaGreatDoor
open Go.RowKit Kl

def areaR (a b c : Pt) : Rat := (b.x - a.x) * (c.y - a.y) - (b.y - a.y) * (c.x - a.x)
theorem sz_area {k : Nat} {a b c : Pt} (ha : SzP k a) (hb : SzP k b) (hc : SzP k c) : Sz (8 * k + 5) (areaR a b c) :=
  (((hb.x.sub ha.x).mul (hc.y.sub ha.y)).sub ((hb.y.sub ha.y).mul (hc.x.sub ha.x))).mono (by omega)
set_option maxRecDepth 100000 in
set_option maxHeartbeats 2000000 in
theorem area_c (a b c : Pt) {k : Nat} (ha : SzP k a) (hb : SzP k b) (hc : SzP k c) (hk : 0 < k) (hk2 : k ≤ 400) (w : World) (hw : Okw w) :
    Calls Tryz.prog 176 #[ptV a, ptV b, ptV c] w (RetS (R (areaR a b c)) w) := by
  have s1 := rSub_c b.x a.x (a := k) (b := k) ⟨hb.x, ha.x, hk, hk, by omega⟩
  have s2 := rSub_c b.y a.y (a := k) (b := k) ⟨hb.y, ha.y, hk, hk, by omega⟩
  have s3 := rSub_c c.x a.x (a := k) (b := k) ⟨hc.x, ha.x, hk, hk, by omega⟩
  have s4 := rSub_c c.y a.y (a := k) (b := k) ⟨hc.y, ha.y, hk, hk, by omega⟩
  have m1 := rMul_c (b.x - a.x) (c.y - a.y) (a := k + k + 1) (b := k + k + 1) ⟨hb.x.sub ha.x, hc.y.sub ha.y, by omega, by omega, by omega⟩
  have m2 := rMul_c (b.y - a.y) (c.x - a.x) (a := k + k + 1) (b := k + k + 1) ⟨hb.y.sub ha.y, hc.x.sub ha.x, by omega, by omega, by omega⟩
  have sb := rSub_c ((b.x - a.x) * (c.y - a.y)) ((b.y - a.y) * (c.x - a.x)) (a := k + k + 1 + (k + k + 1)) (b := k + k + 1 + (k + k + 1)) ⟨(hb.x.sub ha.x).mul (hc.y.sub ha.y), (hb.y.sub ha.y).mul (hc.x.sub ha.x), by omega, by omega, by omega⟩
  have e : areaR a b c = (b.x - a.x) * (c.y - a.y) - (b.y - a.y) * (c.x - a.x) := rfl
  rw [← e] at sb
  obtain ⟨r, hr⟩ : ∃ r, r = areaR a b c := ⟨_, rfl⟩
  rw [← hr] at sb ⊢
  unfold ptV
  clear ha hb hc e hr
  go_enter Tryz.func176, Tryz.ntmps176
  go_wp2_with fail
  obtain ⟨W, hW, hE, hb1, hb2, hb3⟩ := blk3 w (.cells #[S (R a.x), S (R a.y)] 29) (.cells #[S (R b.x), S (R b.y)] 29) (.cells #[S (R c.x), S (R c.y)] 29)
  rw [← hW]
  clear hW
  have hA : BoxP W w.heap.size a := ⟨cell_of_blk hb1 rfl, cell_of_blk hb1 rfl⟩
  have hB : BoxP W (w.heap.size + 1) b := ⟨cell_of_blk hb2 rfl, cell_of_blk hb2 rfl⟩
  have hC : BoxP W (w.heap.size + 1 + 1) c := ⟨cell_of_blk hb3 rfl, cell_of_blk hb3 rfl⟩
  clear hb1 hb2 hb3
  have hWd := (Ext.refl W).drew
  have hEd := hE.drew
  obtain ⟨k1, k2⟩ := hA
  obtain ⟨k3, k4⟩ := hB
  have hA := BoxP.mk k1 k2
  have hB := BoxP.mk k3 k4
  go_region_held3 (fun w' => w'.cell? ⟨w.heap.size, 0, none⟩ = some (S (R a.x)) ∧ w'.cell? ⟨w.heap.size, 1, none⟩ = some (S (R a.y)) ∧ w'.cell? ⟨w.heap.size + 1, 0, none⟩ = some (S (R b.x)) ∧ w'.cell? ⟨w.heap.size + 1, 1, none⟩ = some (S (R b.y)))
    (go_keep)
    (first | ((with_reducible refine (s1 _ (hw.ext hEd)).mono ?_); rintro e w1 ⟨rfl, hx1⟩; obtain ⟨q1, q2⟩ := hA.ext (hWd.trans hx1); obtain ⟨q3, q4⟩ := hB.ext (hWd.trans hx1)) | ((with_reducible refine (s2 _ (hw.ext (hEd.trans hx1))).mono ?_); rintro e w2 ⟨rfl, hx2⟩; obtain ⟨t1, t2⟩ := hA.ext (hWd.trans (hx1.trans hx2)); obtain ⟨t3, t4⟩ := hB.ext (hWd.trans (hx1.trans hx2))))
  have hV := hWd.trans (hx1.trans hx2)
  replace hE := hE.trans hV
  replace hA := hA.ext hV
  replace hC := hC.ext hV
  clear hWd hEd hx1 hx2 k1 k2 k3 k4 q1 q2 q3 q4 t1 t2 t3 t4 hV hB s1 s2
  have hWd := (Ext.refl w2).drew
  have hEd := hE.drew
  obtain ⟨k1, k2⟩ := hA
  obtain ⟨k3, k4⟩ := hC
  have hA := BoxP.mk k1 k2
  have hC := BoxP.mk k3 k4
  go_wp2_with fail
  go_region_held3 (fun w' => w'.cell? ⟨w.heap.size, 0, none⟩ = some (S (R a.x)) ∧ w'.cell? ⟨w.heap.size, 1, none⟩ = some (S (R a.y)) ∧ w'.cell? ⟨w.heap.size + 1 + 1, 0, none⟩ = some (S (R c.x)) ∧ w'.cell? ⟨w.heap.size + 1 + 1, 1, none⟩ = some (S (R c.y)))
    (go_keep)
    (first | ((with_reducible refine (s3 _ (hw.ext hEd)).mono ?_); rintro e w3 ⟨rfl, hx1⟩; obtain ⟨q1, q2⟩ := hA.ext (hWd.trans hx1); obtain ⟨q3, q4⟩ := hC.ext (hWd.trans hx1)) | ((with_reducible refine (s4 _ (hw.ext (hEd.trans hx1))).mono ?_); rintro e w4 ⟨rfl, hx2⟩; obtain ⟨t1, t2⟩ := hA.ext (hWd.trans (hx1.trans hx2)); obtain ⟨t3, t4⟩ := hC.ext (hWd.trans (hx1.trans hx2))))
  replace hE := hE.trans (hWd.trans (hx1.trans hx2))
  clear hA hC hWd hEd hx1 hx2 k1 k2 k3 k4 q1 q2 q3 q4 t1 t2 t3 t4 s3 s4
  go_wp2_with fail
  ((with_reducible refine (m1 _ (hw.ext hE)).mono ?_); rintro e w5 ⟨rfl, hx⟩)
  replace hE := hE.trans hx
  go_wp2_with fail
  ((with_reducible refine (m2 _ (hw.ext hE)).mono ?_); rintro e w6 ⟨rfl, hx2⟩)
  replace hE := hE.trans hx2
  go_wp2_with fail
  ((with_reducible refine (sb _ (hw.ext hE)).mono ?_); rintro e w7 ⟨rfl, hx3⟩)
  replace hE := hE.trans hx3
  go_wp2
  go_ret
  exact ⟨rfl, hE⟩
set_option maxRecDepth 100000 in
set_option maxHeartbeats 2000000 in
theorem turn_c (a b c : Pt) {k : Nat} (ha : SzP k a) (hb : SzP k b) (hc : SzP k c) (hk : 0 < k) (hk2 : k ≤ 400) (w : World) (hw : Okw w) :
    Calls Tryz.prog 107 #[ptV a, ptV b, ptV c] w (RetI (sgnR (areaR a b c)) w) := by
  have ar := area_c a b c ha hb hc hk hk2
  have sg := rSign_c (areaR a b c)
  have hE := (((Ext.refl w).alloc (.cells #[S (R a.x), S (R a.y)] 29)).alloc (.cells #[S (R b.x), S (R b.y)] 29)).alloc (.cells #[S (R c.x), S (R c.y)] 29)
  unfold ptV at ar ⊢
  clear ha hb hc
  go_enter Tryz.func107, Tryz.ntmps107
  go_wp2_with fail
  ((with_reducible refine (ar _ (hw.ext hE)).mono ?_); rintro e w1 ⟨rfl, hx⟩)
  go_wp2_with fail
  ((with_reducible refine (sg _).mono ?_); rintro e w2 ⟨rfl, hx2⟩)
  go_wp2
  go_ret
  exact ⟨rfl, hE.trans (hx.trans hx2)⟩
def lessR (a b : Pt) : Int := if cmpR a.x b.x ≠ 0 then cmpR a.x b.x else cmpR a.y b.y
set_option maxRecDepth 100000 in
set_option maxHeartbeats 2000000 in
theorem less_c (a b : Pt) {k : Nat} (ha : SzP k a) (hb : SzP k b) (hk : 0 < k) (hk2 : k ≤ 400) (w : World) (hw : Okw w) :
    Calls Tryz.prog 108 #[ptV a, ptV b] w (RetI (lessR a b) w) := by
  have c1 := rCompare_c a.x b.x (a := k) (b := k) ⟨ha.x, hb.x, hk, hk, by omega⟩
  have c2 := rCompare_c a.y b.y (a := k) (b := k) ⟨ha.y, hb.y, hk, hk, by omega⟩
  have hE := ((Ext.refl w).alloc (.cells #[S (R a.x), S (R a.y)] 29)).alloc (.cells #[S (R b.x), S (R b.y)] 29)
  obtain ⟨r, hr⟩ : ∃ r, r = lessR a b := ⟨_, rfl⟩
  rw [← hr]
  have hA : (w.alloc (.cells #[S (R a.x), S (R a.y)] 29)).alloc (.cells #[S (R b.x), S (R b.y)] 29) |>.heap[w.heap.size]? = some (.cells #[S (R a.x), S (R a.y)] 29) := (Below.heap_alloc _ _ _ (by simp)).trans (heap_alloc_new w _)
  have hB := heap_alloc_new (w.alloc (.cells #[S (R a.x), S (R a.y)] 29)) (.cells #[S (R b.x), S (R b.y)] 29)
  rw [World.size_alloc] at hB
  obtain ⟨x, hx0⟩ : ∃ x, x = cmpR a.x b.x := ⟨_, rfl⟩
  have hrx : r = if x ≠ 0 then x else cmpR a.y b.y := by rw [hr, hx0]; rfl
  rw [← hx0] at c1
  unfold ptV
  clear ha hb hr hx0
  by_cases h : x = 0
  · subst h
    replace hrx : r = cmpR a.y b.y := by rw [hrx]; rfl
    simp only [← hrx] at c2
    clear hrx
    go_enter Tryz.func108, Tryz.ntmps108
    go_wp2_with fail
    ((with_reducible refine (c1 _ (hw.ext hE)).mono ?_); rintro e w1 ⟨rfl, hx⟩)
    replace hE := hE.trans hx
    replace hA := (hx.block _ (lt_of_block hA)).trans hA
    replace hB := (hx.block _ (lt_of_block hB)).trans hB
    have k1 := cell_of_blk (o := 1) hA rfl
    have k2 := cell_of_blk (o := 1) hB rfl
    go_wp2_with fail
    ((with_reducible refine (c2 _ (hw.ext hE)).mono ?_); rintro e w2 ⟨rfl, hx2⟩)
    go_wp2
    go_ret
    exact ⟨rfl, hE.trans hx2⟩
  · replace hrx : r = x := by rw [hrx, if_pos h]
    have hne : (x != 0) = true := by rw [bne_iff_ne]; exact h
    subst hrx
    clear c2 h
    go_enter Tryz.func108, Tryz.ntmps108
    go_wp2_with fail
    ((with_reducible refine (c1 _ (hw.ext hE)).mono ?_); rintro e w1 ⟨rfl, hx⟩)
    go_wp2
    go_ret
    exact ⟨rfl, hE.trans hx⟩
end Go.Proofs.YtblijhokcjpeeaaGreatDoor
/- polygon.Check at a right polygon. -/
namespace Go.Proofs.YtblijhokcjpeeaaGreatDoor
open Go.RowKit Kl

def ptsT (l : List Pt) : List (Bs × Bs) := l.map ptT
/-- Row of places: the cells of place j. -/
theorem rdC_pt {w : World} {A : Option Addr} {l : List Pt} (hr : RdC w A (flat (ptsT l))) {j : Nat} (h : j < l.length) : ∃ b o, A = some ⟨b, o, none⟩ ∧ w.cell? ⟨b, o + j * 2, none⟩ = some (S (R l[j].x)) ∧ w.cell? ⟨b, o + j * 2 + 1, none⟩ = some (S (R l[j].y)) := by
  have hl : (ptsT l).length = l.length := by simp [ptsT]
  obtain ⟨b, o, e, hcs⟩ := hr.ad (by rw [flat_length]; omega)
  obtain ⟨f1, f2⟩ := flat_get (ptsT l) j (by omega)
  have hg1 := hcs (j * 2) (by rw [flat_length]; omega)
  have hg2 := hcs (j * 2 + 1) (by rw [flat_length]; omega)
  rw [List.getElem?_eq_getElem (by rw [flat_length]; omega), Option.some.injEq] at f1 f2
  rw [f1] at hg1
  rw [f2, ← Nat.add_assoc] at hg2
  have e2 : (ptsT l)[j]'(by omega) = ptT l[j] := by simp [ptsT]
  rw [e2] at hg1 hg2
  exact ⟨b, o, e, hg1, hg2⟩
/-- A polygon that Check accepts. -/
structure PolyOk (l : List Pt) : Prop where
  n3 : 3 ≤ l.length
  n60 : l.length ≤ 60
  turn : ∀ (i n : Nat) (hi : i < l.length) (hn : n < l.length), n ≠ i → n ≠ (i + 1) % l.length → 0 < areaR l[i] (l[(i + 1) % l.length]'(Nat.mod_lt _ (by omega))) l[n]
  less : ∀ (n : Nat) (h : n + 1 < l.length), ¬ lessR l[n + 1] (l[0]'(by omega)) < 0
set_option maxRecDepth 100000 in
set_option maxHeartbeats 8000000 in
theorem polyCheck_ok (l : List Pt) (hp : PolyOk l) {k : Nat} (hz : ∀ p ∈ l, SzP k p) (hk : 0 < k) (hk2 : k ≤ 200) (A : Option Addr) (c : Nat) (w : World) (hw : Okw w) (hr : RdC w A (flat (ptsT l))) (hc : l.length ≤ c) (_ : c ≤ 9223372036854775807) :
    Calls Tryz.prog 55 #[.slice A l.length c] w (RetI 0 w) := by
  obtain ⟨h3, h60, hturn, hless⟩ := hp
  have HT := Lib.hid hturn
  have HL := Lib.hid hless
  have HZ := Lib.hid hz
  clear hturn hless hz
  go_enter Tryz.func55, Tryz.ntmps55
  go_wp2
  go_loopw [21] (fun i wr => ∃ j : Nat, i = .int .i64 (j : Nat) ∧ j ≤ l.length ∧ Ext w wr) (fun i _ => l.length - (intOf i).toNat)
  case atStart => exact ⟨0, rfl, by omega, Ext.refl _⟩
  case round =>
    obtain ⟨j, rfl, hj, hext⟩ := hrel
    by_cases hlt : j < l.length
    · obtain ⟨b, o, rfl, hg1, hg2⟩ := rdC_pt (hr.ext hext) hlt
      have hzj := HZ.out l[j] (List.getElem_mem hlt)
      obtain ⟨p, hp⟩ : ∃ p, p = l[j] := ⟨_, rfl⟩
      rw [← hp] at hg1 hg2 hzj
      have hx1 := hext.alloc (.cells #[S (R p.x), S (R p.y)] 29)
      have ck := checkPoint_c (R p.x) (R p.y) true (by simp only [true_iff]; exact ⟨okR_sz hzj.x hk hk2, okR_sz hzj.y hk hk2⟩) (szl hzj.x hk (by omega)) (szl hzj.y hk (by omega)) _ (hw.ext hx1)
      rw [chkV_t] at ck
      have hj0 : (0 : Int) ≤ (j : Int) := by omega
      have hjl : (j : Int) < (l.length : Int) := by omega
      clear hp hzj
      go_wp2_with fail
      ((with_reducible refine ck.mono ?_); rintro e w2 ⟨rfl, hx2⟩)
      go_wp2
      go_roundw
      case rel => exact ⟨j + 1, by go_num, hlt, hx1.trans hx2⟩
      case measure => simp [intOf]; omega
    · have hle : (l.length : Int) ≤ (j : Int) := by omega
      have hd : decide (j < l.length) = false := by simp [hlt]
      have hd' : decide ((j : Int) < (l.length : Int)) = false := by simp; omega
      clear hlt
      go_wp2
      (try first | simp only [hd] | simp only [hd'])
      clear hle hd hd'
      go_loopw [33] (fun i wr => ∃ i' : Nat, i = .int .i64 (i' : Nat) ∧ i' ≤ l.length ∧ Ext w wr) (fun i _ => l.length - (intOf i).toNat)
      case atStart => exact ⟨0, rfl, by omega, hext⟩
      case round =>
        obtain ⟨i, rfl, hi, hexti⟩ := hrel
        by_cases hlt : i < l.length
        · obtain ⟨b, o, rfl, hg1, hg2⟩ := rdC_pt (hr.ext hexti) hlt
          obtain ⟨kk, hkk⟩ : ∃ kk, kk = (i + 1) % l.length := ⟨_, rfl⟩
          have hkl : kk < l.length := by rw [hkk]; exact Nat.mod_lt _ (by omega)
          have hki : ((i : Int) + 1) % (l.length : Int) = (kk : Int) := by rw [hkk]; simp
          obtain ⟨pa, hpa⟩ : ∃ p, p = l[i] := ⟨_, rfl⟩
          have hza := HZ.out l[i] (List.getElem_mem hlt)
          rw [← hpa] at hg1 hg2 hza
          have hi0 : (0 : Int) ≤ (i : Int) := by omega
          have hil : (i : Int) < (l.length : Int) := by omega
          have hx1 := hexti.alloc (.cells #[S (R pa.x), S (R pa.y)] 29)
          have hba := heap_alloc_new wr (.cells #[S (R pa.x), S (R pa.y)] 29)
          have HKK := Lib.hid hkk
          have HPA := Lib.hid hpa
          clear hkk hpa
          go_wp2
          rw [hki]
          clear hki hg1 hg2
          generalize wr.alloc (.cells #[S (R pa.x), S (R pa.y)] 29) = V at *
          obtain ⟨ba, hbae⟩ : ∃ ba, ba = wr.heap.size := ⟨_, rfl⟩
          rw [← hbae] at hba ⊢
          clear hbae hexti
          go_loopw [45] (fun i wr => ∃ n : Nat, i = .int .i64 (n : Nat) ∧ n ≤ l.length ∧ Ext V wr) (fun i _ => l.length - (intOf i).toNat)
          case atStart => exact ⟨0, rfl, by omega, Ext.refl _⟩
          case round =>
            obtain ⟨n, rfl, hn, hextn⟩ := hrel
            by_cases hltn : n < l.length
            · obtain ⟨_, _, e1, hg1, hg2⟩ := rdC_pt (hr.ext (hx1.trans hextn)) hltn
              obtain ⟨_, _, e2, hg3, hg4⟩ := rdC_pt (hr.ext (hx1.trans hextn)) hkl
              simp only [Option.some.injEq, Addr.mk.injEq, and_true] at e1 e2
              obtain ⟨rfl, rfl⟩ := e1
              obtain ⟨e2, e3⟩ := e2
              subst e2 e3
              obtain ⟨px, hpx⟩ : ∃ p, p = l[n] := ⟨_, rfl⟩
              obtain ⟨pk, hpk⟩ : ∃ p, p = l[kk] := ⟨_, rfl⟩
              have hzx := HZ.out l[n] (List.getElem_mem hltn)
              have hzk := HZ.out l[kk] (List.getElem_mem hkl)
              rw [← hpx] at hg1 hg2 hzx
              rw [← hpk] at hg3 hg4 hzk
              have HPX := Lib.hid hpx
              have HPK := Lib.hid hpk
              clear hpx hpk
              have hbar := (hextn.block _ (lt_of_block hba)).trans hba
              have hxn := hextn.alloc (.cells #[S (R px.x), S (R px.y)] 29)
              have hbx := heap_alloc_new wr (.cells #[S (R px.x), S (R px.y)] 29)
              have hn0 : (0 : Int) ≤ (n : Int) := by omega
              have hnl : (n : Int) < (l.length : Int) := by omega
              have hk0 : (0 : Int) ≤ (kk : Int) := by omega
              have hkl' : (kk : Int) < (l.length : Int) := by omega
              have hxx := (Ext.refl wr).alloc (.cells #[S (R px.x), S (R px.y)] 29)
              replace hbar := (hxx.block _ (lt_of_block hbar)).trans hbar
              have hg3' := hxx.cellS hg3
              have hg4' := hxx.cellS hg4
              go_upto_region 19 with fail
              clear hg1 hg2 hg3 hg4
              generalize wr.alloc (.cells #[S (R px.x), S (R px.y)] 29) = U at *
              obtain ⟨bx, hbxe⟩ : ∃ bx, bx = wr.heap.size := ⟨_, rfl⟩
              rw [← hbxe] at hbx ⊢
              clear hbxe hxx
              by_cases hni : n = i
              · have t1 : ((n : Int) != (i : Int)) = false := by rw [hni]; simp
                clear hni
                go_quiet (fail)
                go_wp2
                go_roundw
                case rel => exact ⟨n + 1, by go_num, hltn, hxn.drewN _⟩
                case measure => simp [intOf]; omega
              · have t1 : ((n : Int) != (i : Int)) = true := by rw [bne_iff_ne]; omega
                have t1n : (n != i) = true := by rw [bne_iff_ne]; exact hni
                have t1e : (n == i) = false := by rw [beq_eq_false_iff_ne]; exact hni
                by_cases hnk : n = kk
                · have t2n : (n != kk) = false := by rw [hnk]; simp
                  have t2 : ((n : Int) != (kk : Int)) = false := by rw [hnk]; simp
                  clear hnk hni
                  go_quiet (fail)
                  go_wp2
                  go_roundw
                  case rel => exact ⟨n + 1, by go_num, hltn, hxn.drewN _⟩
                  case measure => simp [intOf]; omega
                · have t2 : ((n : Int) != (kk : Int)) = true := by rw [bne_iff_ne]; omega
                  have t2n : (n != kk) = true := by rw [bne_iff_ne]; exact hnk
                  have t2e : (n == kk) = false := by rw [beq_eq_false_iff_ne]; exact hnk
                  have har : 0 < areaR pa pk px := by
                    have h := HT.out i n hlt hltn hni (by rw [← HKK.out]; exact hnk)
                    rw [HPA.out, HPK.out, HPX.out]
                    simp only [HKK.out]
                    exact h
                  have tn := turn_c pa pk px hza hzk hzx hk (by omega)
                  rw [sgnR_pos har] at tn
                  have c1 := cell_of_blk (o := 0) hbar rfl
                  have c2 := cell_of_blk (o := 1) hbar rfl
                  have c3 := cell_of_blk (o := 0) hbx rfl
                  have c4 := cell_of_blk (o := 1) hbx rfl
                  have hU := hw.ext (hx1.trans hxn)
                  unfold ptV at tn
                  clear hzx hzk har hni hnk
                  go_region_held3 (fun w' => w'.cell? ⟨ba, 0, none⟩ = some (S (R pa.x)) ∧ w'.cell? ⟨ba, 1, none⟩ = some (S (R pa.y)) ∧ w'.cell? ⟨b, o + kk * 2, none⟩ = some (S (R pk.x)) ∧ w'.cell? ⟨b, o + kk * 2 + 1, none⟩ = some (S (R pk.y)) ∧ w'.cell? ⟨bx, 0, none⟩ = some (S (R px.x)) ∧ w'.cell? ⟨bx, 1, none⟩ = some (S (R px.y)))
                    (go_keep)
                    (first | ((with_reducible refine (tn _ (hU.ext (Ext.refl U).drew)).mono ?_); rintro e w5 ⟨rfl, hx5⟩; have X5 := (Ext.refl U).drew.trans hx5; have d1 := X5.cellS c1; have d2 := X5.cellS c2; have d3 := X5.cellS c3; have d4 := X5.cellS c4; have d5 := X5.cellS hg3'; have d6 := X5.cellS hg4'))
                  go_wp2
                  go_roundw
                  case rel => exact ⟨n + 1, by go_num, hltn, hxn.trans X5⟩
                  case measure => simp [intOf]; omega
            · have hle : (l.length : Int) ≤ (n : Int) := by omega
              go_wp2
              go_roundw
              case rel => exact ⟨i + 1, by go_num, hlt, hx1.trans hextn⟩
              case measure => simp [intOf]; omega
        · have hle : (l.length : Int) ≤ (i : Int) := by omega
          have hd : decide (i < l.length) = false := by simp [hlt]
          have hd' : decide ((i : Int) < (l.length : Int)) = false := by simp; omega
          have hl0n : 0 < l.length := by omega
          obtain ⟨b, o, rfl, _, _⟩ := rdC_pt (hr.ext hexti) hl0n
          have hl1 : (1 : Int) ≤ (l.length : Int) := by omega
          have hlc : (l.length : Int) ≤ (c : Int) := by omega
          have hm1 : (l.length : Int) - 1 = ((l.length - 1 : Nat) : Int) := by omega
          obtain ⟨m, hme⟩ : ∃ m, m = l.length - 1 := ⟨_, rfl⟩
          rw [← hme] at hm1
          have HM := Lib.hid hme
          clear hme hlt
          go_wp2
          rw [← HM.out]
          clear hle hd hd' hm1 hl1 hlc
          go_loopw [73] (fun i wr => ∃ n : Nat, i = .int .i64 (n : Nat) ∧ n ≤ m ∧ Ext w wr) (fun i _ => m - (intOf i).toNat)
          case atStart => exact ⟨0, rfl, by omega, hexti⟩
          case round =>
            obtain ⟨n, rfl, hn, hextn⟩ := hrel
            by_cases hltn : n < m
            · have hml : n + 1 < l.length := by rw [HM.out] at hltn; omega
              have hl0 : 0 < l.length := by omega
              obtain ⟨_, _, e1, hg1, hg2⟩ := rdC_pt (hr.ext hextn) hml
              obtain ⟨_, _, e2, hg3, hg4⟩ := rdC_pt (hr.ext hextn) hl0
              simp only [Option.some.injEq, Addr.mk.injEq, and_true] at e1 e2
              obtain ⟨rfl, rfl⟩ := e1
              obtain ⟨e2, e3⟩ := e2
              subst e2 e3
              obtain ⟨px, hpx⟩ : ∃ p, p = l[n + 1] := ⟨_, rfl⟩
              obtain ⟨p0, hp0⟩ : ∃ p, p = l[0] := ⟨_, rfl⟩
              have hzx := HZ.out l[n + 1] (List.getElem_mem hml)
              have hz0 := HZ.out l[0] (List.getElem_mem hl0)
              have hll := HL.out n hml
              rw [← hpx] at hg1 hg2 hzx
              rw [← hp0] at hg3 hg4 hz0
              rw [← hpx, ← hp0] at hll
              have ls := less_c px p0 hzx hz0 hk (by omega)
              obtain ⟨r, hre⟩ : ∃ r, r = lessR px p0 := ⟨_, rfl⟩
              rw [← hre] at hll ls
              have hr0 : 0 ≤ r := by omega
              have e2 : o + (n + 1) * 2 = o + 2 + n * 2 := by omega
              rw [e2] at hg1 hg2
              rw [Nat.zero_mul, Nat.add_zero] at hg3 hg4
              have hn0 : (0 : Int) ≤ (n : Int) := by omega
              have hnl : (n : Int) < (m : Int) := by omega
              have hl0' : (0 : Int) < (l.length : Int) := by omega
              have hxn := hextn.alloc (.cells #[S (R px.x), S (R px.y)] 29)
              have hbx := heap_alloc_new wr (.cells #[S (R px.x), S (R px.y)] 29)
              have hxx := (Ext.refl wr).alloc (.cells #[S (R px.x), S (R px.y)] 29)
              have hg3' := hxx.cellS hg3
              have hg4' := hxx.cellS hg4
              unfold ptV at ls
              clear hll hre hpx hp0 hzx hz0 e2
              go_upto_region 26 with fail
              clear hg1 hg2 hg3 hg4
              generalize wr.alloc (.cells #[S (R px.x), S (R px.y)] 29) = U at *
              obtain ⟨bx, hbxe⟩ : ∃ bx, bx = wr.heap.size := ⟨_, rfl⟩
              rw [← hbxe] at hbx ⊢
              clear hbxe hxx
              have c3 := cell_of_blk (o := 0) hbx rfl
              have c4 := cell_of_blk (o := 1) hbx rfl
              have hU := hw.ext hxn
              go_region_held3 (fun w' => w'.cell? ⟨b, o, none⟩ = some (S (R p0.x)) ∧ w'.cell? ⟨b, o + 1, none⟩ = some (S (R p0.y)) ∧ w'.cell? ⟨bx, 0, none⟩ = some (S (R px.x)) ∧ w'.cell? ⟨bx, 1, none⟩ = some (S (R px.y)))
                (go_keep)
                (first | ((with_reducible refine (ls _ (hU.ext (Ext.refl U).drew)).mono ?_); rintro e w5 ⟨rfl, hx5⟩; have X5 := (Ext.refl U).drew.trans hx5; have d1 := X5.cellS c3; have d2 := X5.cellS c4; have d3 := X5.cellS hg3'; have d4 := X5.cellS hg4'))
              go_wp2
              go_roundw
              case rel => exact ⟨n + 1, by go_num, hltn, hxn.trans X5⟩
              case measure => simp [intOf]; omega
            · have hle : (m : Int) ≤ (n : Int) := by omega
              go_wp2
              go_ret
              exact ⟨rfl, hextn⟩
end Go.Proofs.YtblijhokcjpeeaaGreatDoor
namespace Go.Proofs.YtblijhokcjpeeaaGreatDoor
open Go.RowKit Kl

set_option maxRecDepth 100000 in
set_option maxHeartbeats 2000000 in
theorem or_c (x y : Int) (b o : Nat) (w : World) (h1 : w.cell? ⟨b, o, none⟩ = some (.int .i64 x)) (h2 : w.cell? ⟨b, o + 1, none⟩ = some (.int .i64 y)) :
    Calls Tryz.prog 175 #[.slice (some ⟨b, o, none⟩) 2 2] w (RetI (if x ≠ 0 then x else y) w) := by
  obtain ⟨r, hr⟩ : ∃ r, r = if x ≠ 0 then x else y := ⟨_, rfl⟩
  rw [← hr]
  have HR := Lib.hid hr
  clear hr
  go_enter Tryz.func175, Tryz.ntmps175
  go_wp2
  go_loopw [8] (fun i wr => ∃ j : Nat, i = .int .i64 (j : Nat) ∧ j ≤ 2 ∧ (1 ≤ j → x = 0) ∧ (2 ≤ j → y = 0) ∧ wr = w) (fun i _ => 2 - (intOf i).toNat)
  case atStart => exact ⟨0, rfl, by omega, by omega, by omega, rfl⟩
  case round =>
    obtain ⟨j, rfl, hj, hx, hy, rfl⟩ := hrel
    by_cases j0 : j = 0
    · subst j0
      by_cases hx0 : x = 0
      · have t : (x != 0) = false := by rw [hx0]; rfl
        have HX := Lib.hid hx0
        clear hx hy hx0
        go_wp2
        go_roundw
        case rel => exact ⟨1, rfl, by omega, fun _ => HX.out, by omega, by trivial⟩
        case measure => simp [intOf]
      · have t : (x != 0) = true := by rw [bne_iff_ne]; exact hx0
        have hrx : r = x := by rw [HR.out, if_pos hx0]
        subst hrx
        clear hx hy hx0
        go_wp2
        go_ret
        exact ⟨rfl, Ext.refl _⟩
    · by_cases j1 : j = 1
      · subst j1
        have hx0 : x = 0 := hx (by omega)
        have hry : r = y := by rw [HR.out, if_neg (by omega)]
        subst hry
        have HX := Lib.hid hx0
        by_cases hy0 : r = 0
        · have t : (r != 0) = false := by rw [hy0]; rfl
          have HY := Lib.hid hy0
          clear hx hy hx0 hy0 j0
          go_wp2
          go_roundw
          case rel => exact ⟨2, rfl, by omega, fun _ => HX.out, fun _ => HY.out, by trivial⟩
          case measure => simp [intOf]
        · have t : (r != 0) = true := by rw [bne_iff_ne]; exact hy0
          clear hx hy hx0 hy0 j0
          go_wp2
          go_ret
          exact ⟨rfl, Ext.refl _⟩
      · have j2 : j = 2 := by omega
        subst j2
        have hx0 : x = 0 := hx (by omega)
        have hy0 : y = 0 := hy (by omega)
        have hr0 : r = 0 := by rw [HR.out, if_neg (by omega), hy0]
        subst hr0
        clear hx hy hx0 hy0 j0 j1
        go_wp2
        go_ret
        exact ⟨rfl, Ext.refl _⟩

set_option maxRecDepth 100000 in
set_option maxHeartbeats 4000000 in
theorem dorder_c (a b : Pt) {k : Nat} (ha : SzP k a) (hb : SzP k b) (hk : 0 < k) (hk2 : k ≤ 400) (w : World) (hw : Okw w) :
    Calls Tryz.prog 104 #[ptV a, ptV b] w (RetI (lessR a b) w) := by
  have c1 := rCompare_c a.x b.x (a := k) (b := k) ⟨ha.x, hb.x, hk, hk, by omega⟩
  have c2 := rCompare_c a.y b.y (a := k) (b := k) ⟨ha.y, hb.y, hk, hk, by omega⟩
  have hE := ((Ext.refl w).alloc (.cells #[S (R a.x), S (R a.y)] 29)).alloc (.cells #[S (R b.x), S (R b.y)] 29)
  obtain ⟨x, hx0⟩ : ∃ x, x = cmpR a.x b.x := ⟨_, rfl⟩
  obtain ⟨y, hy0⟩ : ∃ x, x = cmpR a.y b.y := ⟨_, rfl⟩
  have hr : lessR a b = if x ≠ 0 then x else y := by rw [hx0, hy0]; rfl
  rw [hr]
  rw [← hx0] at c1
  rw [← hy0] at c2
  have hA : (w.alloc (.cells #[S (R a.x), S (R a.y)] 29)).alloc (.cells #[S (R b.x), S (R b.y)] 29) |>.heap[w.heap.size]? = some (.cells #[S (R a.x), S (R a.y)] 29) := (Below.heap_alloc _ _ _ (by simp)).trans (heap_alloc_new w _)
  have hB := heap_alloc_new (w.alloc (.cells #[S (R a.x), S (R a.y)] 29)) (.cells #[S (R b.x), S (R b.y)] 29)
  rw [World.size_alloc] at hB
  obtain ⟨r, hre⟩ : ∃ r : Int, r = if x ≠ 0 then x else y := ⟨_, rfl⟩
  have HRE := Lib.hid hre
  rw [← hre]
  unfold ptV
  have or1 : ∀ (b o : Nat) (w : World), w.cell? ⟨b, o, none⟩ = some (.int .i64 x) → w.cell? ⟨b, o + 1, none⟩ = some (.int .i64 y) → Calls Tryz.prog 175 #[.slice (some ⟨b, o, none⟩) 2 2] w (RetI r w) := by
    intro b o w h1 h2
    rw [hre]
    exact or_c x y b o w h1 h2
  clear ha hb hr hx0 hy0 hre
  go_enter Tryz.func104, Tryz.ntmps104
  go_upto_region 1 with fail
  generalize (w.alloc (.cells #[S (R a.x), S (R a.y)] 29)).alloc (.cells #[S (R b.x), S (R b.y)] 29) = V at *
  have hs := hE.size
  obtain ⟨ba, hba⟩ : ∃ ba, ba = w.heap.size := ⟨_, rfl⟩
  rw [← hba] at hA hB ⊢
  clear hba hs
  have k1 := cell_of_blk (o := 0) hA rfl
  have k2 := cell_of_blk (o := 1) hA rfl
  have k3 := cell_of_blk (o := 0) hB rfl
  have k4 := cell_of_blk (o := 1) hB rfl
  have hV := hw.ext hE
  clear hA hB
  go_region_held3 (fun w' => w'.cell? ⟨ba, 0, none⟩ = some (S (R a.x)) ∧ w'.cell? ⟨ba, 1, none⟩ = some (S (R a.y)) ∧ w'.cell? ⟨ba + 1, 0, none⟩ = some (S (R b.x)) ∧ w'.cell? ⟨ba + 1, 1, none⟩ = some (S (R b.y)))
    (go_keep)
    (first | ((with_reducible refine (c1 _ (hV.ext (Ext.refl V).drew)).mono ?_); rintro e w5 ⟨rfl, hx5⟩; have X5 : Ext V w5 := (Ext.refl V).drew.trans hx5; have d1 := X5.cellS k1; have d2 := X5.cellS k2; have d3 := X5.cellS k3; have d4 := X5.cellS k4) | ((with_reducible refine (c2 _ (hV.ext X5)).mono ?_); rintro e w6 ⟨rfl, hx6⟩; have X6 : Ext V w6 := X5.trans hx6; have f1 := X6.cellS k1; have f2 := X6.cellS k2; have f3 := X6.cellS k3; have f4 := X6.cellS k4) | ((with_reducible refine (or1 w6.heap.size 0 (w6.alloc (.cells #[.int .i64 x, .int .i64 y] 3)) (cell_of_blk (o := 0) (heap_alloc_new w6 _) rfl) (cell_of_blk (o := 1) (heap_alloc_new w6 _) rfl)).mono ?_); rintro e w7 ⟨rfl, hx7⟩; have X7 : Ext V w7 := (X6.alloc _).trans hx7; have g1 := X7.cellS k1; have g2 := X7.cellS k2; have g3 := X7.cellS k3; have g4 := X7.cellS k4))
  go_wp2
  go_ret
  exact ⟨rfl, hE.trans X7⟩
end Go.Proofs.YtblijhokcjpeeaaGreatDoor
