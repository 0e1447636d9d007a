/- append of one element that lies in a block of its own: rational, point, segment. -/
import Derived.Test.YtblijhokcjpeeaaGreatDoorMR
/- slices.MinFunc and MaxFunc over points. -/
namespace Go.Proofs.YtblijhokcjpeeaaGreatDoor
open Go.RowKit Kl

theorem blk_far {w : World} {b b' : Nat} {x : Obj} (v0 v1 : Value) (hn : b ≠ b') (h : w.heap[b']? = some x) : ((w.setCell ⟨b, 0, none⟩ v0).setCell ⟨b, 1, none⟩ v1).heap[b']? = some x := by
  simp only [World.setCell, Array.getElem?_modify, h]
  simp [hn]
theorem Tryz.sizePt : (Tryz.prog.info? 29).map (·.size) = some 2 := by kernel_rfl
def foldP (f : Pt → Pt → Pt) : List Pt → Pt
  | [] => ⟨0, 0⟩
  | x :: l => l.foldl f x
theorem foldP_snoc (f : Pt → Pt → Pt) : ∀ {l : List Pt}, l ≠ [] → ∀ x, foldP f (l ++ [x]) = f (foldP f l) x
  | [], h, _ => absurd rfl h
  | _ :: _, _, _ => by simp [foldP, List.foldl_append]
theorem foldP_mem (f : Pt → Pt → Pt) (hf : ∀ x y, f x y = x ∨ f x y = y) : ∀ (l : List Pt) (x : Pt), l.foldl f x = x ∨ l.foldl f x ∈ l
  | [], x => Or.inl rfl
  | y :: l, x => by
    rw [List.foldl_cons]
    rcases foldP_mem f hf l (f x y) with h | h
    · rcases hf x y with e | e
      · exact Or.inl (h.trans e)
      · rw [h, e]; exact Or.inr (List.mem_cons_self ..)
    · exact Or.inr (List.mem_cons_of_mem _ h)

def minP (m x : Pt) : Pt := if lessR x m < 0 then x else m
theorem minP_or (x y : Pt) : minP x y = x ∨ minP x y = y := by unfold minP; split <;> simp
set_option maxRecDepth 100000 in
set_option maxHeartbeats 4000000 in
theorem minFuncP_c (l : List Pt) (h0 : 0 < l.length) {k : Nat} (hk : 0 < k) (hk2 : k ≤ 400) (hz : ∀ q ∈ l, SzP k q) (A : Option Addr) (c : Nat) (w : World) (hw : Okw w) (hr : RdC w A (flat (ptsT l))) (hc : l.length ≤ c) (hcm : c ≤ 9223372036854775807) :
    Calls Tryz.prog 129 #[.slice A l.length c, .func (.func 104) #[] #[]] w (RetV (ptV (foldP minP l)) w) := by
  obtain ⟨b, o, rfl, hg1, hg2⟩ := rdC_pt hr h0
  rw [Nat.zero_mul, Nat.add_zero] at hg1 hg2
  have hlen : (1 : Int) ≤ (l.length : Int) := by omega
  have HZ := Lib.hid hz
  obtain ⟨rv, hrv⟩ : ∃ v, v = foldP minP l := ⟨_, rfl⟩
  rw [← hrv]
  have HRV := Lib.hid hrv
  obtain ⟨p0, hp0⟩ : ∃ p, p = l[0] := ⟨_, rfl⟩
  rw [← hp0] at hg1 hg2
  have hf1 : p0 = foldP minP (l.take 1) := by
    rw [hp0]
    match l, h0 with
    | x :: l, _ => rfl
  have HF1 := Lib.hid hf1
  have hx := ((Ext.refl w).alloc (.cells #[S [], S []] 29))
  have hbr := heap_alloc_new w (.cells #[S [], S []] 29)
  replace hbr := ((Ext.refl _).alloc (.cells #[S (R p0.x), S (R p0.y)] 29)).block _ (lt_of_block hbr) |>.trans hbr
  have hbm := heap_alloc_new (w.alloc (.cells #[S [], S []] 29)) (.cells #[S (R p0.x), S (R p0.y)] 29)
  have g1 := hx.cellS hg1
  have g2 := hx.cellS hg2
  have hx2 := hx.alloc (.cells #[S (R p0.x), S (R p0.y)] 29)
  have hg : w.heap.size < (w.alloc (.cells #[S [], S []] 29)).heap.size := by rw [World.size_alloc]; omega
  clear hz hrv hp0 hf1 hg1 hg2
  go_enter Tryz.func129, Tryz.ntmps129
  go_upto_region 3 with fail
  generalize w.alloc (.cells #[S [], S []] 29) = V at *
  obtain ⟨br, hbre⟩ : ∃ b, b = w.heap.size := ⟨_, rfl⟩
  rw [← hbre] at hbr hg ⊢
  have HBR := Lib.hid hbre
  clear hbre hx
  go_wp2
  clear g1 g2
  obtain ⟨bm, hbme⟩ : ∃ b, b = V.heap.size := ⟨_, rfl⟩
  generalize V.alloc (.cells #[S (R p0.x), S (R p0.y)] 29) = U at *
  rw [← hbme] at hbm hg ⊢
  have HBM := Lib.hid hbme
  clear hbme
  go_loopw [6] (fun i wr => ∃ j : Nat, i = .int .i64 (j : Nat) ∧ 1 ≤ j ∧ j ≤ l.length ∧ (∃ m, m = foldP minP (l.take j) ∧ wr.heap[bm]? = some (.cells #[S (R m.x), S (R m.y)] 29)) ∧ wr.heap[br]? = some (.cells #[S [], S []] 29) ∧ Ext w wr) (fun i _ => l.length - (intOf i).toNat)
  case atStart => exact ⟨1, rfl, by omega, by omega, ⟨p0, HF1.out, hbm⟩, hbr, hx2⟩
  case round =>
    obtain ⟨j, rfl, hj1, hj, ⟨m, hm, hbm1⟩, hbr1, hext⟩ := hrel
    clear hbm hbr
    have hne : l.take j ≠ [] := by intro e; have : (l.take j).length = 0 := by rw [e]; rfl
                                   rw [List.length_take] at this; omega
    have hzm : SzP k m := by
      rw [hm]
      match ht : l.take j, hne with
      | x :: t, _ =>
        have hm : ∀ y ∈ x :: t, y ∈ l := fun y hy => List.mem_of_mem_take (by rw [ht]; exact hy)
        rcases foldP_mem minP minP_or t x with h | h
        · show SzP k (t.foldl minP x); rw [h]; exact HZ.out x (hm x (List.mem_cons_self ..))
        · exact HZ.out _ (hm _ (List.mem_cons_of_mem _ h))
    have c3 := cell_of_blk (o := 0) hbm1 rfl
    have c4 := cell_of_blk (o := 1) hbm1 rfl
    by_cases hlt : j < l.length
    · obtain ⟨_, _, e1, hg1, hg2⟩ := rdC_pt (hr.ext hext) hlt
      simp only [Option.some.injEq, Addr.mk.injEq, and_true] at e1
      obtain ⟨rfl, rfl⟩ := e1
      have hzj := HZ.out l[j] (List.getElem_mem hlt)
      have hsn : foldP minP (l.take (j + 1)) = minP m l[j] := by
        rw [List.take_succ_eq_append_getElem hlt, foldP_snoc _ hne, hm]
      have cp := dorder_c l[j] m hzj hzm hk hk2
      obtain ⟨x, hx⟩ : ∃ x, x = l[j] := ⟨_, rfl⟩
      rw [← hx] at cp hg1 hg2 hsn
      obtain ⟨r, hr0⟩ : ∃ r, r = lessR x m := ⟨_, rfl⟩
      have hsn' : foldP minP (l.take (j + 1)) = if (r < 0) then x else m := by rw [hsn, hr0]; rfl
      rw [← hr0] at cp
      have HSN := Lib.hid hsn'
      have hW := hw.ext hext
      have hj0 : (0 : Int) ≤ (j : Int) := by omega
      have hjl : (j : Int) < (l.length : Int) := by omega
      unfold ptV at cp
      clear hx hm hzm hzj hne hsn hsn' hr0
      go_upto_region 7 with fail
      go_region_held3 (fun w' => w'.cell? ⟨b, o + j * 2, none⟩ = some (S (R x.x)) ∧ w'.cell? ⟨b, o + j * 2 + 1, none⟩ = some (S (R x.y)) ∧ w'.cell? ⟨bm, 0, none⟩ = some (S (R m.x)) ∧ w'.cell? ⟨bm, 1, none⟩ = some (S (R m.y)))
        (go_keep)
        (first | ((with_reducible refine (cp _ (hW.ext (Ext.refl wr).drew)).mono ?_); rintro e w5 ⟨rfl, hx5⟩; have X5 := (Ext.refl wr).drew.trans hx5; have d1 := X5.cellS c3; have d2 := X5.cellS c4; have d3 := X5.cellS hg1; have d4 := X5.cellS hg2))
      have hbm5 := (X5.block _ (lt_of_block hbm1)).trans hbm1
      have hbr5 := (X5.block _ (lt_of_block hbr1)).trans hbr1
      have hE5 := hext.trans X5
      have hsz := hE5.size
      have hge : w.heap.size ≤ bm := by have := HBR.out; omega
      have k1 := free_of_blk (o := 0) hbm5
      have k2 := free_of_blk (o := 1) hbm5
      by_cases hlt2 : r < 0
      · have HF : Hid (foldP minP (l.take (j + 1)) = x) := Lib.hid (by rw [HSN.out, if_pos hlt2])
        clear hsz
        go_wp2
        go_roundw
        case rel => exact ⟨j + 1, by go_num, by omega, hlt, ⟨x, HF.out.symm, blk2_set _ _ hbm5⟩, blk_far _ _ (by omega) hbr5, (hE5.setCell hge _).setCell hge _⟩
        case measure => simp [intOf]; omega
      · have HF : Hid (foldP minP (l.take (j + 1)) = m) := Lib.hid (by rw [HSN.out, if_neg hlt2])
        clear hsz
        go_wp2
        go_roundw
        case rel => exact ⟨j + 1, by go_num, by omega, hlt, ⟨m, HF.out.symm, hbm5⟩, hbr5, hE5⟩
        case measure => simp [intOf]; omega
    · have hrv : m = rv := by rw [HRV.out, hm, List.take_of_length_le (by omega)]
      have hle : (l.length : Int) ≤ (j : Int) := by omega
      subst hrv
      have k1 := free_of_blk (o := 0) hbr1
      have k2 := free_of_blk (o := 1) hbr1
      have k3 := cell_of_blk (o := 0) hbr1 rfl
      have k4 := cell_of_blk (o := 1) hbr1 rfl
      have hge : w.heap.size ≤ br := by have := HBR.out; omega
      have hfin := blk2_set (S (R m.x)) (S (R m.y)) hbr1
      have q1 := cell_of_blk (o := 0) hfin rfl
      have q2 := cell_of_blk (o := 1) hfin rfl
      have hE6 := (hext.setCell (p := ⟨br, 0, none⟩) hge (S (R m.x))).setCell (p := ⟨br, 1, none⟩) hge (S (R m.y))
      have HFIN := Lib.hid hfin
      clear hm hzm hne hfin hge
      go_wp2
      (try simp only [Exit.inBlock, Exit.then])
      refine bodyPost_ret (results_cell_row rfl _ _ br 29 #[S (R m.x), S (R m.y)] (0, 0) _ rfl HFIN.out Tryz.underlying29 rfl Tryz.sizePt) rfl ?_
      exact ⟨rfl, hE6⟩

def maxP (m x : Pt) : Pt := if lessR x m > 0 then x else m
theorem maxP_or (x y : Pt) : maxP x y = x ∨ maxP x y = y := by unfold maxP; split <;> simp
set_option maxRecDepth 100000 in
set_option maxHeartbeats 4000000 in
theorem maxFuncP_c (l : List Pt) (h0 : 0 < l.length) {k : Nat} (hk : 0 < k) (hk2 : k ≤ 400) (hz : ∀ q ∈ l, SzP k q) (A : Option Addr) (c : Nat) (w : World) (hw : Okw w) (hr : RdC w A (flat (ptsT l))) (hc : l.length ≤ c) (hcm : c ≤ 9223372036854775807) :
    Calls Tryz.prog 130 #[.slice A l.length c, .func (.func 104) #[] #[]] w (RetV (ptV (foldP maxP l)) w) := by
  obtain ⟨b, o, rfl, hg1, hg2⟩ := rdC_pt hr h0
  rw [Nat.zero_mul, Nat.add_zero] at hg1 hg2
  have hlen : (1 : Int) ≤ (l.length : Int) := by omega
  have HZ := Lib.hid hz
  obtain ⟨rv, hrv⟩ : ∃ v, v = foldP maxP l := ⟨_, rfl⟩
  rw [← hrv]
  have HRV := Lib.hid hrv
  obtain ⟨p0, hp0⟩ : ∃ p, p = l[0] := ⟨_, rfl⟩
  rw [← hp0] at hg1 hg2
  have hf1 : p0 = foldP maxP (l.take 1) := by
    rw [hp0]
    match l, h0 with
    | x :: l, _ => rfl
  have HF1 := Lib.hid hf1
  have hx := ((Ext.refl w).alloc (.cells #[S [], S []] 29))
  have hbr := heap_alloc_new w (.cells #[S [], S []] 29)
  replace hbr := ((Ext.refl _).alloc (.cells #[S (R p0.x), S (R p0.y)] 29)).block _ (lt_of_block hbr) |>.trans hbr
  have hbm := heap_alloc_new (w.alloc (.cells #[S [], S []] 29)) (.cells #[S (R p0.x), S (R p0.y)] 29)
  have g1 := hx.cellS hg1
  have g2 := hx.cellS hg2
  have hx2 := hx.alloc (.cells #[S (R p0.x), S (R p0.y)] 29)
  have hg : w.heap.size < (w.alloc (.cells #[S [], S []] 29)).heap.size := by rw [World.size_alloc]; omega
  clear hz hrv hp0 hf1 hg1 hg2
  go_enter Tryz.func130, Tryz.ntmps130
  go_upto_region 3 with fail
  generalize w.alloc (.cells #[S [], S []] 29) = V at *
  obtain ⟨br, hbre⟩ : ∃ b, b = w.heap.size := ⟨_, rfl⟩
  rw [← hbre] at hbr hg ⊢
  have HBR := Lib.hid hbre
  clear hbre hx
  go_wp2
  clear g1 g2
  obtain ⟨bm, hbme⟩ : ∃ b, b = V.heap.size := ⟨_, rfl⟩
  generalize V.alloc (.cells #[S (R p0.x), S (R p0.y)] 29) = U at *
  rw [← hbme] at hbm hg ⊢
  have HBM := Lib.hid hbme
  clear hbme
  go_loopw [6] (fun i wr => ∃ j : Nat, i = .int .i64 (j : Nat) ∧ 1 ≤ j ∧ j ≤ l.length ∧ (∃ m, m = foldP maxP (l.take j) ∧ wr.heap[bm]? = some (.cells #[S (R m.x), S (R m.y)] 29)) ∧ wr.heap[br]? = some (.cells #[S [], S []] 29) ∧ Ext w wr) (fun i _ => l.length - (intOf i).toNat)
  case atStart => exact ⟨1, rfl, by omega, by omega, ⟨p0, HF1.out, hbm⟩, hbr, hx2⟩
  case round =>
    obtain ⟨j, rfl, hj1, hj, ⟨m, hm, hbm1⟩, hbr1, hext⟩ := hrel
    clear hbm hbr
    have hne : l.take j ≠ [] := by intro e; have : (l.take j).length = 0 := by rw [e]; rfl
                                   rw [List.length_take] at this; omega
    have hzm : SzP k m := by
      rw [hm]
      match ht : l.take j, hne with
      | x :: t, _ =>
        have hm : ∀ y ∈ x :: t, y ∈ l := fun y hy => List.mem_of_mem_take (by rw [ht]; exact hy)
        rcases foldP_mem maxP maxP_or t x with h | h
        · show SzP k (t.foldl maxP x); rw [h]; exact HZ.out x (hm x (List.mem_cons_self ..))
        · exact HZ.out _ (hm _ (List.mem_cons_of_mem _ h))
    have c3 := cell_of_blk (o := 0) hbm1 rfl
    have c4 := cell_of_blk (o := 1) hbm1 rfl
    by_cases hlt : j < l.length
    · obtain ⟨_, _, e1, hg1, hg2⟩ := rdC_pt (hr.ext hext) hlt
      simp only [Option.some.injEq, Addr.mk.injEq, and_true] at e1
      obtain ⟨rfl, rfl⟩ := e1
      have hzj := HZ.out l[j] (List.getElem_mem hlt)
      have hsn : foldP maxP (l.take (j + 1)) = maxP m l[j] := by
        rw [List.take_succ_eq_append_getElem hlt, foldP_snoc _ hne, hm]
      have cp := dorder_c l[j] m hzj hzm hk hk2
      obtain ⟨x, hx⟩ : ∃ x, x = l[j] := ⟨_, rfl⟩
      rw [← hx] at cp hg1 hg2 hsn
      obtain ⟨r, hr0⟩ : ∃ r, r = lessR x m := ⟨_, rfl⟩
      have hsn' : foldP maxP (l.take (j + 1)) = if (r > 0) then x else m := by rw [hsn, hr0]; rfl
      rw [← hr0] at cp
      have HSN := Lib.hid hsn'
      have hW := hw.ext hext
      have hj0 : (0 : Int) ≤ (j : Int) := by omega
      have hjl : (j : Int) < (l.length : Int) := by omega
      unfold ptV at cp
      clear hx hm hzm hzj hne hsn hsn' hr0
      go_upto_region 7 with fail
      go_region_held3 (fun w' => w'.cell? ⟨b, o + j * 2, none⟩ = some (S (R x.x)) ∧ w'.cell? ⟨b, o + j * 2 + 1, none⟩ = some (S (R x.y)) ∧ w'.cell? ⟨bm, 0, none⟩ = some (S (R m.x)) ∧ w'.cell? ⟨bm, 1, none⟩ = some (S (R m.y)))
        (go_keep)
        (first | ((with_reducible refine (cp _ (hW.ext (Ext.refl wr).drew)).mono ?_); rintro e w5 ⟨rfl, hx5⟩; have X5 := (Ext.refl wr).drew.trans hx5; have d1 := X5.cellS c3; have d2 := X5.cellS c4; have d3 := X5.cellS hg1; have d4 := X5.cellS hg2))
      have hbm5 := (X5.block _ (lt_of_block hbm1)).trans hbm1
      have hbr5 := (X5.block _ (lt_of_block hbr1)).trans hbr1
      have hE5 := hext.trans X5
      have hsz := hE5.size
      have hge : w.heap.size ≤ bm := by have := HBR.out; omega
      have k1 := free_of_blk (o := 0) hbm5
      have k2 := free_of_blk (o := 1) hbm5
      by_cases hlt2 : r > 0
      · have HF : Hid (foldP maxP (l.take (j + 1)) = x) := Lib.hid (by rw [HSN.out, if_pos hlt2])
        clear hsz
        go_wp2
        go_roundw
        case rel => exact ⟨j + 1, by go_num, by omega, hlt, ⟨x, HF.out.symm, blk2_set _ _ hbm5⟩, blk_far _ _ (by omega) hbr5, (hE5.setCell hge _).setCell hge _⟩
        case measure => simp [intOf]; omega
      · have HF : Hid (foldP maxP (l.take (j + 1)) = m) := Lib.hid (by rw [HSN.out, if_neg hlt2])
        clear hsz
        go_wp2
        go_roundw
        case rel => exact ⟨j + 1, by go_num, by omega, hlt, ⟨m, HF.out.symm, hbm5⟩, hbr5, hE5⟩
        case measure => simp [intOf]; omega
    · have hrv : m = rv := by rw [HRV.out, hm, List.take_of_length_le (by omega)]
      have hle : (l.length : Int) ≤ (j : Int) := by omega
      subst hrv
      have k1 := free_of_blk (o := 0) hbr1
      have k2 := free_of_blk (o := 1) hbr1
      have k3 := cell_of_blk (o := 0) hbr1 rfl
      have k4 := cell_of_blk (o := 1) hbr1 rfl
      have hge : w.heap.size ≤ br := by have := HBR.out; omega
      have hfin := blk2_set (S (R m.x)) (S (R m.y)) hbr1
      have q1 := cell_of_blk (o := 0) hfin rfl
      have q2 := cell_of_blk (o := 1) hfin rfl
      have hE6 := (hext.setCell (p := ⟨br, 0, none⟩) hge (S (R m.x))).setCell (p := ⟨br, 1, none⟩) hge (S (R m.y))
      have HFIN := Lib.hid hfin
      clear hm hzm hne hfin hge
      go_wp2
      (try simp only [Exit.inBlock, Exit.then])
      refine bodyPost_ret (results_cell_row rfl _ _ br 29 #[S (R m.x), S (R m.y)] (0, 0) _ rfl HFIN.out Tryz.underlying29 rfl Tryz.sizePt) rfl ?_
      exact ⟨rfl, hE6⟩
end Go.Proofs.YtblijhokcjpeeaaGreatDoor
namespace Go.Proofs.YtblijhokcjpeeaaGreatDoor
open Go.RowKit Kl

theorem RdC.of_own' {w : World} {base : Nat} {e : TypeId} {size : Nat} (_ : 0 < size) {v : Value} {n : Nat} {xs : List Value} (h : w.ownsRow base e size v n xs) :
    ∃ A c, v = .slice A n c ∧ RdC w A xs ∧ n ≤ c ∧ c ≤ 9223372036854775807 := by
  obtain ⟨hl, h⟩ := h
  rcases h with ⟨rfl, rfl⟩ | ⟨g, cap, cur, rfl, hb, hg, hn, hm, hs, ht⟩
  · exact ⟨none, 0, rfl, ⟨fun h1 => by omega⟩, by omega, by omega⟩
  · refine ⟨some ⟨g, 0, none⟩, cap, rfl, ⟨fun _ => ⟨g, 0, rfl, fun j hj => ?_⟩⟩, hn, by unfold maxLen at hm; omega⟩
    have hh : w.ownsRow base e size (.slice (some ⟨g, 0, none⟩) n cap) n xs := ⟨hl, .inr ⟨g, cap, cur, rfl, hb, hg, hn, hm, hs, ht⟩⟩
    rw [Nat.zero_add, hh.cellAt j (by omega), List.getElem?_eq_getElem hj]

/-- append of one element: what holds behind it. -/
theorem wp_appG {o : Oper} {a : Act} {K : Act → World → Prop} {Q : Exit → Act → World → Prop} (s x : Operand) (t : TypeId) (ho : o.op = .call { callee := .builtin .append, args := #[s, x], argTypes := #[t, t] })
    (e : TypeId) (i : TypeInfo) (z : Value) (size bytes : Nat) (ht : Tryz.prog.underlying t = some (.slice e)) (hi : Tryz.prog.info? e = some i) (hz : i.zero = some z)
    (hsize : i.size = size) (hby : i.bytes = bytes) (hzs : z.cells.size = size) (hsz : 0 < size) (hb64 : bytes ≤ 64)
    (wN : World) (base : Nat) (v : Value) (n : Nat) (xs : List Value) (hs : a.eval s = v) (hown : wN.ownsRow base e size v n xs) (hn : n < 200000)
    (g : Nat) (cs : Array Value) (hb : wN.heap[g]? = some (.cells cs e)) (hcs : cs.size = size) (h1 : ∀ u ∈ cs.toList, u.oneCell' = true)
    (hx : a.eval x = .slice (some ⟨g, 0, none⟩) 1 1) (hbase : base ≤ wN.heap.size)
    (h : ∀ v' w', w'.ownsRow base e size v' (n + 1) (xs ++ cs.toList) → (∀ w0, Ext w0 wN → w0.heap.size ≤ base → Ext w0 w') → wN.grownBy w' v.ownBlock → K (a.put o.dst v') w') :
    o.wp Tryz.prog a wN K Q := by
  have hbyt : (n + 1) * bytes ≤ 140737488355328 := Nat.le_trans (Nat.mul_le_mul (show n + 1 ≤ 200000 by omega) hb64) (by omega)
  have hml : n + 1 ≤ maxLen := by unfold maxLen; omega
  refine wp_append_own _ s x t ho base e i z size bytes ht hi hz hsize hby hzs hsz v n xs hs hown ⟨g, 0, none⟩ 1 1 cs.toList hx ?_ ?_ h1 hml hbyt hbase ?_
  · simp [hcs]
  · intro j u hu
    rw [Addr.add_lit, Nat.zero_add]
    refine cell_of_blk hb ?_
    rw [← Array.getElem?_toList]
    exact hu
  · intro v' w' h2 h3 _
    refine h v' w' h2 (fun w0 he hbb => ?_) h3
    exact he.grown h3 fun k hk => by
      rcases hown.2 with ⟨rfl, _⟩ | ⟨g, cap, cur, rfl, hb', _⟩
      · cases hk
      · simp only [Value.ownBlock, Option.some.injEq] at hk; omega
def scells (l : List Sg) : List Value := l.flatMap fun s => [S (R s.a.x), S (R s.a.y), S (R s.b.x), S (R s.b.y)]
theorem scells_snoc (l : List Sg) (d : Sg) : scells (l ++ [d]) = scells l ++ [S (R d.a.x), S (R d.a.y), S (R d.b.x), S (R d.b.y)] := by unfold scells; simp
theorem pts_snoc (l : List Pt) (d : Pt) : flat (ptsT (l ++ [d])) = flat (ptsT l) ++ [S (R d.x), S (R d.y)] := by unfold ptsT flat; simp [ptT]
theorem rats_snoc (l : List Rat) (d : Rat) : rats (l ++ [d]) = rats l ++ [S (R d)] := by unfold rats; simp
theorem Tryz.infoPt : (Tryz.prog.info? 29).map (fun i => (i.zero, i.size, i.bytes)) = some (some (.agg #[S [], S []]), 2, 32) := by kernel_rfl
theorem Tryz.infoSeg : (Tryz.prog.info? 31).map (fun i => (i.zero, i.size, i.bytes)) = some (some (.agg #[S [], S [], S [], S []]), 4, 64) := by kernel_rfl
theorem Tryz.infoRt : (Tryz.prog.info? 27).map (fun i => (i.zero, i.size, i.bytes)) = some (some (S []), 1, 16) := by kernel_rfl
section
variable {ops : Array Oper} {rest : List Oper} {o : Oper} {a : Act} {K : Act → World → Prop} {Q : Exit → Act → World → Prop} {E : Prop}
theorem wp_appPt (s x : Operand) (ho : o.op = .call { callee := .builtin .append, args := #[s, x], argTypes := #[52, 52] })
    (wN : World) (base : Nat) (v : Value) (n : Nat) (l : List Pt) (hs : a.eval s = v) (hown : wN.ownsRow base 29 2 v n (flat (ptsT l))) (hn : n < 200000) (d : Pt)
    (g : Nat) (hb : wN.heap[g]? = some (.cells #[S (R d.x), S (R d.y)] 29)) (hx : a.eval x = .slice (some ⟨g, 0, none⟩) 1 1) (hbase : base ≤ wN.heap.size)
    (h : ∀ v' w', w'.ownsRow base 29 2 v' (n + 1) (flat (ptsT (l ++ [d]))) → (∀ w0, Ext w0 wN → w0.heap.size ≤ base → Ext w0 w') → wN.grownBy w' v.ownBlock → K (a.put o.dst v') w') :
    o.wp Tryz.prog a wN K Q := by
  obtain ⟨i0, hi, hz0, hz1, hz2⟩ := info_parts Tryz.infoPt
  refine wp_appG s x 52 ho 29 i0 _ 2 32 Tryz.underlying52 hi hz0 hz1 hz2 rfl (by omega) (by omega) wN base v n _ hs hown hn g _ hb rfl ?_ hx hbase ?_
  · intro u hu
    simp only [List.mem_cons, List.not_mem_nil, or_false] at hu
    rcases hu with rfl | rfl <;> rfl
  · intro v' w' h1 h2 h3
    exact h v' w' (by rw [pts_snoc]; exact h1) h2 h3
theorem appPt (hgd : o.guard = none) (s x : Operand) (ho : o.op = .call { callee := .builtin .append, args := #[s, x], argTypes := #[52, 52] })
    (wN : World) (base : Nat) (v : Value) (n : Nat) (l : List Pt) (hs : a.eval s = v) (hown : wN.ownsRow base 29 2 v n (flat (ptsT l))) (hn : n < 200000) (d : Pt)
    (g : Nat) (hb : wN.heap[g]? = some (.cells #[S (R d.x), S (R d.y)] 29)) (hx : a.eval x = .slice (some ⟨g, 0, none⟩) 1 1) (hbase : base ≤ wN.heap.size)
    (h : ∀ v' w', w'.ownsRow base 29 2 v' (n + 1) (flat (ptsT (l ++ [d]))) → (∀ w0, Ext w0 wN → w0.heap.size ≤ base → Ext w0 w') → wpList Tryz.prog ops Q rest (a.put o.dst v') w') :
    wpList Tryz.prog ops Q (o :: rest) a wN :=
  wpList_plain hgd fun _ hK => wp_appPt s x ho wN base v n l hs hown hn d g hb hx hbase fun v' w' h1 h2 _ => hK _ _ (h v' w' h1 h2)
theorem step_appPt (hgd : o.guard = none) (s x : Operand) (ho : o.op = .call { callee := .builtin .append, args := #[s, x], argTypes := #[52, 52] })
    (wN : World) (base : Nat) (v : Value) (n : Nat) (l : List Pt) (hs : a.eval s = v) (hown : wN.ownsRow base 29 2 v n (flat (ptsT l))) (hn : n < 200000) (d : Pt)
    (g : Nat) (hb : wN.heap[g]? = some (.cells #[S (R d.x), S (R d.y)] 29)) (hx : a.eval x = .slice (some ⟨g, 0, none⟩) 1 1) (hbase : base ≤ wN.heap.size)
    (h : ∀ v' w', w'.ownsRow base 29 2 v' (n + 1) (flat (ptsT (l ++ [d]))) → (∀ w0, Ext w0 wN → w0.heap.size ≤ base → Ext w0 w') → wN.grownBy w' v.ownBlock → K (a.put o.dst v') w') :
    if Region.wanted o (yielded ops a.tmps) = true then Oper.wp Tryz.prog o a wN K Q else E := by
  have hw : Region.wanted o (yielded ops a.tmps) = true := by simp [Region.wanted, hgd]
  rw [if_pos hw]
  exact wp_appPt s x ho wN base v n l hs hown hn d g hb hx hbase h
theorem appRt (hgd : o.guard = none) (s x : Operand) (ho : o.op = .call { callee := .builtin .append, args := #[s, x], argTypes := #[105, 105] })
    (wN : World) (base : Nat) (v : Value) (n : Nat) (l : List Rat) (hs : a.eval s = v) (hown : wN.ownsRow base 27 1 v n (rats l)) (hn : n < 200000) (d : Rat)
    (g : Nat) (hb : wN.heap[g]? = some (.cells #[S (R d)] 27)) (hx : a.eval x = .slice (some ⟨g, 0, none⟩) 1 1) (hbase : base ≤ wN.heap.size)
    (h : ∀ v' w', w'.ownsRow base 27 1 v' (n + 1) (rats (l ++ [d])) → (∀ w0, Ext w0 wN → w0.heap.size ≤ base → Ext w0 w') → wpList Tryz.prog ops Q rest (a.put o.dst v') w') :
    wpList Tryz.prog ops Q (o :: rest) a wN := by
  obtain ⟨i0, hi, hz0, hz1, hz2⟩ := info_parts Tryz.infoRt
  refine wpList_plain hgd fun K hK => wp_appG s x 105 ho 27 i0 _ 1 16 Tryz.underlying105 hi hz0 hz1 hz2 rfl (by omega) (by omega) wN base v n _ hs hown hn g _ hb rfl ?_ hx hbase ?_
  · intro u hu
    simp only [List.mem_cons, List.not_mem_nil, or_false] at hu
    rcases hu with rfl <;> rfl
  · intro v' w' h1 h2 _
    exact hK _ _ (h v' w' (by rw [rats_snoc]; exact h1) h2)
theorem appSeg (hgd : o.guard = none) (s x : Operand) (ho : o.op = .call { callee := .builtin .append, args := #[s, x], argTypes := #[69, 69] })
    (wN : World) (base : Nat) (v : Value) (n : Nat) (l : List Sg) (hs : a.eval s = v) (hown : wN.ownsRow base 31 4 v n (scells l)) (hn : n < 200000) (d : Sg)
    (g : Nat) (hb : wN.heap[g]? = some (.cells #[S (R d.a.x), S (R d.a.y), S (R d.b.x), S (R d.b.y)] 31)) (hx : a.eval x = .slice (some ⟨g, 0, none⟩) 1 1) (hbase : base ≤ wN.heap.size)
    (h : ∀ v' w', w'.ownsRow base 31 4 v' (n + 1) (scells (l ++ [d])) → (∀ w0, Ext w0 wN → w0.heap.size ≤ base → Ext w0 w') → wpList Tryz.prog ops Q rest (a.put o.dst v') w') :
    wpList Tryz.prog ops Q (o :: rest) a wN := by
  obtain ⟨i0, hi, hz0, hz1, hz2⟩ := info_parts Tryz.infoSeg
  refine wpList_plain hgd fun K hK => wp_appG s x 69 ho 31 i0 _ 4 64 Tryz.underlying69 hi hz0 hz1 hz2 rfl (by omega) (by omega) wN base v n _ hs hown hn g _ hb rfl ?_ hx hbase ?_
  · intro u hu
    simp only [List.mem_cons, List.not_mem_nil, or_false] at hu
    rcases hu with rfl | rfl | rfl | rfl <;> rfl
  · intro v' w' h1 h2 _
    exact hK _ _ (h v' w' (by rw [scells_snoc]; exact h1) h2)
end
end Go.Proofs.YtblijhokcjpeeaaGreatDoor
