/- The reference of layer 1: parts (division piece by piece). -/
import Derived.Test.YtblijhokcjpeeaaGreatDoorEA
/- The reference of layer 1: joined, times. -/
namespace Go.Proofs.YtblijhokcjpeeaaGreatDoor
open Go.RowKit Kl

def JoinRel (p q : List Nat) (k : Int) (w : World) (o i : Value) (wr : World) : Prop :=
  ∃ (n : Nat) (out : List Int), JoinInv p q k n out ∧ i = .int .i64 (n : Nat) ∧ wr.ownsRow w.heap.size 3 1 o out.length (zs out) ∧ Ext w wr
/-- The form of a row's value. -/
theorem own_form {w : World} {base : Nat} {e : TypeId} {v : Value} {n : Nat} {l : List Int} (h : w.ownsRow base e 1 v n (zs l)) :
    ∃ A c, v = .slice A n c ∧ (0 < n → ∃ g, A = some ⟨g, 0, none⟩ ∧ base ≤ g) ∧ n ≤ c ∧ c ≤ 9223372036854775807 := by
  rcases h.2 with ⟨rfl, h0⟩ | ⟨g, cap, cur, rfl, hb, _, hn, hm, _, _⟩
  · exact ⟨none, 0, by rw [h0], by omega, by omega, by omega⟩
  · exact ⟨some ⟨g, 0, none⟩, cap, rfl, fun _ => ⟨g, rfl, hb⟩, hn, hm⟩
set_option maxRecDepth 100000 in
set_option maxHeartbeats 4000000 in
theorem refJoined_l (p q : List Nat) (k : Int) (N M : Nat) (hM : M ≤ 50000) (hNM : N < 10000 ^ M) (hN : (ofL 10000 p : Int) + k * (ofL 10000 q : Nat) = (N : Int)) (hk1 : -10000 ≤ k) (hk2 : k ≤ 10000)
    (hp : ∀ x ∈ p, x < 10000) (hq : ∀ x ∈ q, x < 10000) (hpl : p.length ≤ 20000) (hql : q.length ≤ 20000) (u v : Value) (w : World) (hu : RZ w u (zn p)) (hv : RZ w v (zn q)) :
    Calls Tryz.prog 141 #[u, v, .int .i64 k, .int .i64 0] w (RetP N w) := by
  obtain ⟨B, cb, rfl, hrb⟩ := hv
  have hcb := hrb.cap
  have hmb := hrb.max
  rw [zn_length] at hcb ⊢
  have HN := Lib.hid hN
  have HM := Lib.hid hNM
  have HP := Lib.hid hp
  have HQ := Lib.hid hq
  clear hN hNM hp hq
  have how : (w.alloc (.cells #[] 3)).ownsRow w.heap.size 3 1 (.slice (some ⟨w.heap.size, 0, none⟩) 0 0) 0 (zs []) := own_lit w w.heap.size [] (Nat.le_refl _) (by simp)
  have hu1 := hu.ext ((Ext.refl w).alloc (.cells #[] 3))
  obtain ⟨A, ca, rfl, hra⟩ := hu
  rw [zn_length] at hu1 ⊢
  go_enter Tryz.func141, Tryz.ntmps141
  go_wp2_with (at_builtin; go_loud (refine applZ rfl _ _ rfl (w.alloc (.cells #[] 3)) w.heap.size (.slice (some ⟨w.heap.size, 0, none⟩) 0 0) 0 [] rfl how (zn p) (.slice A p.length ca) rfl hu1 (by rw [zn_length]; omega) (by simp) ?_; intro v1 w1 hown1 hx1))
  have hx1 := hx1 w ((Ext.refl w).alloc _) (Nat.le_refl _)
  rw [List.nil_append, zn_length, Nat.zero_add] at hown1
  clear how hu1 hra
  go_loopw [9, 10] (fun o i wr => JoinRel p q k w o i wr) (fun _ i _ => q.length - (intOf i).toNat)
  case atStart => exact ⟨0, zn p, JoinInv.start HP.out q k, rfl, by rw [zn_length]; exact hown1, hx1⟩
  case round =>
    clear hown1 hx1
    obtain ⟨i, out, hJ, rfl, hown, hext⟩ := hrel
    have hsz := hext.size
    have hle := hJ.le
    have hln := hJ.len
    have hl2 := hJ.len2
    by_cases hi : i < q.length
    · go_wp2
      go_loopw [9] (fun o wr => ∃ out, JoinInv p q k i out ∧ wr.ownsRow w.heap.size 3 1 o out.length (zs out) ∧ Ext w wr) (fun o _ => i + 1 - (match o with | .slice _ n _ => n | _ => 0))
      case atStart => exact ⟨out, hJ, hown, hext⟩
      case round =>
        clear hJ hown hext hsz hln hl2
        obtain ⟨out, hJ, hown, hext⟩ := hrel
        have hsz := hext.size
        have hln := hJ.len
        have hl2 := hJ.len2
        obtain ⟨A1, c1, hf1, hrz, hc1, hc2⟩ := own_form hown
        by_cases hlo : out.length ≤ i
        · subst hf1
          go_wp2_with (at_builtin; refine appZ1 rfl _ _ rfl wr w.heap.size (.slice A1 out.length c1) out.length out rfl hown (by omega) _ 0 rfl rfl hsz ?_; intro v2 w2 hown2 hx2)
          obtain ⟨A2, c2, hf2, _, _, _⟩ := own_form hown2
          subst hf2
          go_roundw
          case rel => exact ⟨out ++ [0], hJ.grow hlo, by rw [List.length_append]; exact hown2, hx2 _ hext (Nat.le_refl _)⟩
          case measure => simp; omega
        · have hlo2 : i < out.length := by omega
          obtain ⟨g1, rfl, hg1⟩ := hrz (by omega)
          subst hf1
          have hgo : wr.cell? ⟨g1, i, none⟩ = some (.int .i64 (az out i)) := by
            rw [hown.cellAt i (by omega)]; exact zs_get hlo2
          have hfo := hown.frozenAt i
          obtain ⟨bb, ob, rfl, hcellb⟩ := hrb.ad (by rw [zn_length]; omega)
          have hgb := hext.cellS (hcellb i (by rw [zn_length]; omega))
          rw [az_zn] at hgb
          have hst := (hown.stored i (.int .i64 (az out i + k * (at0 q i : Nat)))).1
          rw [zs_set] at hst
          have HST := Lib.hid hst
          have hstep := hJ.step hi hlo2 HQ.out hk1 hk2
          have HSP := Lib.hid hstep
          have hmb2 := mul_bd hk1 hk2 (at0_lt HQ.out hi)
          have hbd := hJ.bd i
          clear hcellb hst hstep
          obtain ⟨x, hx⟩ : ∃ x, x = az out i := ⟨_, rfl⟩
          obtain ⟨y, hy⟩ : ∃ y, k * (at0 q i : Nat) = y := ⟨_, rfl⟩
          rw [← hx] at hgo hbd HST HSP
          rw [hy] at hmb2 HST HSP
          clear hx
          have hw1 : IntKind.i64.wrap y = y := IntWalk.i64_in _ (by omega)
          have hw2 : IntKind.i64.wrap (x + y) = x + y := IntWalk.i64_in _ (by omega)
          have hi0 : (0 : Int) ≤ (i : Int) := by omega
          have hi1 : (i : Int) < (out.length : Int) := by omega
          have hi2 : (i : Int) < (q.length : Int) := by omega
          go_wp2_with fail
          go_region
          go_wp2
          go_roundw
          case rel => exact ⟨i + 1, _, HSP.out, by go_num, own_drew (by simpa using HST.out), (hext.setCell (p := ⟨g1, i, none⟩) hg1 _).drew⟩
          case measure => simp [intOf]; omega
    · obtain rfl : i = q.length := by omega
      obtain ⟨hs1, hs2, hs3⟩ := hJ.done
      rw [HN.out] at hs1
      have cr := fun v W => refCarry_c out N M hM HM.out hs1 (by omega) hs2 v W
      have HS2 := Lib.hid hs2
      clear hs1 hs2 hi
      have hrd : RZ wr u9 out := RZ.of_own hown rfl (by omega)
      go_wp2_with fail
      ((with_reducible refine (cr _ _ hrd).mono ?_); rintro e w2 ⟨v2, rfl, hv2, hx2⟩)
      go_wp2
      go_ret
      exact ⟨v2, rfl, hv2, hext.trans hx2⟩
theorem refJoined_c (p q : Nat) (k : Int) (N M : Nat) (hM : M ≤ 50000) (hNM : N < 10000 ^ M) (hN : (p : Int) + k * (q : Nat) = (N : Int)) (hk1 : -10000 ≤ k) (hk2 : k ≤ 10000)
    (hpl : (pc 10000 p).length ≤ 20000) (hql : (pc 10000 q).length ≤ 20000) (u v : Value) (w : World) (hu : RZ w u (zn (pc 10000 p))) (hv : RZ w v (zn (pc 10000 q))) :
    Calls Tryz.prog 141 #[u, v, .int .i64 k, .int .i64 0] w (RetP N w) :=
  refJoined_l _ _ k N M hM hNM (by rw [ofL_pc (by omega), ofL_pc (by omega)]; exact hN) hk1 hk2 (pc_lt (by omega) p) (pc_lt (by omega) q) hpl hql u v w hu hv
end Go.Proofs.YtblijhokcjpeeaaGreatDoor
/- The reference of layer 1: times. -/
namespace Go.Proofs.YtblijhokcjpeeaaGreatDoor
open Go.RowKit Kl

theorem mul_lt4 {x y : Nat} (hx : x < 10000) (hy : y < 10000) : x * y ≤ 100000000 := Nat.le_trans (Nat.mul_le_mul (Nat.le_of_lt hx) (Nat.le_of_lt hy)) (by omega)
set_option maxRecDepth 100000 in
set_option maxHeartbeats 4000000 in
theorem refTimes_l (p q : List Nat) (M : Nat) (hM : M ≤ 50000) (hNM : ofL 10000 p * ofL 10000 q < 10000 ^ M) (hp : ∀ x ∈ p, x < 10000) (hq : ∀ x ∈ q, x < 10000) (hpl : p.length ≤ 20000) (hql : q.length ≤ 20000)
    (u v : Value) (w : World) (hu : RZ w u (zn p)) (hv : RZ w v (zn q)) :
    Calls Tryz.prog 144 #[u, v] w (RetP (ofL 10000 p * ofL 10000 q) w) := by
  obtain ⟨A, ca, rfl, hra⟩ := hu
  obtain ⟨B, cb, rfl, hrb⟩ := hv
  have hca := hra.cap
  have hma := hra.max
  have hcb := hrb.cap
  have hmb := hrb.max
  rw [zn_length] at hca hcb ⊢
  rw [zn_length]
  have hmk := mk_intn (p.length + q.length) (by omega) ((p.length : Int) + (q.length : Int)) (by omega)
  have how := own_intn w w.heap.size (p.length + q.length) (Nat.le_refl _) (by omega)
  have HM := Lib.hid hNM
  have HP := Lib.hid hp
  have HQ := Lib.hid hq
  clear hNM hp hq
  go_enter Tryz.func144, Tryz.ntmps144
  go_wp2
  clear hmk
  obtain ⟨N, hN⟩ : ∃ N, N = p.length + q.length := ⟨_, rfl⟩
  rw [← hN] at how ⊢
  have HN := Lib.hid hN
  clear hN
  obtain ⟨H, hH⟩ : ∃ H, H = w.heap.size := ⟨_, rfl⟩
  rw [← hH] at how
  simp only [← hH]
  have HH := Lib.hid hH
  clear hH
  go_loopw [6] (fun i wr => ∃ (n : Nat) (out : List Nat), n ≤ p.length ∧ i = .int .i64 (n : Nat) ∧ TimI N n 0 (at0 p n) q out (ofL 10000 (p.take n) * ofL 10000 q) ∧ wr.ownsRow H 3 1 (.slice (some ⟨H, 0, none⟩) N N) N (zs (zn out)) ∧ Ext w wr) (fun i _ => p.length - (intOf i).toNat)
  case atStart => exact ⟨0, List.replicate N 0, by omega, rfl, ⟨by omega, by simp, fun j => by rw [show at0 (List.replicate N 0) j = 0 by unfold at0; rw [List.getD_eq_getElem?_getD]; by_cases h : j < N <;> simp [h]]; omega, by rw [ofL_zeros (fun j hj => by simp at hj; simp [at0, hj])]; simp [ofL]⟩, how, (Ext.refl w).alloc _⟩
  case round =>
    clear how
    obtain ⟨i, out, hi, rfl, hT, hown, hext⟩ := hrel
    by_cases hk : i < p.length
    · obtain ⟨ba, oa, rfl, hcella⟩ := hra.ad (by rw [zn_length]; omega)
      have hg0 := hcella i (by rw [zn_length]; omega)
      rw [az_zn] at hg0
      have hxa := at0_lt HP.out hk
      obtain ⟨x, hx⟩ : ∃ x, x = at0 p i := ⟨_, rfl⟩
      rw [← hx] at hg0 hxa hT
      have HX := Lib.hid hx
      clear hcella hx
      go_wp2
      go_loopw [7] (fun k wr => ∃ (n : Nat) (out : List Nat), k = .int .i64 (n : Nat) ∧ TimI N i n x q out (ofL 10000 (p.take i) * ofL 10000 q) ∧ wr.ownsRow H 3 1 (.slice (some ⟨H, 0, none⟩) N N) N (zs (zn out)) ∧ Ext w wr) (fun k _ => q.length - (intOf k).toNat)
      case atStart => exact ⟨0, out, rfl, hT, hown, hext⟩
      case round =>
        clear hT hown hext
        obtain ⟨k, out, rfl, hT, hown, hext⟩ := hrel
        have hkl := hT.le
        have hg := hext.cellS hg0
        by_cases hkb : k < q.length
        · obtain ⟨bb, ob, rfl, hcellb⟩ := hrb.ad (by rw [zn_length]; omega)
          have hgb := hext.cellS (hcellb k (by rw [zn_length]; omega))
          rw [az_zn] at hgb
          have hyb := at0_lt HQ.out hkb
          have hNN := HN.out
          have hol := hT.len
          have hgo : wr.cell? ⟨H, i + k, none⟩ = some (.int .i64 (at0 out (i + k) : Nat)) := by
            rw [hown.cellAt (i + k) (by omega), zs_get (by rw [zn_length]; omega), az_zn]
          have hfo := hown.frozenAt (i + k)
          have hst := (hown.stored (i + k) (.int .i64 ((at0 out (i + k) + x * at0 q k : Nat) : Int))).1
          rw [zs_set, zn_set] at hst
          have HST := Lib.hid hst
          have hstep := hT.step hkb (by omega) hxa HQ.out
          have HSP := Lib.hid hstep
          have hbd := hT.bd (i + k)
          rw [if_neg (by omega)] at hbd
          have hm := mul_lt4 hxa hyb
          have hbd2 : at0 out (i + k) ≤ 2000000000000 := Nat.le_trans hbd (Nat.mul_le_mul_right _ (show i ≤ 20000 by omega))
          clear hcellb hst hstep hol hNN hbd
          obtain ⟨z, hz⟩ : ∃ z, z = at0 out (i + k) := ⟨_, rfl⟩
          obtain ⟨y, hy⟩ : ∃ y, y = at0 q k := ⟨_, rfl⟩
          rw [← hz] at hgo hbd2 HST HSP
          rw [← hy] at hgb hyb hm HST HSP
          obtain ⟨t, ht⟩ : ∃ t, t = x * y := ⟨_, rfl⟩
          rw [← ht] at hm HST HSP
          have hxy : (x : Int) * (y : Int) = (t : Int) := by rw [ht]; simp
          have hik : (i : Int) + (k : Int) = ((i + k : Nat) : Int) := by omega
          clear hz hy ht
          obtain ⟨j, hj⟩ : ∃ j, i + k = j := ⟨_, rfl⟩
          rw [hj] at hgo hfo HST HSP hik
          have hjN : (j : Int) < (N : Int) := by have := HN.out; omega
          have hj0 : (0 : Int) ≤ (j : Int) := by omega
          have hi2 : (i : Int) < (p.length : Int) := by omega
          have hk2 : (k : Int) < (q.length : Int) := by omega
          have hw0 : IntKind.i64.wrap (j : Int) = j := IntWalk.i64_in _ (by omega)
          have hw1 : IntKind.i64.wrap (t : Int) = t := IntWalk.i64_in _ (by omega)
          have hw2 : IntKind.i64.wrap ((z : Int) + (t : Int)) = (z : Int) + (t : Int) := IntWalk.i64_in _ (by omega)
          clear hj
          go_wp2_with fail
          go_region
          go_wp2
          go_roundw
          case rel => exact ⟨k + 1, _, by go_num, HSP.out, own_drew (by simpa using HST.out), (hext.setCell (p := ⟨H, j, none⟩) (by have := HH.out; simp; omega) _).drew⟩
          case measure => simp [intOf]; omega
        · obtain rfl : k = q.length := by omega
          have hnx := hT.next (p := p) HX.out hk rfl (at0 p (i + 1))
          have HNX := Lib.hid hnx
          clear hnx hkb
          go_wp2
          go_roundw
          case rel => exact ⟨i + 1, out, by omega, by go_num, HNX.out, hown, hext⟩
          case measure => simp [intOf]; omega
    · obtain rfl : i = p.length := by omega
      have hsum := hT.sum
      rw [List.take_length] at hsum
      have hsum2 : ofZ (zn out) = ((ofL 10000 p * ofL 10000 q : Nat) : Int) := by
        rw [ofZ_zn, hsum]; simp [ofL]
      have hol := hT.len
      have hNN := HN.out
      have hbd : ∀ x ∈ zn out, -1000000000000000 ≤ x ∧ x ≤ 1000000000000000 := by
        intro x hx
        simp only [zn, List.mem_map] at hx
        obtain ⟨y, hy, rfl⟩ := hx
        obtain ⟨j, hj, rfl⟩ := List.getElem_of_mem hy
        have := hT.bd j
        have e : at0 out j = out[j] := by simp [at0, hj]
        rw [e] at this
        have h2 : (if j < p.length + 0 then p.length + 1 else p.length) * 100000000 ≤ 20001 * 100000000 := Nat.mul_le_mul_right _ (by split <;> omega)
        omega
      have cr := fun v W => refCarry_c (zn out) _ M hM HM.out hsum2 (by rw [zn_length]; omega) hbd v W
      have hrd : RZ wr (.slice (some ⟨H, 0, none⟩) N N) (zn out) := RZ.of_own hown (by rw [zn_length]; omega) (by rw [zn_length]; omega)
      have HBD := Lib.hid hbd
      clear hsum hsum2 hol hNN hbd hk
      go_wp2_with fail
      ((with_reducible refine (cr _ _ hrd).mono ?_); rintro e w2 ⟨v2, rfl, hv2, hx2⟩)
      go_wp2
      go_ret
      exact ⟨v2, rfl, hv2, hext.trans hx2⟩
theorem refTimes_c (p q M : Nat) (hM : M ≤ 50000) (hNM : p * q < 10000 ^ M) (hpl : (pc 10000 p).length ≤ 20000) (hql : (pc 10000 q).length ≤ 20000) (u v : Value) (w : World) (hu : RZ w u (zn (pc 10000 p))) (hv : RZ w v (zn (pc 10000 q))) :
    Calls Tryz.prog 144 #[u, v] w (RetP (p * q) w) := by
  have h := refTimes_l (pc 10000 p) (pc 10000 q) M hM (by rw [ofL_pc (by omega), ofL_pc (by omega)]; exact hNM) (pc_lt (by omega) p) (pc_lt (by omega) q) hpl hql u v w hu hv
  rwa [ofL_pc (by omega), ofL_pc (by omega)] at h
end Go.Proofs.YtblijhokcjpeeaaGreatDoor
namespace Go.Proofs.YtblijhokcjpeeaaGreatDoor
open Go.RowKit Kl

theorem pc_take4 {l : List Nat} (hl : ∀ x ∈ l, x < 10000) : ∃ k, k ≤ l.length ∧ pc 10000 (ofL 10000 l) = l.take k := by
  obtain ⟨k, hk, hx⟩ : ∃ k, TrimInv l k ∧ (k = 0 ∨ at0 l (k - 1) ≠ 0) := by
    have : ∀ n k, k ≤ n → TrimInv l k → ∃ k, TrimInv l k ∧ (k = 0 ∨ at0 l (k - 1) ≠ 0) := by
      intro n
      induction n with
      | zero => intro k hk h; exact ⟨k, h, .inl (by omega)⟩
      | succ n ih =>
        intro k hk h
        by_cases h0 : k = 0
        · exact ⟨k, h, .inl h0⟩
        · by_cases hx : at0 l (k - 1) = 0
          · exact ih (k - 1) (by omega) (h.step h0 hx)
          · exact ⟨k, h, .inr hx⟩
    exact this l.length l.length (Nat.le_refl _) (TrimInv.start l)
  exact ⟨k, hk.1, (hk.done4 hl hx).symm⟩
theorem RdZ.pc4 {w : World} {A : Option Addr} {c : Nat} {l : List Nat} (h : RdZ w A c (zn l)) (hl : ∀ x ∈ l, x < 10000) : RdZ w A c (zn (pc 10000 (ofL 10000 l))) := by
  obtain ⟨k, hk, e⟩ := pc_take4 hl
  obtain ⟨A', c', e1, h1⟩ := h.takeN hk
  simp only [Value.slice.injEq] at e1
  obtain ⟨rfl, _, rfl⟩ := e1
  rw [e]; exact h1
theorem RdZ.setCell {w : World} {A : Option Addr} {c : Nat} {l : List Int} (h : RdZ w A c l) {p : Addr} (u : Value) (hp : ∀ b o, A = some ⟨b, o, none⟩ → b ≠ p.block) : RdZ (w.setCell p u) A c l :=
  ⟨h.cap, h.max, h.len, fun h0 => by
    obtain ⟨b, o, e, hc⟩ := h.ad h0
    refine ⟨b, o, e, fun j hj => ?_⟩
    rw [World.cell?_setCell_other _ _ _ _ (by rintro rfl; exact hp b o e rfl)]
    exact hc j hj⟩
set_option maxRecDepth 100000 in
set_option maxHeartbeats 1000000 in
theorem refCut_q (l : List Nat) (A : Option Addr) (c n : Nat) (hn : n = l.length) (w : World) (hr : RdZ w A c (zn l)) (hl : ∀ x ∈ l, x < 10000) :
    Calls Tryz.prog 195 #[.slice A n c] w (fun e w' => e = .returned (.slice A (pc 10000 (ofL 10000 l)).length c) ∧ w = w') := by
  subst hn
  have hcap := hr.cap
  have hmax := hr.max
  have hlen := hr.len
  rw [zn_length] at hcap hlen
  go_enter Tryz.func195, Tryz.ntmps195
  go_wp2
  go_loop [0] (fun v => ∃ k : Nat, TrimInv l k ∧ v = .slice A k c) (fun v => match v with | .slice _ n _ => n | _ => 0)
  case atStart => exact ⟨l.length, TrimInv.start l, rfl⟩
  case round =>
    obtain ⟨k, hk, rfl⟩ := hrel
    have hkl := hk.1
    by_cases h0 : k = 0
    · subst h0
      go_wp2
      go_ret
      exact ⟨by rw [← hk.done4 hl (.inl rfl)]; simp, rfl⟩
    · obtain ⟨b, o, rfl, hc⟩ := hr.ad (by rw [zn_length]; omega)
      have hg := hc (k - 1) (by rw [zn_length]; omega)
      rw [az_zn] at hg
      clear hc
      by_cases hx : at0 l (k - 1) = 0
      · rw [hx] at hg
        go_wp2
        go_round
        case rel => exact ⟨k - 1, hk.step h0 hx, rfl⟩
        case measure => simp; omega
      · have hx' : (((at0 l (k - 1) : Nat) : Int) == 0) = false := by simpa using hx
        go_wp2
        go_ret
        exact ⟨by rw [← hk.done4 hl (.inr hx)]; show Ending.returned (.slice _ k c) = .returned (.slice _ (l.take k).length c); rw [List.length_take, Nat.min_eq_left hkl], rfl⟩
theorem pc_at (b : Nat) (hb : 2 ≤ b) : ∀ (i n : Nat), i < (pc b n).length → at0 (pc b n) i = n / b ^ i % b
  | i, n, h => by
    have hn : 0 < n := by
      rcases Nat.eq_zero_or_pos n with rfl | h0
      · rw [pc_zero] at h; simp at h
      · exact h0
    rw [pc_pos hb hn] at h ⊢
    match i with
    | 0 => simp [at0]
    | i + 1 =>
      have ih := pc_at b hb i (n / b) (by simpa using h)
      have e : at0 ((n % b) :: pc b (n / b)) (i + 1) = at0 (pc b (n / b)) i := by simp [at0]
      rw [e, ih, Nat.div_div_eq_div_mul, Nat.pow_succ, Nat.mul_comm]
theorem div_step (x i : Nat) : x / 10000 ^ i = 10000 * (x / 10000 ^ (i + 1)) + x / 10000 ^ i % 10000 := by
  have h := Nat.div_add_mod (x / 10000 ^ i) 10000
  rw [Nat.div_div_eq_div_mul, ← Nat.pow_succ] at h
  exact h.symm
/-- Two magnitudes are returned. -/
def RetPP (a b : Nat) (w : World) (e : Ending) (w' : World) : Prop := ∃ v1 v2, e = .returned (.tuple #[v1, v2]) ∧ RZ w' v1 (zn (pc 10000 a)) ∧ RZ w' v2 (zn (pc 10000 b)) ∧ Ext w w'
structure PartInv (x y N i : Nat) (out : List Nat) : Prop where
  len : out.length = N
  lt : ∀ z ∈ out, z < 10000
  zero : ∀ j, j < i → at0 out j = 0
  sum : ofL 10000 out = 10000 ^ i * (x / 10000 ^ i / y)
theorem PartInv.step {x y N i d : Nat} {out : List Nat} (h : PartInv x y N (i + 1) out) (hi : i < N) (hd : x / 10000 ^ i / y = 10000 * (x / 10000 ^ (i + 1) / y) + d) (hd9 : d < 10000) : PartInv x y N i (out.set i d) := by
  have hl := h.len
  refine ⟨by rw [List.length_set]; exact hl, mem_set_lt h.lt hd9, fun j hj => ?_, ?_⟩
  · rw [at0_set _ (by omega), if_neg (by omega)]; exact h.zero j (by omega)
  · have hs := ofL_set (b := 10000) (l := out) (j := i) d (by omega)
    rw [h.zero i (by omega), h.sum, Nat.mul_zero, Nat.add_zero] at hs
    rw [hs, hd, Nat.mul_add, Nat.pow_succ, Nat.mul_assoc]
def PartRel (x y N H : Nat) (w : World) (rest i : Value) (wr : World) : Prop :=
  ∃ (n : Nat) (out : List Nat), n ≤ N ∧ PartInv x y N n out ∧ i = .int .i64 ((n : Int) - 1) ∧ RZ wr rest (zn (pc 10000 (x / 10000 ^ n % y))) ∧ wr.ownsRow H 3 1 (.slice (some ⟨H, 0, none⟩) N N) N (zs (zn out)) ∧ Ext w wr
set_option maxRecDepth 100000 in
set_option maxHeartbeats 8000000 in
theorem refParts_c (x y : Nat) (hy : 0 < y) (hxl : (pc 10000 x).length ≤ 20000) (hyl : (pc 10000 y).length ≤ 10000) (u v : Value) (w : World) (hu : RZ w u (zn (pc 10000 x))) (hv : RZ w v (zn (pc 10000 y))) :
    Calls Tryz.prog 194 #[u, v] w (RetPP (x / y) (x % y) w) := by
  obtain ⟨A, ca, rfl, hra⟩ := hu
  obtain ⟨B, cb, rfl, hrb⟩ := hv
  have hca := hra.cap
  have hma := hra.max
  have hcb := hrb.cap
  have hmb := hrb.max
  rw [zn_length] at hca hcb ⊢
  rw [zn_length]
  have hxlt := lt_pow_pc (b := 10000) (by omega) x
  have hylt := lt_pow_pc (b := 10000) (by omega) y
  have hdig := pc_at 10000 (by omega)
  obtain ⟨N, hN⟩ : ∃ N, (pc 10000 x).length = N := ⟨_, rfl⟩
  have HDIG : Hid (∀ i, i < N → at0 (pc 10000 x) i = x / 10000 ^ i % 10000) := Lib.hid (fun i hi => hdig i x (by omega))
  have HXL := Lib.hid hxlt
  have HYL := Lib.hid hylt
  have hl9 := pc_lt (b := 10000) (by omega) x
  have HL9 := Lib.hid hl9
  have hrb' : RZ w (.slice B (pc 10000 y).length cb) (zn (pc 10000 y)) := ⟨B, cb, by rw [zn_length], hrb⟩
  have HRB := Lib.hid hrb'
  rw [hN] at hca hxl ⊢
  have HN := Lib.hid hN
  obtain ⟨L, hL⟩ : ∃ L, (pc 10000 y).length = L := ⟨_, rfl⟩
  rw [hL] at hcb hyl HRB HYL ⊢
  have HLL := Lib.hid hL
  have hmk := mk_intn N (by omega) (N : Int) (by omega)
  have how := own_intn w w.heap.size N (Nat.le_refl _) (by omega)
  clear hxlt hylt hdig hl9 hN hL hrb hrb'
  go_enter Tryz.func194, Tryz.ntmps194
  go_wp2
  clear hmk
  obtain ⟨H, hH⟩ : ∃ H, H = w.heap.size := ⟨_, rfl⟩
  rw [← hH] at how
  simp only [← hH]
  have HH := Lib.hid hH
  clear hH
  go_loopw [7, 8] (fun r i wr => PartRel x y N H w r i wr) (fun _ i _ => (intOf i + 1).toNat)
  case atStart =>
    have h0 : x / 10000 ^ N = 0 := Nat.div_eq_of_lt (by rw [← HN.out]; exact HXL.out)
    refine ⟨N, List.replicate N 0, Nat.le_refl _, ⟨by simp, by intro z hz; rw [List.mem_replicate] at hz; omega, fun j hj => by simp [at0, hj], ?_⟩, rfl, ?_, how, (Ext.refl w).alloc _⟩
    · rw [h0, ofL_zeros (fun j hj => by simp at hj; simp [at0, hj])]; simp
    · rw [h0, Nat.zero_mod, pc_zero]; exact RZ.nil _
  case round =>
    clear how
    obtain ⟨n, out, hn, hP, rfl, hrest, hown, hext⟩ := hrel
    by_cases hn0 : 0 < n
    · obtain ⟨i, rfl⟩ : ∃ i, n = i + 1 := ⟨n - 1, by omega⟩
      rw [show (((i + 1 : Nat) : Int) - 1) = (i : Int) by omega]
      have hHlt : H < wr.heap.size := World.block_lt_of_cell? wr ⟨H, i, none⟩ ((hown.cellAt i (by omega)).trans (zs_get (by rw [zn_length, hP.len]; omega)))
      obtain ⟨ba, oa, rfl, hcella⟩ := hra.ad (by rw [zn_length, HN.out]; omega)
      have hg := hext.cellS (hcella i (by rw [zn_length, HN.out]; omega))
      rw [az_zn] at hg
      obtain ⟨p, hp⟩ : ∃ p, p = at0 (pc 10000 x) i := ⟨_, rfl⟩
      have hp9 := at0_lt HL9.out (show i < (pc 10000 x).length by rw [HN.out]; omega)
      rw [← hp] at hg hp9
      have hstep := div_step x i
      rw [← HDIG.out i (by omega), ← hp] at hstep
      obtain ⟨r, hr⟩ : ∃ r, r = x / 10000 ^ (i + 1) % y := ⟨_, rfl⟩
      have hry : r < y := by rw [hr]; exact Nat.mod_lt _ hy
      rw [← hr] at hrest
      obtain ⟨hq1, hq2⟩ := quot_step (x / 10000 ^ (i + 1)) p y 10000 hy
      rw [← hstep, ← hr] at hq1 hq2
      have hd9 := digit_lt hy hry hp9
      obtain ⟨t, ht⟩ : ∃ t, t = 10000 * r + p := ⟨_, rfl⟩
      rw [← ht] at hq1 hq2 hd9
      have htof : ofL 10000 (p :: pc 10000 r) = t := by rw [ofL, ofL_pc (by omega), ht]; omega
      have htlt : t < 10000 ^ (L + 1) := by
        have h1 := HYL.out
        have h2 : 10000 * (r + 1) ≤ 10000 * 10000 ^ L := Nat.mul_le_mul_left _ (by omega)
        rw [Nat.pow_succ, Nat.mul_comm]; omega
      have hrl : (pc 10000 r).length ≤ L := pc_length_le (by omega) (Nat.lt_trans hry HYL.out)
      have htl : (pc 10000 t).length ≤ L + 1 := pc_length_le (by omega) htlt
      have hlc : ∀ z ∈ p :: pc 10000 r, z < 10000 := by
        intro z hz
        rcases List.mem_cons.1 hz with rfl | hz
        · exact hp9
        · exact pc_lt (by omega) r z hz
      obtain ⟨d, hd⟩ : ∃ d, d = t / y := ⟨_, rfl⟩
      rw [← hd] at hq1 hd9
      have hPS := hP.step (d := d) (by omega) hq1 hd9
      have HPS := Lib.hid hPS
      have HD := Lib.hid hd
      have HTO := Lib.hid htof
      have HTL := Lib.hid htlt
      have HLC := Lib.hid hlc
      have HQ2 := Lib.hid hq2
      obtain ⟨A7, c7, rfl, hr7⟩ := hrest
      have hw0 : (wr.alloc (.cells #[.int .i64 (p : Nat)] 3)).ownsRow wr.heap.size 3 1 (.slice (some ⟨wr.heap.size, 0, none⟩) 1 1) 1 (zs [(p : Int)]) := own_lit wr wr.heap.size [(p : Int)] (Nat.le_refl _) (by simp)
      have hx0 := (Ext.refl wr).alloc (.cells #[.int .i64 (p : Nat)] 3)
      have hrz : RZ (wr.alloc (.cells #[.int .i64 (p : Nat)] 3)) (.slice A7 (pc 10000 r).length c7) (zn (pc 10000 r)) := ⟨A7, c7, by rw [zn_length], hr7.ext hx0⟩
      rw [zn_length]
      have hc7 := hr7.cap
      have hm7 := hr7.max
      rw [zn_length] at hc7
      have hjs : x / 10000 ^ i % y = t % y := hq2
      clear hcella hp hstep hr hq1 hq2 ht htof htlt hlc hd hPS hjs hr7 hP
      go_wp2_with (at_builtin; refine applZ rfl _ _ rfl (wr.alloc (.cells #[.int .i64 (p : Nat)] 3)) wr.heap.size (.slice (some ⟨wr.heap.size, 0, none⟩) 1 1) 1 [(p : Int)] rfl hw0 (zn (pc 10000 r)) (.slice A7 (pc 10000 r).length c7) rfl hrz (by rw [zn_length]; omega) (by simp) ?_; intro v1 w1 hown1 hx1)
      have hx1 := hx1 wr hx0 (Nat.le_refl _)
      have hrd1 : RZ w1 v1 (zn (p :: pc 10000 r)) := RZ.of_own (by exact hown1) (by simp [zn]; omega) (by rw [zn_length]; simp; omega)
      obtain ⟨A1, c1, hf1, hbl, _, _⟩ := own_form hown1
      obtain ⟨g1, rfl, hg1⟩ := hbl (by omega)
      have hne : ∀ b o, some (⟨g1, 0, none⟩ : Addr) = some ⟨b, o, none⟩ → b ≠ H := by
        intro b o e
        simp only [Option.some.injEq, Addr.mk.injEq] at e
        omega
      have HNE := Lib.hid hne
      subst hf1
      obtain ⟨A1', c1', e1, hz1⟩ := hrd1
      simp only [Value.slice.injEq] at e1
      obtain ⟨rfl, _, rfl⟩ := e1
      have cc := refCut_q (p :: pc 10000 r) _ c1 (1 + (zn (pc 10000 r)).length) (by rw [zn_length]; simp; omega) w1 hz1 HLC.out
      have hz2 := hz1.pc4 HLC.out
      rw [HTO.out] at cc hz2
      clear hown1 hrz hw0 hx0 hbl hne hz1
      ((with_reducible refine cc.mono ?_); rintro e w2 ⟨rfl, rfl⟩)
      have hext2 := hext.trans hx1
      have hown2 := own_ext hown hx1
      have hc1 := hz2.cap
      have hm1 := hz2.max
      rw [zn_length] at hc1
      have hv2 : RZ w1 (.slice (some ⟨g1, 0, none⟩) (pc 10000 t).length c1) (zn (pc 10000 t)) := ⟨_, _, by rw [zn_length], hz2⟩
      clear hx1 hext hown cc hg
      go_wp2
      have jn := fun (m : Nat) (hm : m ≤ 9999) => refJoined_c 0 y (m : Int) (m * y) (L + 1) (by omega) (by
        have h1 := HYL.out
        rw [Nat.pow_succ, Nat.mul_comm]
        exact Nat.mul_lt_mul'' h1 (by omega)) (by simp) (by omega) (by omega) (by rw [pc_zero]; simp) (by rw [HLL.out]; omega) (.slice none 0 0) (.slice B L cb)
      go_loopw [9, 10] (fun lo hi wr => ∃ a b : Nat, lo = .int .i64 (a : Nat) ∧ hi = .int .i64 (b : Nat) ∧ a ≤ d ∧ d ≤ b ∧ b ≤ 9999 ∧ Ext w1 wr) (fun lo hi _ => (intOf hi).toNat - (intOf lo).toNat)
      case atStart => exact ⟨0, 9999, rfl, rfl, by omega, by omega, by omega, Ext.refl _⟩
      case round =>
        obtain ⟨a, b, rfl, rfl, had, hdb, hb9, hext3⟩ := hrel
        by_cases hab : a < b
        · obtain ⟨m, hm⟩ : ∃ m, m = (a + b + 1) / 2 := ⟨_, rfl⟩
          have hm2 : ((a : Int) + b + 1) / 2 = (m : Int) := by omega
          have hm9 : m ≤ 9999 := by omega
          have hma : a < m := by omega
          have hmb2 : m ≤ b := by omega
          have hm1 : (1 : Int) ≤ (m : Int) := by omega
          clear hm
          have hrbw := (HRB.out.ext (hext2.trans hext3))
          have j1 := jn m hm9 _ (RZ.nil _ |> fun h => by rw [pc_zero]; exact h) hrbw
          go_wp2_with fail
          ((with_reducible refine j1.mono ?_); rintro e w4 ⟨v4, rfl, hv4, hx4⟩)
          have hv24 := (hv2.ext hext3).ext hx4
          have ls := refLess_c t (m * y) _ v4 w4 hv24 hv4
          have hext4 := hext3.trans hx4
          by_cases hlt : t < m * y
          case' pos =>
            have hdm : d < m := by rw [HD.out]; exact (Nat.div_lt_iff_lt_mul hy).2 hlt
            rw [decide_eq_true hlt] at ls
          case' neg =>
            have hdm : m ≤ d := by rw [HD.out]; exact (Nat.le_div_iff_mul_le hy).2 (by omega)
            rw [decide_eq_false hlt] at ls
          all_goals
            clear hlt hv24 hv4 hx4 j1 hrbw
            go_wp2_with fail
            ((with_reducible refine ls.mono ?_); rintro e w5 ⟨rfl, hx5⟩)
            have hext5 := hext4.trans hx5
            clear ls
            go_wp2
            go_roundw
            case rel => first | exact ⟨a, m - 1, rfl, by congr 1 <;> omega, by omega, by omega, by omega, hext5⟩ | exact ⟨m, b, rfl, rfl, by omega, by omega, by omega, hext5⟩
            case measure => simp [intOf]; omega
        · obtain rfl : a = b := by omega
          obtain rfl : a = d := by omega
          have hext3' := hext2.trans hext3
          have hown3 := own_ext hown2 hext3
          have hfo := hown3.frozenAt i
          have hst := (hown3.stored i (.int .i64 (a : Nat))).1
          rw [zs_set, zn_set] at hst
          have hol : out.length = N := by have := HPS.out.len; rwa [List.length_set] at this
          have hcl := hown3.cellAt i (by omega)
          rw [zs_get (by rw [zn_length]; omega)] at hcl
          have HST := Lib.hid hst
          have hsc := hext3'.setCell (p := ⟨H, i, none⟩) (by have := HH.out; simp; omega) (.int .i64 (a : Nat))
          have hv3 : RZ (wr.setCell ⟨H, i, none⟩ (.int .i64 (a : Nat))) (.slice (some ⟨g1, 0, none⟩) (pc 10000 t).length c1) (zn (pc 10000 t)) := ⟨_, _, by rw [zn_length], (hz2.ext hext3).setCell _ HNE.out⟩
          have hrby := HRB.out.ext hsc
          have hjN : ((t : Nat) : Int) + (-(a : Int)) * (y : Nat) = ((t % y : Nat) : Int) := by
            have h1 := Nat.div_add_mod t y
            rw [← HD.out, Nat.mul_comm] at h1
            rw [Int.neg_mul, ← Int.natCast_mul]
            omega
          have jn2 := refJoined_c t y (-(a : Int)) (t % y) (L + 1) (by omega) (Nat.lt_of_le_of_lt (Nat.mod_le _ _) HTL.out) hjN (by omega) (by omega) (by omega) (by rw [HLL.out]; omega) _ _ _ hv3 hrby
          clear hst jn hab hjN hv3 hrby hv2
          go_wp2_with fail
          ((with_reducible refine jn2.mono ?_); rintro e w4 ⟨v4, rfl, hv4, hx4⟩)
          have hext4 := hsc.trans hx4
          go_wp2
          go_roundw
          case rel => exact ⟨i, out.set i a, by omega, HPS.out, by go_num, by rw [HQ2.out]; exact hv4, own_ext HST.out hx4, hext4⟩
          case measure => simp [intOf]
    · obtain rfl : n = 0 := by omega
      have hl := hP.len
      have hs := hP.sum
      simp only [Nat.pow_zero, Nat.div_one, Nat.one_mul] at hs hrest
      have hrd : RZ wr (.slice (some ⟨H, 0, none⟩) N N) (zn out) := RZ.of_own hown (by rw [zn_length]; omega) (by rw [zn_length]; omega)
      have HS := Lib.hid hs
      clear hl hs
      go_wp2_with fail
      ((with_reducible refine (refCut_c out _ _ hrd hP.lt).mono ?_); rintro e w2 ⟨v2, rfl, hv2, hx2⟩)
      go_wp2
      go_ret2
      exact ⟨v2, u7, rfl, by rw [← HS.out]; exact hv2, hrest.ext hx2, hext.trans hx2⟩
end Go.Proofs.YtblijhokcjpeeaaGreatDoor
