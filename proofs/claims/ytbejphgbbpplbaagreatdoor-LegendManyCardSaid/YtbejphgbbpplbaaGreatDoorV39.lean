/- V39: QGA. -/
import Derived.Test.YtbejphgbbpplbaaGreatDoorV32
namespace Go.Proofs.YtbejphgbbpplbaaGreatDoor
open Go.RowKit Kl
theorem AgH(n:Nat)(hn:n<=200000)(c:Int)(hc:c=(n:Int))(W:World) :
  (Instr.makeSlice 23 (.int .i64 c) (.int .i64 c)).run Tryz.prog W=.ok (.slice (some ⟨W.heap.size,0,none⟩) n n) (W.alloc (.cells (madeCells #[S []] n) 9)):=by
 subst hc;obtain⟨i0,hi,hz0,hz1,hz2⟩:=info_parts Tryz.infoStr;have h:=run_make (P:=Tryz.prog) W 23 9 i0 (S []) Tryz.underlying23 hi hz0 .i64 .i64 n n (by omega) (by omega) (by rw [hz2];omega) (by omega);rw [hz1,Nat.mul_one]at h;simp only [Int.toNat_natCast]at h;exact h
theorem AhH(W:World)(base n:Nat)(hb:base<=W.heap.size)(hn:n<=200000) :
  (W.alloc (.cells (madeCells #[S []] n) 9)).ownsRow base 9 1 (.slice (some ⟨W.heap.size,0,none⟩) n n) n ((List.replicate n []).map S):=by
 have h:=World.ownsRow_lit (w:=W) (base:=base) (e:=9) (size:=1) (madeCells #[S []] n) n hb (by unfold maxLen;omega) (by rw [size_madeCells];omega);rw [toList_madeCells_one]at h
 simpa using h
theorem Akc{w:World}{bR o:Nat}{t:TypeId}{v:Value}(hb:w.heap[bR]?=some (.cells #[.slice none 0 0,.slice none 0 0,.slice none 0 0] t))(h:w.cell? ⟨bR,o,none⟩=some v):v=.slice none 0 0:=by
 unfold World.cell? at h;simp only [hb]at h
 match o,h with
 | 0,h=>simpa using h.symm
 | 1,h=>simpa using h.symm
 | 2,h=>simpa using h.symm
 | o+3,h=>simp at h
theorem Ae.far{w w':World}{A:Option Addr}{cs:List Value}{bR:Nat}{t:TypeId}(h:Ae w A cs)(hb:w.heap[bR]?=some (.cells #[.slice none 0 0,.slice none 0 0,.slice none 0 0] t))
  (hne:∀x∈cs,x≠.slice none 0 0) (KG:∀q,q≠bR→w'.heap[q]?=w.heap[q]?):Ae w' A cs:=
 ⟨fun h0=>by
  obtain⟨b,o,e,hc⟩:=h.ad h0;refine⟨b,o,e,fun j hj=>?_⟩;have aG:=hc j hj
  have Bl:b≠bR:=by rintro rfl;exact hne _ (AmY hj) (Akc hb aG)
  unfold World.cell? at aG ⊢;simp only [KG b Bl]
  exact aG⟩
theorem MapAt.far{w w':World}{n:Nat}{units:List Bs}{A B F:Option Addr}{c d g:Nat}{m:Cm}{Am:List Bs}{bR:Nat}{t:TypeId}(h:MapAt w n units A B F c d g m Am)
  (hb:w.heap[bR]?=some (.cells #[.slice none 0 0,.slice none 0 0,.slice none 0 0] t)) (KG:∀q,q≠bR→w'.heap[q]?=w.heap[q]?):MapAt w' n units A B F c d g m Am:=by
 refine⟨h.cap,h.pts.far hb ?_ KG,h.eds.far hb ?_ KG,h.fac.far hb ?_ KG,h.nf,h.le,h.sheet,h.txt⟩
 ·intro x hx;obtain⟨y,-,hx⟩:=List.mem_flatMap.1 hx;simp only [List.mem_cons,Anj,or_false]at hx
  rcases hx with rfl|rfl<;>exact fun e=>by simp [S]at e
 ·intro x hx;obtain⟨y,-,hx⟩:=List.mem_flatMap.1 hx;simp only [List.mem_cons,Anj,or_false]at hx
  rcases hx with rfl|rfl|rfl|rfl<;>exact fun e=>by simp at e
 ·intro x hx;obtain⟨y,-,rfl⟩:=List.mem_map.1 hx;exact fun e=>by simp [S]at e
theorem MapAt.ext{w w':World}{n:Nat}{units:List Bs}{A B F:Option Addr}{c d g:Nat}{m:Cm}{Am:List Bs}(h:MapAt w n units A B F c d g m Am)(hx:Aa w w'):MapAt w' n units A B F c d g m Am:=
 ⟨h.cap,h.pts.ext hx,h.eds.ext hx,h.fac.ext hx,h.nf,h.le,h.sheet,h.txt⟩
end Go.Proofs.YtbejphgbbpplbaaGreatDoor
