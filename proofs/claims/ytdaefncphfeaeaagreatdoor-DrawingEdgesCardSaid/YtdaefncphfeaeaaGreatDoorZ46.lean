/- Z46: QGA. -/
import Derived.Test.YtdaefncphfeaeaaGreatDoorZ40
import Derived.Test.YtdaefncphfeaeaaGreatDoorZ41
namespace Go.Proofs.YtdaefncphfeaeaaGreatDoor
open Go.RowKit Kl
theorem Ala(n:Nat)(hn:n<=200000)(c:Int)(hc:c=(n:Int))(W:World) :
  (Instr.makeSlice 41 (.int .i64 c) (.int .i64 c)).run Tryz.prog W=.ok (.slice (some ⟨W.heap.size,0,none⟩) n n) (W.alloc (.cells (madeCells #[S []] n) 9)):=by
 subst hc;obtain⟨i0,hi,hz0,hz1,hz2⟩:=info_parts Tryz.infoStr;have h:=run_make (P:=Tryz.prog) W 41 9 i0 (S []) Tryz.underlying41 hi hz0 .i64 .i64 n n (by omega) (by omega) (by rw [hz2];omega) (by omega);rw [hz1,Nat.mul_one]at h;simp only [Int.toNat_natCast]at h;exact h
theorem AlM(W:World)(base n:Nat)(hb:base<=W.heap.size)(hn:n<=200000) :
  (W.alloc (.cells (madeCells #[S []] n) 9)).ownsRow base 9 1 (.slice (some ⟨W.heap.size,0,none⟩) n n) n ((List.replicate n []).map S):=by
 have h:=World.ownsRow_lit (w:=W) (base:=base) (e:=9) (size:=1) (madeCells #[S []] n) n hb (by unfold maxLen;omega) (by rw [size_madeCells];omega);rw [toList_madeCells_one]at h
 simpa using h
def Lx(us:List Bs)(k:Nat):List Bs:=(List.range us.length).map fun i=>if i<k then us.getD i [] else []
theorem AoL(us:List Bs):Lx us 0=List.replicate us.length []:=by
 unfold Lx;apply List.ext_getElem
 ·simp
 ·intro i h1 h2;simp
theorem AoK{us:List Bs}{k:Nat}(h:k<us.length):(Lx us k).set k us[k]=Lx us (k+1):=by
 unfold Lx;apply List.ext_getElem
 ·simp
 ·intro i h1 h2;by_cases e:k=i
  ·subst e;simp [List.getD_eq_getElem?_getD,Asl h]
  ·rw [List.getElem_set_ne e];have:(i<k+1)↔i<k:=(by omega);simp [this]
theorem AoJ(us:List Bs):Lx us us.length=us:=by
 unfold Lx;apply List.ext_getElem
 ·simp
 ·intro i h1 h2;simp only [List.length_map,List.length_range]at h1;simp [h1,List.getD_eq_getElem?_getD]
theorem Ao6{w:World}{bR o:Nat}{t:TypeId}{v:Value}(hb:w.heap[bR]?=some (.cells #[.slice none 0 0,.slice none 0 0,.slice none 0 0] t))(h:w.cell? ⟨bR,o,none⟩=some v):v=.slice none 0 0:=by
 unfold World.cell? at h;simp only [hb]at h
 match o,h with
 | 0,h=>simpa using h.symm
 | 1,h=>simpa using h.symm
 | 2,h=>simpa using h.symm
 | o+3,h=>simp at h
theorem Am.far{w w':World}{A:Option Addr}{cs:List Value}{bR:Nat}{t:TypeId}(h:Am w A cs)(hb:w.heap[bR]?=some (.cells #[.slice none 0 0,.slice none 0 0,.slice none 0 0] t))
  (hne:∀x∈cs,x≠.slice none 0 0) (Ub:∀q,q≠bR→w'.heap[q]?=w.heap[q]?):Am w' A cs:=
 ⟨fun h0=>by
  obtain⟨b,o,e,hc⟩:=h.ad h0;refine⟨b,o,e,fun j hj=>?_⟩;have iP:=hc j hj
  have BA:b≠bR:=by rintro rfl;exact hne _ (Asg hj) (Ao6 hb iP)
  unfold World.cell? at iP ⊢;simp only [Ub b BA]
  exact iP⟩
theorem MapAt.far{w w':World}{n:Nat}{AC:List Bs}{A B F:Option Addr}{c d g:Nat}{m:B7}{Al:List Bs}{bR:Nat}{t:TypeId}(h:MapAt w n AC A B F c d g m Al)
  (hb:w.heap[bR]?=some (.cells #[.slice none 0 0,.slice none 0 0,.slice none 0 0] t)) (Ub:∀q,q≠bR→w'.heap[q]?=w.heap[q]?):MapAt w' n AC A B F c d g m Al:=by
 refine⟨h.cap,h.pts.far hb ?_ Ub,h.eds.far hb ?_ Ub,h.fac.far hb ?_ Ub,h.nf,h.le,h.sheet,h.txt⟩
 ·intro x hx;obtain⟨y,-,hx⟩:=List.mem_flatMap.1 hx;simp only [List.mem_cons,Asr,or_false]at hx
  rcases hx with rfl|rfl<;>exact fun e=>by simp [S]at e
 ·intro x hx;obtain⟨y,-,hx⟩:=List.mem_flatMap.1 hx;simp only [List.mem_cons,Asr,or_false]at hx
  rcases hx with rfl|rfl|rfl|rfl<;>exact fun e=>by simp at e
 ·intro x hx;obtain⟨y,-,rfl⟩:=List.mem_map.1 hx;exact fun e=>by simp [S]at e
theorem MapAt.ext{w w':World}{n:Nat}{AC:List Bs}{A B F:Option Addr}{c d g:Nat}{m:B7}{Al:List Bs}(h:MapAt w n AC A B F c d g m Al)(hx:Aa w w'):MapAt w' n AC A B F c d g m Al:=
 ⟨h.cap,h.pts.ext hx,h.eds.ext hx,h.fac.ext hx,h.nf,h.le,h.sheet,h.txt⟩
theorem xh{w0 w:World}{n:Nat}{AC:List Bs}{A B F:Option Addr}{c d g:Nat}{m:B7}{Al:List Bs}{bR:Nat}{t:TypeId}(h:MapAt w n AC A B F c d g m Al)(hx:Aa w0 w)
  (hb:w.heap[bR]?=some (.cells #[.slice none 0 0,.slice none 0 0,.slice none 0 0] t)) (h0:w0.heap.size<=bR) (x y z:Value) :
  MapAt (((w.setCell ⟨bR,0,none⟩ x).setCell ⟨bR,1,none⟩ y).setCell ⟨bR,2,none⟩ z) n AC A B F c d g m Al/\Aa w0 (((w.setCell ⟨bR,0,none⟩ x).setCell ⟨bR,1,none⟩ y).setCell ⟨bR,2,none⟩ z)
   /\(((w.setCell ⟨bR,0,none⟩ x).setCell ⟨bR,1,none⟩ y).setCell ⟨bR,2,none⟩ z).heap[bR]?=some (.cells #[x,y,z] t):=by
 refine⟨h.far hb fun q hq=>?_,((hx.setCell (p:=⟨bR,0,none⟩) h0 x).setCell (p:=⟨bR,1,none⟩) h0 y).setCell (p:=⟨bR,2,none⟩) h0 z,dM x y z hb⟩;rw [EP (by exact hq),EP (by exact hq),EP (by exact hq)]
end Go.Proofs.YtdaefncphfeaeaaGreatDoor
