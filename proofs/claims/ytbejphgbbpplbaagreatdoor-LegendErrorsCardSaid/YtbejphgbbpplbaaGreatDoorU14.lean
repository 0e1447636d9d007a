/- U14: E3 E4 E5 E6. -/
import Derived.Test.YtbejphgbbpplbaaGreatDoorU07
import Derived.Test.YtbejphgbbpplbaaGreatDoorU11
namespace Go.Proofs.YtbejphgbbpplbaaGreatDoor
open Go.RowKit Kl
theorem NW{a b:Bool}(h:a=b):Ending.returned (.bool a)=.returned (.bool b):=by rw [h]
/-! ### carry -/
theorem Lc.setCell{w:World}{A:Option Addr}{c:Nat}{l:List Int}(h:Lc w A c l){p:Addr}(u:Value)(hp:∀b o,A=some ⟨b,o,none⟩→b≠p.block):Lc (w.setCell p u) A c l:=
 ⟨h.cap,h.max,h.len,fun h0=>by
  obtain⟨b,o,e,hc⟩:=h.ad h0;refine⟨b,o,e,fun j hj=>?_⟩;rw [World.cell?_setCell_other _ _ _ _ (by rintro rfl;exact hp b o e rfl)]
  exact hc j hj⟩
structure ZM(x y N i:Nat)(out:List Nat):Prop where
 len:out.length=N
 lt:∀z∈out,z<10000
 zero:∀j,j<i→AM out j=0
 sum:AE 10000 out=10000^i*(x/10000^i/y)
theorem ZM.step{x y N i d:Nat}{out:List Nat}(h:ZM x y N (i+1) out)(hi:i<N)(hd:x/10000^i/y=10000*(x/10000^(i+1)/y)+d)(hd9:d<10000):ZM x y N i (out.set i d):=by
 have hl:=h.len;refine⟨by rw [List.length_set];exact hl,lJ h.lt hd9,fun j hj=>?_,?_⟩
 ·rw [sY _ (by omega),if_neg (by omega)];exact h.zero j (by omega)
 ·have hs:=UB (b:=10000) (l:=out) (j:=i) d (by omega);rw [h.zero i (by omega),h.sum,Nat.mul_zero,Nat.add_zero]at hs;rw [hs,hd,Nat.mul_add,Nat.pow_succ,Nat.mul_assoc]
end Go.Proofs.YtbejphgbbpplbaaGreatDoor
