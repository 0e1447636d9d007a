/- Y14: E3 E4 E5 E6. -/
import Derived.Test.YtjalkoacphhgdaaGreatDoorY13
import Derived.Test.YtjalkoacphhgdaaGreatDoorY12
namespace Go.Proofs.YtjalkoacphhgdaaGreatDoor
open Go.RowKit Kl
theorem Dm{a b:Bool}(h:a=b):Ending.returned (.bool a)=.returned (.bool b):=by rw [h]
/-! ### carry -/
theorem Ki.setCell{w:World}{A:Option Addr}{c:Nat}{l:List Int}(h:Ki w A c l){p:Addr}(u:Value)(hp:∀b o,A=some ⟨b,o,none⟩→b≠p.block):Ki (w.setCell p u) A c l:=
 ⟨h.cap,h.max,h.len,fun h0=>by
  obtain⟨b,o,e,hc⟩:=h.ad h0;refine⟨b,o,e,fun j hj=>?_⟩;rw [World.cell?_setCell_other _ _ _ _ (by rintro rfl;exact hp b o e rfl)]
  exact hc j hj⟩
structure XO(x y N i:Nat)(out:List Nat):Prop where
 len:out.length=N
 lt:∀z∈out,z<10000
 zero:∀j,j<i→Ah out j=0
 sum:Ag 10000 out=10000^i*(x/10000^i/y)
theorem XO.step{x y N i d:Nat}{out:List Nat}(h:XO x y N (i+1) out)(hi:i<N)(hd:x/10000^i/y=10000*(x/10000^(i+1)/y)+d)(uK:d<10000):XO x y N i (out.set i d):=by
 have hl:=h.len;refine⟨by rw [List.length_set];exact hl,Wc h.lt uK,fun j hj=>?_,?_⟩
 ·rw [mB _ (by omega),if_neg (by omega)];exact h.zero j (by omega)
 ·have hs:=SZ (b:=10000) (l:=out) (j:=i) d (by omega);rw [h.zero i (by omega),h.sum,Nat.mul_zero,Nat.add_zero]at hs;rw [hs,hd,Nat.mul_add,Nat.pow_succ,Nat.mul_assoc]
end Go.Proofs.YtjalkoacphhgdaaGreatDoor
