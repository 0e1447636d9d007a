/- U13: Int7. -/
import Derived.Test.YtbejphgbbpplbaaGreatDoorU11
namespace Go.Proofs.YtbejphgbbpplbaaGreatDoor
open Go.RowKit Kl
attribute [local go_sem] wQ Agq
theorem Jb.setCell{w:World}{A:Option Addr}{c:Nat}{l:List Nat}(h:Jb w A c l){p:Addr}{v u:Value}(hp:w.cell? p=some v)(hv:∀n,v≠.int .u64 n):Jb (w.setCell p u) A c l:=
 ⟨h.cap,h.max,h.len,fun h0=>by
  obtain⟨b,o,e,hc⟩:=h.ad h0;refine⟨b,o,e,fun j hj=>?_⟩
  have hne:p≠⟨b,o+j,none⟩:=by rintro rfl;rw [hc j hj]at hp;exact hv _ (Option.some.inj hp).symm
  rw [World.cell?_setCell_other _ _ _ _ hne]
  exact hc j hj⟩
structure Sv(n:Nat)(s:Bs)(o:List Nat):Prop where
 all:Cb s
 lt:∀x∈o,x<1000000000
 len:s.length+o.length<=4001
 sum:n=val s*1000000000^o.length+AE 1000000000 o
theorem Sv.start{n:Nat}(h:(D n).length<=4001):Sv n (D n) []:=⟨ES n,by simp,by simpa using h,by simp [AE,KO]⟩
theorem Sv.step{n k:Nat}{s:Bs}{o:List Nat}(h:Sv n s o)(hk:k<s.length)(Xo:k+9=s.length∨(k=0/\s.length<9)):Sv n (s.take k) (o ++ [val (s.drop k)])/\Cb (s.drop k)/\s.drop k≠[]/\val (s.drop k)<1000000000:=by
 have hd:=sK h.all k;have hv:=KQ hd;have L2:(s.drop k).length<=9:=(by rw [List.length_drop];omega);have hp:10^(s.drop k).length<=10^9:=Nat.pow_le_pow_right (by omega) L2
 have Kx:val (s.drop k)<1000000000:=by have e:(10:Nat)^9=1000000000:=(by decide);omega
 refine⟨⟨ZX h.all k,?_,?_,?_⟩,hd,?_,Kx⟩
 ·intro x hx
  rcases List.mem_append.1 hx with hx|hx
  ·exact h.lt x hx
  ·simp at hx;subst hx;exact Kx
 ·have:=h.len;rw [List.length_take,List.length_append,List.length_singleton];omega
 ·have hs:val s=val (s.take k)*10^(s.drop k).length+val (s.drop k):=by
   conv=>lhs;rw [←List.take_append_drop k s]
   rw [val_append]
  have hs2:val s=val (s.take k)*1000000000+val (s.drop k):=by
   rcases Xo with e|⟨rfl,_⟩
   ·rw [hs,show (s.drop k).length=9 by rw [List.length_drop];omega]
   ·simp [Mw]
  rw [He,List.length_append,List.length_singleton,Nat.pow_succ];have:=h.sum;rw [hs2]at this;rw [this];generalize 1000000000^o.length=p;generalize val (s.take k)=a;generalize val (s.drop k)=b;rw [Nat.add_mul,Nat.mul_assoc,Nat.mul_comm 1000000000 p,Nat.mul_comm b p];omega
 ·intro e;have:(s.drop k).length=0:=(by rw [e];rfl);rw [List.length_drop]at this;omega
end Go.Proofs.YtbejphgbbpplbaaGreatDoor
