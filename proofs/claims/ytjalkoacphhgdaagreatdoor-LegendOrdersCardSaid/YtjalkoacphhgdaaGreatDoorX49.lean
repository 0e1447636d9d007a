/- X49: LO11. -/
import Derived.Test.YtjalkoacphhgdaaGreatDoorX48
namespace Kl
open Go.Proofs.YtjalkoacphhgdaaGreatDoor
open Go.Proofs (ltOf)
theorem AdF{c:List La}{a b:Bs}(h:a≠b):0<=JU c a b↔0<BB c a b:=by
 have h1:=sW c a b;have h2:BB c a b≠0:=fun e=>h ((sV c a b).1 e);omega
theorem qU{l:List En}(h:l.Pairwise IP):NE l:=by
 induction l with
 | nil=>intro x hx;cases hx
 | cons a l ih=>
  rw [List.pairwise_cons]at h;intro x hx y hy e
  rcases List.mem_cons.1 hx with rfl|hx'<;>rcases List.mem_cons.1 hy with rfl|hy'
  ·rfl
  ·exact absurd e (h.1 y hy').1
  ·exact absurd e.symm (h.1 x hx').1
  ·exact ih h.2 x hx' y hy' e
theorem Acu{l:List En}(h:l.Pairwise IP){i j:Nat}(hi:i<l.length)(hj:j<l.length)(Bc:i<j):l[i].u≠l[j].u:=
 (List.pairwise_iff_getElem.1 h i j hi hj Bc).1
theorem AkQ(c:List La)(l:List En):H8 c (Eu c l)=none:=by
 refine kR fun j hj=>?_
 rcases Nat.eq_zero_or_pos j with rfl|h0
 ·exact aE _ _
 ·rw [aD c h0 hj];have h:=List.pairwise_iff_getElem.1 (yf c l) (j-1) j (by omega) hj (by omega);unfold ltOf Hk at h;rw [decide_eq_false_iff_not]at h ⊢;intro h';refine h ?_;generalize (Eu c l)[j].u=q at *;generalize (Eu c l)[j-1].u=p at *;have hs:=RR c p q;have hz:¬BB c p q<0:=(by omega);have Kh:BB c p q≠0:=(by omega);rw [hs]at hz;have hne:p≠q:=fun e=>Kh ((sV c p q).2 e);rw [RR];have cs:=NW p q;have cz:Go.Lib.compareBytes p q≠0:=fun e=>hne (P4 e);omega
end Kl
