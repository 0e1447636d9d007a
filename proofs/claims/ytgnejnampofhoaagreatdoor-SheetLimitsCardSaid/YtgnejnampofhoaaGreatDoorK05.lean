/- K05: Chk Draw Zed. -/
import Derived.Test.YtgnejnampofhoaaGreatDoorK03
namespace Kl
open Go
def JI(l:Bs):Prop:=∃z:Int,l=I z/\(D z.natAbs).length<=200
structure VF(t:Bs)(mn:Bool):Prop where
 ne:t≠[]
 len:t.length<=200
 zero:∀m,t=48::m→m = []/\mn=false
 all:C4 t
theorem AcK(l:Bs):([45].isPrefixOf l=true/\∃m,l=45::m/\Lib.trimPrefix l [45]=m)∨([45].isPrefixOf l=false/\Lib.trimPrefix l [45]=l):=by
 match l with
 | []=>exact .inr ⟨rfl,rfl⟩
 | c::m=>
  by_cases h:c=45
  ·subst h;exact .inl ⟨by simp [List.isPrefixOf],m,rfl,by unfold Lib.trimPrefix Lib.hasPrefix;simp [List.isPrefixOf]⟩
  ·have:[45].isPrefixOf (c::m)=false:=by simp only [List.isPrefixOf,Bool.and_true];rw [beq_eq_false_iff_ne];exact fun e=>h e.symm
   exact .inr ⟨this,by unfold Lib.trimPrefix Lib.hasPrefix;rw [this];rfl⟩
theorem jW(l:Bs):JI l↔VF (Lib.trimPrefix l [45]) ([45].isPrefixOf l):=by
 rcases AcK l with⟨h1,m,rfl,h2⟩|⟨h1,h2⟩
 ·rw [h1,h2];constructor
  ·rintro⟨z,e,hl⟩
   rcases DD z with⟨n,rfl,e2⟩|⟨n,hn,rfl,e2⟩
   ·rw [e2]at e;exact absurd e.symm (VH n m)
   ·rw [e2]at e;obtain rfl:m=D n:=(by simpa using e);have hc:=jM n;refine⟨hc.ne,by simpa using hl,fun q e3=>?_,hc.all⟩
    exfalso
    obtain⟨c,r,e4,_,h48⟩:=VG n hn;rw [e3]at e4;simp at e4;exact h48 e4.1.symm
  ·intro h;have hc:Can m:=⟨h.ne,h.all,fun q e=>(h.zero q e).1⟩;have e:=eD hc
   have hn:0<val m:=by
    rcases Nat.eq_zero_or_pos (val m)with h0|h0
    ·rw [h0,Fz (by omega)]at e;have:=(h.zero [] e.symm).2;simp at this
    ·exact h0
   refine⟨-(val m:Int),by rw [Wt _ hn,e],?_⟩;rw [show (-(val m:Int)).natAbs=val m by omega,e];exact h.len
 ·rw [h1,h2];constructor
  ·rintro⟨z,e,hl⟩
   rcases DD z with⟨n,rfl,e2⟩|⟨n,hn,rfl,e2⟩
   ·rw [e2]at e;subst e;have hc:=jM n;exact⟨hc.ne,by simpa using hl,fun q e3=>⟨hc.head q e3,rfl⟩,hc.all⟩
   ·rw [e2]at e;subst e;simp [List.isPrefixOf]at h1
  ·intro h;have hc:Can l:=⟨h.ne,h.all,fun q e=>(h.zero q e).1⟩;have e:=eD hc;exact⟨(val l:Int),by rw [ER,e],by simp only [Int.natAbs_natCast];rw [e];exact h.len⟩
def CH(l:Bs):Prop:=∃q:Rat,l=R q/\(D q.num.natAbs).length<=200/\(D q.den).length<=200
theorem vz(l:Bs):(∃n d,l=n++47::d/\(47:UInt8)∉n/\Lib.cut l [47]=(n,d,true))∨((47:UInt8)∉l/\Lib.cut l [47]=(l,[],false)):=by
 by_cases h:(47:UInt8)∈l
 ·obtain⟨n,d,e,hn⟩:=List.eq_append_cons_of_mem h;exact .inl ⟨n,d,e,hn,by rw [e];exact Oj hn⟩
 ·exact .inr ⟨h,Xk h⟩
theorem bG{n d:Bs}(hn:(47:UInt8)∉n):CH (n++47::d)↔∃a b:Int,n=I a/\d=I b/\(D a.natAbs).length<=200/\(D b.natAbs).length<=200/\1<b/\a≠0/\Int.gcd a b=1:=by
 constructor
 ·rintro⟨q,e,h1,h2⟩;have hc:=Tf q;rw [←e,Oj hn]at hc;by_cases hd:q.den=1
  ·rw [if_pos hd]at hc;simp at hc
  ·rw [if_neg hd]at hc;simp only [Prod.mk.injEq,and_true]at hc;refine⟨q.num,q.den,hc.1,by rw [hc.2,ER],h1,by simpa using h2,by have:=q.den_pos;omega,fun h0=>?_,?_⟩
   ·have:=q.reduced;rw [h0]at this;simp at this;exact hd this
   ·have:=q.reduced;unfold Nat.Coprime at this;unfold Int.gcd;rw [Int.natAbs_natCast];exact this
 ·rintro⟨a,b,rfl,rfl,h1,h2,hb,ha,hg⟩;obtain⟨b,rfl⟩:=Int.eq_ofNat_of_zero_le (show 0<=b by omega);unfold Int.gcd at hg;rw [Int.natAbs_natCast]at hg h2;refine⟨⟨a,b,by omega,hg⟩,?_,h1,h2⟩;rw [Tg (by show b≠1;omega),ER]
theorem Ael{l:Bs}(hn:(47:UInt8)∉l):CH l↔JI l:=by
 constructor
 ·rintro⟨q,e,h1,h2⟩;by_cases hd:q.den=1
  ·exact⟨q.num,by rw [e,PW hd],h1⟩
  ·rw [e,Tg hd]at hn;simp at hn
 ·rintro⟨z,rfl,h⟩;exact⟨(z:Rat),(l9 z).symm,h,by show (D 1).length<=200;rw [Fz (by omega)];simp⟩
end Kl
namespace Kl
structure Pt where
 x:Rat
 y:Rat
structure Sg where
 a:Pt
 b:Pt
def JC(a b k:Rat):Rat:=a+k*(b-a)
/-! ### Pixels -/
/-! ### Neighbours -/
end Kl
namespace Go.Proofs.YtgnejnampofhoaaGreatDoor
open Go.RowKit Kl
def zs(l:List Int):List Value:=l.map fun x=>.int .i64 x
def zn(l:List Nat):List Int:=l.map fun (x:Nat)=>(x:Int)
/-! ### carry -/
/-! ### joined -/
/-! ### times -/
/-! ### parts: one digit of a quotient -/
end Go.Proofs.YtgnejnampofhoaaGreatDoor
