/- Z09: LQ LR LC. -/
import Derived.Test.YtjalkoacphhgdaaGreatDoorZ02
import Derived.Test.YtjalkoacphhgdaaGreatDoorZ05
namespace Kl
open Go Go.Sort
open Go.Proofs (ltOf)
open Go.Lib (compareBytes)
theorem nT:∀a:Bs,compareBytes a a=0
 | []=>rfl
 | x::a=>by unfold compareBytes;rw [if_neg (UInt8.lt_irrefl x),if_neg (UInt8.lt_irrefl x),nT a]
theorem Us:∀{a b:Bs},compareBytes a b=0→a=b
 | [],[],_=>rfl
 | [],_::_,h=>by simp [compareBytes]at h
 | _::_,[],h=>by simp [compareBytes]at h
 | x::a,y::b,h=>by
  unfold compareBytes at h;by_cases h1:x<y
  ·rw [if_pos h1]at h;omega
  ·rw [if_neg h1]at h;by_cases h2:y<x
   ·rw [if_pos h2]at h;omega
   ·rw [if_neg h2]at h
    have:x=y:=by apply UInt8.toNat_inj.1;rw [UInt8.lt_iff_toNat_lt]at h1 h2;omega
    rw [this,Us h]
theorem OH:∀(a b:Bs),compareBytes b a =-compareBytes a b
 | [],[]=>rfl
 | [],_::_=>by simp [compareBytes]
 | _::_,[]=>by simp [compareBytes]
 | x::a,y::b=>by
  unfold compareBytes;have h3:=OH a b;by_cases h1:x<y
  ·have h2:¬y<x:=(by rw [UInt8.lt_iff_toNat_lt]at *;omega);rw [if_pos h1,if_neg h2,if_pos h1];rfl
  ·by_cases h2:y<x
   ·rw [if_pos h2,if_neg h1,if_pos h2]
   ·rw [if_neg h1,if_neg h2,if_neg h2,if_neg h1];exact h3
theorem YH:∀{a b c:Bs},compareBytes a b<0→compareBytes b c<0→compareBytes a c<0
 | [],_,[],h1,h2=>by
  rename_i b
  have:=OH [] b;omega
 | [],_,_::_,_,_=>by simp [compareBytes]
 | _::_,[],_,h1,_=>by simp [compareBytes]at h1
 | _::_,_::_,[],_,h2=>by simp [compareBytes]at h2
 | x::a,y::b,z::c,h1,h2=>by
  unfold compareBytes at h1 h2 ⊢;simp only [UInt8.lt_iff_toNat_lt]at *;by_cases e1:x.toNat<y.toNat
  ·by_cases e2:y.toNat<z.toNat
   ·rw [if_pos (by omega)];omega
   ·rw [if_neg e2]at h2;by_cases e3:z.toNat<y.toNat
    ·rw [if_pos e3]at h2;omega
    ·rw [if_pos (by omega)];omega
  ·rw [if_neg e1]at h1;by_cases e2:y.toNat<x.toNat
   ·rw [if_pos e2]at h1;omega
   ·rw [if_neg e2]at h1;by_cases e3:y.toNat<z.toNat
    ·rw [if_pos (by omega)];omega
    ·rw [if_neg e3]at h2;by_cases e4:z.toNat<y.toNat
     ·rw [if_pos e4]at h2;omega
     ·rw [if_neg e4]at h2;rw [if_neg (by omega),if_neg (by omega)];exact YH h1 h2
def DO(c:List La)(a b:Bs):Int:=if I3 (BD c b) (BD c a)≠0 then I3 (BD c b) (BD c a)else compareBytes a b
theorem Abe(x y:Int):I3 x y<0↔x<y:=by unfold I3;split<;>(try split)<;>omega
theorem Abf(x y:Int):I3 x y=0↔x=y:=by unfold I3;split<;>(try split)<;>omega
theorem oM(c:List La)(a b:Bs):DO c a b<0↔BD c b<BD c a∨(BD c b=BD c a/\compareBytes a b<0):=by
 unfold DO;have h1:=Abe (BD c b) (BD c a);have h2:=Abf (BD c b) (BD c a)
 split<;>omega
theorem dl(c:List La)(a b:Bs):ltOf (DO c) a b=true↔BD c b<BD c a∨(BD c b=BD c a/\compareBytes a b<0):=by
 unfold ltOf;rw [decide_eq_true_iff,oM]
theorem dr(c:List La)(a b:Bs):ltOf (DO c) a b=false↔¬(BD c b<BD c a∨(BD c b=BD c a/\compareBytes a b<0)):=by
 rw [←dl];simp
theorem Akm(c:List La):SWO (ltOf (DO c)) where
 irrefl x:=by rw [dr,nT];omega
 trans x y z h1 h2:=by rw [dl]at *;have:=@YH x y z;omega
 ntrans x y z h1 h2:=by
  rw [dr]at *;have s1:=OH x y;have s2:=OH y z;have s3:=OH x z;by_cases e1:compareBytes x y=0
  ·have:=Us e1;subst this;omega
  ·by_cases e2:compareBytes y z=0
   ·have:=Us e2;subst this;omega
   ·have:=@YH z y x;omega
theorem Ak0(c:List La)(x y:Bs)(h1:ltOf (DO c) x y=false)(h2:ltOf (DO c) y x=false):x=y:=by
 have e1:¬DO c x y<0:=(by simpa [ltOf]using h1);have e2:¬DO c y x<0:=(by simpa [ltOf]using h2);rw [oM]at e1 e2;have s1:=OH x y;exact Us (by omega)
def Jc(c:List La)(l:List Bs):List Bs:=l.mergeSort (fun x y=>!ltOf (DO c) y x)
end Kl
namespace Kl
open Go Go.Sort
def EX(F:List Bs):List Bs:=Lib.compact ((F.filter (fun s=>s != [])).mergeSort (fun x y=>decide (x<=y)))
def Oi:Bs:=[32,116,111,32]
def Wr(y:La):Bs:=if y.mx = [] then [45] else y.mx
def Gy(u t:Bs)(y:La):Bs:=if y.u=u then y.mn++Oi++Wr y else t
def textU(c:List La)(u:Bs):Bs:=c.foldl (Gy u) []
def QR(c:List La)(i:Nat)(u:Bs):En:=⟨u,[UInt8.ofNat (97+i)],1+((i%5:Nat):Int),textU c u⟩
def Du(c:List La)(l:List Bs):List En:=l.zipIdx.map fun p=>QR c p.2 p.1
theorem OJ(c:List La)(l:List Bs):(Du c l).length=l.length:=by simp [Du]
theorem YP(c:List La)(l:List Bs){i:Nat}(h:i<l.length)(h':i<(Du c l).length):(Du c l)[i]=QR c i l[i]:=by simp [Du]
theorem Abq(c:List La)(l:List Bs){i:Nat}(h:i<l.length):Du c (l.take (i+1))=Du c (l.take i) ++ [QR c i l[i]]:=by
 apply List.ext_getElem
 ·simp [OJ];omega
 ·intro j h1 h2;rw [OJ,List.length_take]at h1;rw [YP c _ (by simp;omega),List.getElem_take];by_cases hj:j<i
  ·rw [List.getElem_append_left (by rw [OJ];simp;omega),YP c _ (by simp;omega),List.getElem_take]
  ·have:j=i:=(by omega);subst this;have e:(Du c (l.take j)).length=j:=(by rw [OJ,List.length_take];omega);rw [List.getElem_append_right (by omega)];simp
def QS(c:List La)(F:List Bs):Int:=
 if (EX F).any (fun u=>!nameB u)=true then 8 else if 20<(EX F).length then 4 else if (Du c (Jc c (EX F))).any (fun x=>decide (80<x.t.length))=true then 16 else 0
end Kl
namespace Kl
open Classical
noncomputable def rv(l:Bs):Rat:=if h:∃q,l=R q then Classical.choose h else 0
theorem iQ(q:Rat):rv (R q)=q:=by
 unfold rv;have h:∃p,R q=R p:=⟨q,rfl⟩;rw [dif_pos h];exact(Nk (Classical.choose_spec h)).symm
theorem iR{l:Bs}(h:BJ l):l=R (rv l)/\(D (rv l).num.natAbs).length<=200/\(D (rv l).den).length<=200:=by
 obtain⟨q,rfl,h1,h2⟩:=h;rw [iQ];exact⟨rfl,h1,h2⟩
noncomputable def colS(b:List La)(x:La):Int:=
 if ¬BJ x.mn then 2 else if x.mx≠[]/\¬BJ x.mx then 2 else if nameB x.u=false then 8 else if 0<=BD b x.u then 9 else if rv x.mn<0 then 3
 else if x.mx≠[]/\rv x.mx<rv x.mn then 6 else 0
noncomputable def Ko(b:List La):List La→Int
 | []=>0
 | x::r=>if colS b x=0 then Ko (b ++ [x]) r else colS b x
noncomputable def Nq(l:List La):Int:=if l.length=0 then 13 else if 60<l.length then 4 else Ko [] l
theorem Abk{b:List La}{l:List La}{k:Nat}(h:k<l.length)(hb:b=l.take k):Ko b (l.drop k)=if colS b l[k]=0 then Ko (l.take (k+1)) (l.drop (k+1))else colS b l[k]:=by
 rw [List.drop_eq_getElem_cons h,hb,List.take_succ_eq_append_getElem h]
 rfl
theorem YO{b:List La}{u:Bs}{p:Rat}{m:Option Rat}(h1:BJ (R p))(h2:∀q,m=some q→BJ (R q)/\R q≠[]/\p<=q)(h3:nameB u=true)(h4:∀y∈b,y.u≠u)(h5:0<=p) :
  colS b ⟨u,R p,m.elim [] R⟩=0:=by
 have hp:BD b u = -1:=SL fun y hy=>(by simpa using h4 y hy);unfold colS;simp only [hp,h3,iQ];rw [if_neg (by simpa using h1)]
 cases m with
 | none=>
  rw [if_neg (by simp),if_neg (by simp),if_neg (by omega),if_neg (by exact Rat.not_lt.2 h5),if_neg (by simp)]
 | some q=>obtain⟨a1,a2,a3⟩:=h2 q rfl;simp only [Option.elim_some,iQ];rw [if_neg (by simp [a1]),if_neg (by simp),if_neg (by omega),if_neg (by exact Rat.not_lt.2 h5),if_neg (by rintro⟨_,h⟩;exact absurd a3 (Rat.not_le.2 h))]
end Kl
