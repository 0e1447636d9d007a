/- X10: LQ LR LO9. -/
import Derived.Test.YtjalkoacphhgdaaGreatDoorX06
import Derived.Shelf.SlSortCmp.Insertion
import Derived.Lib.SlicesCompact
namespace Kl
open Go Go.Sort
open Go.Proofs (ltOf)
open Go.Lib (compareBytes)
theorem Vg:∀a:Bs,compareBytes a a=0
 | []=>rfl
 | x::a=>by unfold compareBytes;rw [if_neg (UInt8.lt_irrefl x),if_neg (UInt8.lt_irrefl x),Vg a]
theorem P4:∀{a b:Bs},compareBytes a b=0→a=b
 | [],[],_=>rfl
 | [],_::_,h=>by simp [compareBytes]at h
 | _::_,[],h=>by simp [compareBytes]at h
 | x::a,y::b,h=>by
  unfold compareBytes at h;by_cases h1:x<y
  ·rw [if_pos h1]at h;omega
  ·rw [if_neg h1]at h;by_cases h2:y<x
   ·rw [if_pos h2]at h;omega
   ·rw [if_neg h2]at h
    have:x=y:=by apply UInt8.toNat_inj.1;rw [UInt8.lt_iff_toNat_lt]at h1 h2;omega
    rw [this,P4 h]
theorem NW:∀(a b:Bs),compareBytes b a =-compareBytes a b
 | [],[]=>rfl
 | [],_::_=>by simp [compareBytes]
 | _::_,[]=>by simp [compareBytes]
 | x::a,y::b=>by
  unfold compareBytes;have h3:=NW a b;by_cases h1:x<y
  ·have h2:¬y<x:=(by rw [UInt8.lt_iff_toNat_lt]at *;omega);rw [if_pos h1,if_neg h2,if_pos h1];rfl
  ·by_cases h2:y<x
   ·rw [if_pos h2,if_neg h1,if_pos h2]
   ·rw [if_neg h1,if_neg h2,if_neg h2,if_neg h1];exact h3
theorem ZO:∀{a b c:Bs},compareBytes a b<0→compareBytes b c<0→compareBytes a c<0
 | [],_,[],h1,h2=>by
  rename_i b
  have:=NW [] b;omega
 | [],_,_::_,_,_=>by simp [compareBytes]
 | _::_,[],_,h1,_=>by simp [compareBytes]at h1
 | _::_,_::_,[],_,h2=>by simp [compareBytes]at h2
 | x::a,y::b,z::c,h1,h2=>by
  unfold compareBytes at h1 h2 ⊢;simp only [UInt8.lt_iff_toNat_lt]at *;by_cases e1:x.toNat<y.toNat
  ·by_cases e2:y.toNat<z.toNat
   ·rw [if_pos (by omega)];omega
   ·rw [if_neg e2]at h2;by_cases e3:z.toNat<y.toNat
    ·rw [if_pos e3]at h2;omega
    ·rw [if_pos (by omega)];omega
  ·rw [if_neg e1]at h1;by_cases e2:y.toNat<x.toNat
   ·rw [if_pos e2]at h1;omega
   ·rw [if_neg e2]at h1;by_cases e3:y.toNat<z.toNat
    ·rw [if_pos (by omega)];omega
    ·rw [if_neg e3]at h2;by_cases e4:z.toNat<y.toNat
     ·rw [if_pos e4]at h2;omega
     ·rw [if_neg e4]at h2;rw [if_neg (by omega),if_neg (by omega)];exact ZO h1 h2
def BB(c:List La)(a b:Bs):Int:=if Do (AP c b) (AP c a)≠0 then Do (AP c b) (AP c a)else compareBytes a b
theorem AdC(x y:Int):Do x y<0↔x<y:=by unfold Do;split<;>(try split)<;>omega
theorem sU(x y:Int):Do x y=0↔x=y:=by unfold Do;split<;>(try split)<;>omega
theorem RR(c:List La)(a b:Bs):BB c a b<0↔AP c b<AP c a∨(AP c b=AP c a/\compareBytes a b<0):=by
 unfold BB;have h1:=AdC (AP c b) (AP c a);have h2:=sU (AP c b) (AP c a)
 split<;>omega
theorem sV(c:List La)(a b:Bs):BB c a b=0↔a=b:=by
 unfold BB;have h2:=sU (AP c b) (AP c a);constructor
 ·intro h
  split at h
  ·contradiction
  ·exact P4 h
 ·rintro rfl;rw [if_neg (by simp [Do]),Vg]
theorem nc(c:List La)(a b:Bs):ltOf (BB c) a b=true↔AP c b<AP c a∨(AP c b=AP c a/\compareBytes a b<0):=by
 unfold ltOf;rw [decide_eq_true_iff,RR]
theorem ng(c:List La)(a b:Bs):ltOf (BB c) a b=false↔¬(AP c b<AP c a∨(AP c b=AP c a/\compareBytes a b<0)):=by
 rw [←nc];simp
theorem Yx(c:List La):SWO (ltOf (BB c)) where
 irrefl x:=by rw [ng,Vg];omega
 trans x y z h1 h2:=by rw [nc]at *;have:=@ZO x y z;omega
 ntrans x y z h1 h2:=by
  rw [ng]at *;have s1:=NW x y;have s2:=NW y z;have s3:=NW x z;by_cases e1:compareBytes x y=0
  ·have:=P4 e1;subst this;omega
  ·by_cases e2:compareBytes y z=0
   ·have:=P4 e2;subst this;omega
   ·have:=@ZO z y x;omega
theorem zb(c:List La)(x y:Bs)(h1:ltOf (BB c) x y=false)(h2:ltOf (BB c) y x=false):x=y:=by
 have e1:¬BB c x y<0:=(by simpa [ltOf]using h1);have e2:¬BB c y x<0:=(by simpa [ltOf]using h2);rw [RR]at e1 e2;have s1:=NW x y;exact P4 (by omega)
def J3(c:List La)(l:List Bs):List Bs:=l.mergeSort (fun x y=>!ltOf (BB c) y x)
def JU(c:List La)(a b:Bs):Int:=if 0<=AP c a∨0<=AP c b then AP c b-AP c a else compareBytes a b
theorem Alo{c:List La}{a b:Bs}(h:AP c a=AP c b)(h0:0<=AP c a):a=b:=by
 unfold AP C5 at h h0
 cases e1:c.findIdx? (fun x=>x.u == a)with
 | none=>rw [e1]at h0;simp at h0
 | some i=>
  cases e2:c.findIdx? (fun x=>x.u == b)with
  | none=>rw [e1,e2]at h;simp only at h;omega
  | some j=>rw [e1,e2]at h;have Bc:i=j:=(by simp only at h;omega);subst Bc;rw [List.findIdx?_eq_some_iff_getElem]at e1 e2;obtain⟨hi,h1,_⟩:=e1;obtain⟨_,h2,_⟩:=e2;simp only [beq_iff_eq]at h1 h2;rw [←h1,←h2]
theorem sW(c:List La)(a b:Bs):JU c a b<0↔BB c a b<0:=by
 rw [RR];unfold JU;have g1:-1<=AP c a:=Xn _ _;have g2:-1<=AP c b:=Xn _ _;by_cases h:0<=AP c a∨0<=AP c b
 ·rw [if_pos h];constructor
  ·intro h1;exact .inl (by omega)
  ·rintro(h1|⟨h1,h2⟩)
   ·omega
   ·have:=Alo h1.symm (by omega);subst this;rw [Vg]at h2;omega
 ·rw [if_neg h];omega
theorem ltV(c:List La):ltOf (JU c)=ltOf (BB c):=by
 funext a b
 unfold ltOf;rw [Bool.eq_iff_iff,decide_eq_true_iff,decide_eq_true_iff,sW]
end Kl
namespace Kl
open Go Go.Sort
def F3(F:List Bs):List Bs:=Lib.compact ((F.filter (fun s=>s != [])).mergeSort (fun x y=>decide (x<=y)))
def OU:Bs:=[32,116,111,32]
def XC(y:La):Bs:=if y.mx = [] then [45] else y.mx
def GP(u t:Bs)(y:La):Bs:=if y.u=u then y.mn++OU++XC y else t
def textU(c:List La)(u:Bs):Bs:=c.foldl (GP u) []
def RU(c:List La)(i:Nat)(u:Bs):En:=⟨u,[UInt8.ofNat (97+i)],1+((i%5:Nat):Int),textU c u⟩
def D8(c:List La)(l:List Bs):List En:=l.zipIdx.map fun p=>RU c p.2 p.1
theorem P6(c:List La)(l:List Bs):(D8 c l).length=l.length:=by simp [D8]
theorem ZV(c:List La)(l:List Bs){i:Nat}(h:i<l.length)(h':i<(D8 c l).length):(D8 c l)[i]=RU c i l[i]:=by simp [D8]
theorem AdO(c:List La)(l:List Bs){i:Nat}(h:i<l.length):D8 c (l.take (i+1))=D8 c (l.take i) ++ [RU c i l[i]]:=by
 apply List.ext_getElem
 ·simp [P6];omega
 ·intro j h1 h2;rw [P6,List.length_take]at h1;rw [ZV c _ (by simp;omega),List.getElem_take];by_cases hj:j<i
  ·rw [List.getElem_append_left (by rw [P6];simp;omega),ZV c _ (by simp;omega),List.getElem_take]
  ·have:j=i:=(by omega);subst this;have e:(D8 c (l.take j)).length=j:=(by rw [P6,List.length_take];omega);rw [List.getElem_append_right (by omega)];simp
def RV(c:List La)(F:List Bs):Int:=
 if (F3 F).any (fun u=>!nameB u)=true then 8 else if 20<(F3 F).length then 4 else if (D8 c (J3 c (F3 F))).any (fun x=>decide (80<x.t.length))=true then 16 else 0
end Kl
namespace Kl
open Classical
def nm6(i:Nat):Bs:=[UInt8.ofNat (65+i)]
def Q6(a b:Nat):Option Rat:=if b%8=7 then none else some (mkRat (a%4:Nat) 2+mkRat (b%8:Nat) 2)
noncomputable def Q3(f:Nat→Nat×Nat)(i:Nat):La:=⟨nm6 i,R (mkRat ((f (i%4)).1%4:Nat) 2),(Q6 (f (i%4)).1 (f (i%4)).2).elim [] R⟩
noncomputable def Ic(f:Nat→Nat×Nat)(out:List La)(k:Nat):List La:=
 if out.length=4∨out.any (fun x=>x.u == nm6 (k%6))=true then out else out ++ [Q3 f (k%6)]
noncomputable def mk22(f:Nat→Nat×Nat)(ks:List Nat):List La:=ks.foldl (Ic f) []
theorem sZ(x:La):∀(l b:List La),Ez b l=0→colS (b++l) x=0→Ez b (l ++ [x])=0
 | [],b,_,h=>by
  rw [List.append_nil]at h;show (if colS b x=0 then Ez (b ++ [x]) [] else colS b x)=0;rw [if_pos h];rfl
 | y::l,b,h1,h=>by
  by_cases hy:colS b y=0
  ·have e1:Ez b (y::l)=Ez (b ++ [y]) l:=if_pos hy;have e2:Ez b (y::(l ++ [x]))=Ez (b ++ [y]) (l ++ [x]):=if_pos hy;rw [e1]at h1;rw [List.cons_append,e2];exact sZ x l (b ++ [y]) h1 (by rw [List.append_assoc];exact h)
  ·have e1:Ez b (y::l)=colS b y:=if_neg hy;exact absurd (e1▸h1) hy
theorem Akn:∀i<6,nameB (nm6 i)=true:=by decide
theorem q22:∀a<4,(D (mkRat (a:Nat) 2).num.natAbs).length<=200/\(D (mkRat (a:Nat) 2).den).length<=200/\(0:Rat)<=mkRat (a:Nat) 2:=by decide +kernel
theorem s22:∀a<4,∀b<8,(D (mkRat (a:Nat) 2+mkRat (b:Nat) 2).num.natAbs).length<=200/\(D (mkRat (a:Nat) 2+mkRat (b:Nat) 2).den).length<=200/\mkRat (a:Nat) 2<=mkRat (a:Nat) 2+mkRat (b:Nat) 2:=by decide +kernel
theorem AiR(f:Nat→Nat×Nat)(i:Nat)(hi:i<6)(b:List La)(h:∀y∈b,y.u≠nm6 i):colS b (Q3 f i)=0:=by
 unfold Q3;generalize f (i%4)=p;obtain⟨q1,q2,q3⟩:=q22 (p.1%4) (Nat.mod_lt _ (by omega));refine Vl ⟨_,rfl,q1,q2⟩ ?_ (Akn i hi) h q3;intro q hq;unfold Q6 at hq
 split at hq
 ·cases hq
 ·cases hq;obtain⟨s1,s2,s3⟩:=s22 (p.1%4) (Nat.mod_lt _ (by omega)) (p.2%8) (Nat.mod_lt _ (by omega));exact⟨⟨_,rfl,s1,s2⟩,AbH _,s3⟩
structure Re(l:List La):Prop where
 len:l.length<=4
 ok:Ez [] l=0
theorem An0(f:Nat→Nat×Nat){out:List La}(h:Re out)(k:Nat):Re (Ic f out k):=by
 unfold Ic
 split
 ·exact h
 ·rename_i hc
  have h1:out.length≠4:=fun e=>hc (.inl e);have h2:¬out.any (fun x=>x.u == nm6 (k%6))=true:=fun e=>hc (.inr e);refine⟨by have:=h.len;simp;omega,sZ _ _ _ h.ok ?_⟩;rw [List.nil_append];refine AiR f _ (Nat.mod_lt _ (by omega)) out fun y hy e=>h2 ?_;rw [List.any_eq_true];exact⟨y,hy,by simp [e]⟩
theorem vX(f:Nat→Nat×Nat):∀(ks:List Nat) (out:List La),Re out→Re (ks.foldl (Ic f) out)
 | [],_,h=>h
 | k::ks,_,h=>vX f ks _ (An0 f h k)
theorem nl(f:Nat→Nat×Nat)(ks:List Nat):Re (mk22 f ks):=vX f ks [] ⟨by simp,rfl⟩
theorem AjK(f:Nat→Nat×Nat)(ks:List Nat):0<(mk22 f (ks ++ [0])).length:=by
 unfold mk22;rw [List.foldl_append];show 0<(Ic f (ks.foldl (Ic f) []) 0).length;generalize ks.foldl (Ic f) []=out;unfold Ic
 split
 ·rename_i hc
  rcases hc with hc|hc
  ·omega
  ·cases out with
   | nil=>simp at hc
   | cons x l=>simp
 ·simp
theorem AjI(f:Nat→Nat×Nat)(ks:List Nat):KW (mk22 f (ks ++ [0]))=0:=by
 have h:=nl f (ks ++ [0]);have hp:=AjK f ks;unfold KW;rw [if_neg (by omega),if_neg (by have:=h.len;omega)];exact h.ok
theorem AjL(f:Nat→Nat×Nat)(ks:Bs){k:Nat}(h:k<ks.length):mk22 f ((ks.take (k+1)).map (·.toNat))=Ic f (mk22 f ((ks.take k).map (·.toNat))) ks[k].toNat:=by
 unfold mk22;rw [List.take_succ_eq_append_getElem h,List.map_append,List.foldl_append]
 rfl
end Kl
