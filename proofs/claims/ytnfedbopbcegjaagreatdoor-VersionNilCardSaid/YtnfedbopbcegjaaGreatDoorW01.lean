/- W01. -/
import Derived.Lib.ItoaMem
import Derived.Lib.AtoiAll
import Derived.Test.YtnfedbopbcegjaaGreatDoorProg
import Derived.WalkKit
import Derived.BigQuiet
namespace Kl
open Go
abbrev Bs:=List UInt8
def D(n:Nat):Bs:=Lib.decDigits n
def I(z:Int):Bs:=Lib.itoa z
def dv(c:UInt8):Nat:=c.toNat-48
def Dm(a:Nat)(l:Bs):Nat:=l.foldl (fun a c=>a*10+dv c) a
def val(l:Bs):Nat:=Dm 0 l
def EH(c:UInt8):Prop:=48<=c.toNat/\c.toNat<=57
instance (c:UInt8):Decidable (EH c):=by unfold EH;infer_instance
def Cy(l:Bs):Prop:=∀c∈l,EH c
def dg(n:Nat):UInt8:=UInt8.ofNat (48+n)
theorem SB{n:Nat}(h:n<10):(dg n).toNat=48+n:=by
 unfold dg;rw [UInt8.toNat_ofNat'];omega
theorem jC{n:Nat}(h:n<10):dv (dg n)=n:=by unfold dv;rw [SB h];omega
theorem Zp{n:Nat}(h:n<10):EH (dg n):=by unfold EH;rw [SB h];omega
theorem iU{c:UInt8}(h:EH c):dg (dv c)=c:=by
 have h1:=h.1;have h2:=h.2;apply UInt8.toNat_inj.1;rw [SB (by unfold dv;omega)];unfold dv;omega
theorem Wv{c:UInt8}(h:EH c):dv c<10:=by have:=h.2;unfold dv;omega
theorem bJ(a:Nat)(c:UInt8)(l:Bs):Dm a (c::l)=Dm (a*10+dv c) l:=by unfold Dm;rw [List.foldl_cons]
theorem Aht(a:Nat)(l m:Bs):Dm a (l++m)=Dm (Dm a l) m:=by simp [Dm,List.foldl_append]
theorem df(l:Bs):∀a,Dm a l=a*10^l.length+Dm 0 l:=by
 induction l with
 | nil=>intro a;simp [Dm]
 | cons c l ih=>intro a;have h1:=ih (a*10+dv c);have h2:=ih (0*10+dv c);rw [bJ,bJ,h1,h2,List.length_cons,Nat.pow_succ];generalize 10^l.length=p;generalize dv c=d;generalize Dm 0 l=v;rw [Nat.add_mul,Nat.mul_assoc,Nat.mul_comm 10 p,Nat.zero_mul,Nat.zero_add,Nat.add_assoc]
theorem Nf:val []=0:=rfl
theorem val_append(l m:Bs):val (l++m)=val l*10^m.length+val m:=by
 rw [val,Aht,df];rfl
theorem bK(l:Bs)(c:UInt8):val (l ++ [c])=val l*10+dv c:=by
 rw [val_append];simp [val,Dm]
theorem dh(c:UInt8):val [c]=dv c:=by simp [val,Dm]
theorem Ry(c:UInt8)(l:Bs):val (c::l)=dv c*10^l.length+val l:=by
 rw [show c::l = [c]++l from rfl,val_append,dh]
theorem Sp{l m:Bs} : Cy (l++m)↔Cy l/\Cy m:=by
 simp only [Cy,List.mem_append];constructor
 ·intro h;exact⟨fun c hc=>h c (.inl hc),fun c hc=>h c (.inr hc)⟩
 ·rintro⟨a,b⟩ c (hc|hc)
  ·exact a c hc
  ·exact b c hc
theorem Sq{c:UInt8}{l:Bs} : Cy (c::l)↔EH c/\Cy l:=by simp [Cy]
theorem eV:Cy []:=by simp [Cy]
theorem po{l:Bs}(h:Cy l)(k:Nat):Cy (l.take k):=fun c hc=>h c (List.mem_of_mem_take hc)
theorem LU{l:Bs}(h:Cy l):val l<10^l.length:=by
 induction l with
 | nil=>simp [val,Dm]
 | cons c l ih=>rw [Sq]at h;have h1:=ih h.2;have h2:=Wv h.1;rw [Ry,List.length_cons,Nat.pow_succ];have:dv c*10^l.length<=9*10^l.length:=Nat.mul_le_mul_right _ (by omega);omega
theorem EG{n:Nat}(h:n<10):D n = [dg n]:=by unfold D;rw [Lib.decDigits,dif_pos h];rfl
theorem OV{n:Nat}(h:¬n<10):D n=D (n/10) ++ [dg (n%10)]:=by
 unfold D;rw [Lib.decDigits,dif_neg h];rfl
theorem LV(n:Nat):D n≠[]:=by
 by_cases h:n<10
 ·rw [EG h];simp
 ·rw [OV h];simp
theorem Ky(n:Nat):val (D n)=n:=by
 induction n using Nat.strongRecOn with
 | _ n ih=>
  by_cases h:n<10
  ·rw [EG h,dh,jC h]
  ·rw [OV h,bK,ih _ (by omega),jC (by omega)];omega
theorem Ev(n:Nat):Cy (D n):=by
 induction n using Nat.strongRecOn with
 | _ n ih=>
  by_cases h:n<10
  ·rw [EG h];intro c hc;simp at hc;subst hc;exact Zp h
  ·rw [OV h,Sp];refine⟨ih _ (by omega),?_⟩;intro c hc;simp at hc;subst hc;exact Zp (by omega)
theorem R2{a b:Nat}(h:D a=D b):a=b:=by rw [←Ky a,←Ky b,h]
theorem R7(n:Nat):0<(D n).length:=List.length_pos_iff.2 (LV n)
theorem uS(n:Nat):n<10^(D n).length:=by
 have:=LU (Ev n);rwa [Ky]at this
theorem Vl(n:Nat)(h:0<n):∃c l,D n=c::l/\EH c/\c≠48:=by
 induction n using Nat.strongRecOn with
 | _ n ih=>
  by_cases h10:n<10
  ·refine⟨dg n,[],EG h10,Zp h10,?_⟩;intro e;have:(dg n).toNat=48:=(by rw [e];rfl);rw [SB h10]at this;omega
  ·obtain⟨c,l,e,hc,hn⟩:=ih (n/10) (by omega) (by omega);exact⟨c,l ++ [dg (n%10)],by rw [OV h10,e];rfl,hc,hn⟩
theorem wV(n:Nat)(h:0<n):10^((D n).length-1)<=n:=by
 obtain⟨c,l,e,hc,hn⟩:=Vl n h;have h1:val (D n)=n:=Ky n;rw [e,Ry]at h1;rw [e,List.length_cons,Nat.add_sub_cancel]
 have h2:1<=dv c:=by have:=hc.1;have:c.toNat≠48:=fun e=>hn (UInt8.toNat_inj.1 e);unfold dv;omega
 have:1*10^l.length<=dv c*10^l.length:=Nat.mul_le_mul_right _ h2;omega
structure Can(l:Bs):Prop where
 ne:l≠[]
 all:Cy l
 head:∀m,l=48::m→m = []
theorem gG(n:Nat):Can (D n):=by
 refine⟨LV n,Ev n,fun m e=>?_⟩
 rcases Nat.eq_zero_or_pos n with rfl|h
 ·rw [EG (by omega)]at e;simp at e;exact e.2
 ·obtain⟨c,l,e2,_,hn⟩:=Vl n h;rw [e2]at e;simp at e;exact absurd e.1 hn
theorem Hk{n k:Nat}(hk:0<k)(h:n<10^k):(D n).length<=k:=by
 rcases Nat.eq_zero_or_pos n with rfl|h0
 ·rw [EG (by omega)];simp;omega
 ·have h1:=wV n h0;have h2:=R7 n;have:(D n).length-1<k:=(Nat.pow_lt_pow_iff_right (a:=10) (by omega)).1 (Nat.lt_of_le_of_lt h1 h);omega
theorem MS{n k:Nat}(h:(D n).length<=k):n<10^k:=
 Nat.lt_of_lt_of_le (uS n) (Nat.pow_le_pow_right (by omega) h)
theorem cJ{l:Bs}(h:Can l):D (val l)=l:=by
 suffices H:∀(k:Nat) (l:Bs),l.length=k→Can l→D (val l)=l from H _ l rfl h
 clear h l;intro k
 induction k with
 | zero=>intro l hl h;exact absurd (List.eq_nil_of_length_eq_zero hl) h.ne
 | succ k ih=>
  intro l hl h;obtain⟨m,c,rfl⟩:∃m c,l=m ++ [c]:=⟨l.dropLast,l.getLast h.ne,(List.dropLast_concat_getLast h.ne).symm⟩;have NQ:=Sp.1 h.all;have hc:EH c:=NQ.2 c (by simp);have hcl:=Wv hc;rw [bK];by_cases hm:m = []
  ·subst hm;rw [Nf,Nat.zero_mul,Nat.zero_add,EG hcl,iU hc];rfl
  ·have hcm:Can m:=⟨hm,NQ.1,fun q e=>by
    have:=h.head (q ++ [c]) (by rw [e];rfl)
    simp at this⟩
   have hvm:0<val m:=by
    match m,hm,hcm with
    | d::q,_,hcm=>
     have hd:=(Sq.1 hcm.all).1
     have hne:d≠48:=fun e=>by have:=h.head (q ++ [c]) (by rw [e];rfl);simp at this
     have:c.toNat≠48∨True:=.inr trivial
     have h1:1<=dv d:=by have:=hd.1;have:d.toNat≠48:=fun e=>hne (UInt8.toNat_inj.1 e);unfold dv;omega
     rw [Ry];have:1*1<=dv d*10^q.length:=Nat.mul_le_mul h1 (Nat.one_le_pow _ _ (by omega));omega
   have e1:(val m*10+dv c)/10=val m:=(by omega);have e2:(val m*10+dv c)%10=dv c:=(by omega);rw [OV (by omega),e1,e2,ih m (by simpa using hl) hcm,iU hc]
/-! ### Padding -/
/-! ### Pieces, the least first -/
/-! ### Integers -/
theorem EX(n:Nat):I (n:Int)=D n:=by unfold I Lib.itoa D;rw [if_neg (by omega)];simp
theorem VD(n:Nat)(h:0<n):I (-(n:Int))=45::D n:=by unfold I Lib.itoa D;rw [if_pos (by omega)];simp
theorem Ds(z:Int):(∃n:Nat,z=n/\I z=D n)∨(∃n:Nat,0<n/\z = -(n:Int)/\I z=45::D n):=by
 by_cases h:z<0
 ·exact .inr ⟨z.natAbs,by omega,by omega,by have:=VD z.natAbs (by omega);rwa [show -(z.natAbs:Int)=z by omega]at this⟩
 ·exact .inl ⟨z.toNat,by omega,by have:=EX z.toNat;rwa [show (z.toNat:Int)=z by omega]at this⟩
theorem Vm(n:Nat)(m:Bs):D n≠45::m:=by
 intro e;have:=Ev n 45 (by rw [e];simp);exact absurd this (by decide +kernel)
theorem Ns{a b:Int}(h:I a=I b):a=b:=by
 rcases Ds a with⟨n,rfl,e1⟩|⟨n,hn,rfl,e1⟩<;>rcases Ds b with⟨m,rfl,e2⟩|⟨m,hm,rfl,e2⟩
 ·rw [e1,e2]at h;rw [R2 h]
 ·rw [e1,e2]at h;exact absurd h (Vm _ _)
 ·rw [e1,e2]at h;exact absurd h.symm (Vm _ _)
 ·rw [e1,e2]at h;simp at h;rw [R2 h]
theorem VE(z:Int):(47:UInt8)∉I z:=by
 rcases Ds z with⟨n,_,e⟩|⟨n,_,_,e⟩<;>rw [e]
 ·intro h;exact absurd (Ev n _ h) (by decide +kernel)
 ·intro h
  rcases List.mem_cons.1 h with h|h
  ·exact absurd h (by decide +kernel)
  ·exact absurd (Ev n _ h) (by decide +kernel)
/-! ### Fractions -/
def R(q:Rat):Bs:=if q.den=1 then I q.num else I q.num++47::D q.den
theorem eI(z:Int):R (z:Rat)=I z:=by unfold R;rw [if_pos (by simp)];simp
end Kl
namespace Go.Proofs.YtnfedbopbcegjaaGreatDoor
open Go.RowKit Kl
def Aa(w w':World):Prop:=Below w.heap.size w w'
theorem Aa.refl(w:World):Aa w w:=Below.refl _ _
theorem Aa.trans{a b c:World}(h:Aa a b)(k:Aa b c):Aa a c:=Below.trans h (Below.mono k h.size)
theorem Aa.drew{a b:World}(h:Aa a b):Aa a b.drew:=Below.drew h
theorem Aa.drewN{a b:World}(h:Aa a b)(n:Nat):Aa a (b.drewN n):=⟨h.os,h.tape,h.output,h.size,h.block⟩
theorem Aa.alloc{a b:World}(h:Aa a b)(o:Obj):Aa a (b.alloc o):=Below.alloc h h.size o
theorem Aa.setCell{a b:World}(h:Aa a b){p:Addr}(hp:a.heap.size<=p.block)(u:Value):Aa a (b.setCell p u):=Below.setCell h hp u
theorem Aa.size{a b:World}(h:Aa a b):a.heap.size<=b.heap.size:=Below.size h
theorem Aa.cell{w w':World}(h:Aa w w'){p:Addr}(hp:p.block<w.heap.size):w'.cell? p=w.cell? p:=Below.cell h hp
theorem Aa.cellS{w w':World}(h:Aa w w'){p:Addr}{v:Value}(hp:w.cell? p=some v):w'.cell? p=some v:=
 (h.cell (World.block_lt_of_cell? w p hp)).trans hp
theorem Aa.frozen{w w':World}(h:Aa w w'){p:Addr}(hp:p.block<w.heap.size):w'.frozen? p=w.frozen? p:=Below.frozen h hp
theorem Aa.grown{a w w':World}{row:Option Nat}(h:Aa a w)(hg:w.grownBy w' row)(hr:∀k,row=some k→a.heap.size<=k):Aa a w':=
 Below.grown h hg h.size hr
theorem Aa.grownOwn{a w w':World}{B:Nat}{e:TypeId}{s n:Nat}{v:Value}{xs:List Value}(h:Aa a w)(hg:w.grownBy w' v.ownBlock)(ho:w.ownsRow B e s v n xs)(hB:a.heap.size<=B):Aa a w':=
 h.grown hg fun k hk=>Nat.le_trans hB (ho.lt k hk).1
def VW:Nat:=4000
def Big:Nat:=10^VW
abbrev S(l:Bs):Value:=.string ⟨l.toArray⟩
theorem Am{w w':World}{base:Nat}{e:TypeId}{size:Nat}{v:Value}{n:Nat}{xs:List Value}(h:w.ownsRow base e size v n xs)(hx:Aa w w'):w'.ownsRow base e size v n xs:=
 h.kept (row:=none) ⟨hx.os,hx.tape,hx.output,hx.size,fun k hk _=>hx.block k hk⟩ (by cases v.ownBlock<;>simp)
theorem SI(l:Bs)(i j:Nat):(⟨l.toArray⟩:ByteArray).extract i j=⟨((l.drop i).take (j-i)).toArray⟩:=by
 apply ByteArray.ext;rw [ByteArray.data_extract];simp
theorem Aao(l:Bs)(k:Nat):(⟨l.toArray⟩:ByteArray).extract k l.length=⟨(l.drop k).toArray⟩:=by
 rw [SI,List.take_of_length_le (by simp)]
theorem Aif(l:Bs)(k:Nat):(⟨l.toArray⟩:ByteArray).extract 0 k=⟨(l.take k).toArray⟩:=by
 rw [SI];simp
theorem Hd{a:ByteArray}{b:Bs}(h:a=⟨b.toArray⟩):Ending.returned (.string a)=.returned (S b):=by rw [h]
theorem AjJ{α:Sort _}(a:α):∃x,x=a:=⟨a,rfl⟩
theorem AjK{p:Prop}(h:p):Hid p:=Lib.hid h
theorem AjL{w:World}{b:Nat}{o:Obj}(h:w.heap[b]?=some o):b<w.heap.size:=lt_of_block h
theorem AjM(w:World)(o:Obj):(w.alloc o).heap[w.heap.size]?=some o:=heap_alloc_new w o
theorem AjN(n:Nat):n<=n:=Nat.le_refl n
theorem AjO{α:Type _}{l:List α}{n:Nat}(h:n<l.length):l[n]∈l:=List.getElem_mem h
theorem AjP(n:Nat):(n:Int).natAbs=n:=Int.natAbs_natCast n
theorem AjQ{α:Type _}{i:Nat}{l:List α}(h:i<l.length):List.take (i+1) l=List.take i l ++ [l[i]]:=List.take_succ_eq_append_getElem h
theorem AjR{α:Type _}(a b:α):(some a=some b)=(a=b):=Option.some.injEq a b
theorem AjS{α:Type _}{l:List α}{i:Nat}(h:i<l.length):l[i]?=some l[i]:=List.getElem?_eq_getElem h
theorem AjT(n:Int)(h:-9223372036854775808<=n/\n<=9223372036854775807):IntKind.i64.wrap n=n:=IntWalk.i64_in n h
theorem AjU(w:World)(o:Obj):(w.alloc o).heap.size=w.heap.size+1:=World.size_alloc w o
theorem AjV{α:Type _}{i:Nat}{l:List α}(h:l.length<=i):List.take i l=l:=List.take_of_length_le h
theorem AjW{n m k:Nat}(h:n<m)(g:m<=k):n<k:=Nat.lt_of_lt_of_le h g
theorem AjX{n m k:Nat}(h:n<=m)(g:m<=k):n<=k:=Nat.le_trans h g
theorem AjY{α:Type _}{a:α} : ¬a∈[]:=List.not_mem_nil
theorem AjZ{α:Type _}{a b:α} : a∈[b]↔a=b:=List.mem_singleton
theorem Aka{α:Type _}{l:List α}{i:Nat}{a:α} : l[i]?=some a↔∃h,l[i]=a:=List.getElem?_eq_some_iff
theorem Akb{α:Type _}{i:Nat}{b:α}{xs:Array α} : xs[i]?=some b↔∃h,xs[i]=b:=Array.getElem?_eq_some_iff
end Go.Proofs.YtnfedbopbcegjaaGreatDoor
namespace Go.Proofs.YtnfedbopbcegjaaGreatDoor
/-! ### trim -/
/-! ### plus -/
end Go.Proofs.YtnfedbopbcegjaaGreatDoor
namespace Go.Proofs.YtnfedbopbcegjaaGreatDoor
open Go.RowKit Kl
def GG(x y:Nat):Int:=if x<y then -1 else if x=y then 0 else 1
theorem hZ{x y:Nat}(h:x<y):GG x y = -1:=by unfold GG;rw [if_pos h]
theorem gY{x y:Nat}(h:y<x):GG x y=1:=by unfold GG;rw [if_neg (by omega),if_neg (by omega)]
theorem EE{a b:Int}(h:b=a):Ending.returned (.int .i64 a)=.returned (.int .i64 b):=by rw [h]
def AB(n:Int)(w:World)(e:Ending)(w':World):Prop:=e=.returned (.int .i64 n)/\Aa w w'
theorem uW{x y:Nat}(hx:x<1000000000)(hy:y<1000000000):x*y<=999999998000000001:=by
 have h1:x*y<=999999999*999999999:=Nat.mul_le_mul (by omega) (by omega);omega
end Go.Proofs.YtnfedbopbcegjaaGreatDoor
