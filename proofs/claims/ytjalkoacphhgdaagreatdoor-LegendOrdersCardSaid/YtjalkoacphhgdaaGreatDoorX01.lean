/- X01: Num Mag Kit Int1 Int2 Int3 Int4. -/
import Derived.Lib.ItoaMem
import Derived.Lib.AtoiAll
import Derived.Test.YtjalkoacphhgdaaGreatDoorProg
import Derived.WalkKit
import Derived.BigQuiet
set_option maxRecDepth 100000
set_option maxHeartbeats 1000000
namespace Kl
open Go
abbrev Bs:=List UInt8
def D(n:Nat):Bs:=Lib.decDigits n
def I(z:Int):Bs:=Lib.itoa z
def dv(c:UInt8):Nat:=c.toNat-48
def D5(a:Nat)(l:Bs):Nat:=l.foldl (fun a c=>a*10+dv c) a
def val(l:Bs):Nat:=D5 0 l
def FB(c:UInt8):Prop:=48<=c.toNat/\c.toNat<=57
instance (c:UInt8):Decidable (FB c):=by unfold FB;infer_instance
def BD(l:Bs):Prop:=∀c∈l,FB c
def dg(n:Nat):UInt8:=UInt8.ofNat (48+n)
theorem Vr{n:Nat}(h:n<10):(dg n).toNat=48+n:=by
 unfold dg;rw [UInt8.toNat_ofNat'];omega
theorem uC{n:Nat}(h:n<10):dv (dg n)=n:=by unfold dv;rw [Vr h];omega
theorem jB{n:Nat}(h:n<10):FB (dg n):=by unfold FB;rw [Vr h];omega
theorem tR{c:UInt8}(h:FB c):dg (dv c)=c:=by
 have h1:=h.1;have h2:=h.2;apply UInt8.toNat_inj.1;rw [Vr (by unfold dv;omega)];unfold dv;omega
theorem aG{c:UInt8}(h:FB c):dv c<10:=by have:=h.2;unfold dv;omega
theorem mX(a:Nat)(c:UInt8)(l:Bs):D5 a (c::l)=D5 (a*10+dv c) l:=by unfold D5;rw [List.foldl_cons]
theorem Aod(a:Nat)(l m:Bs):D5 a (l++m)=D5 (D5 a l) m:=by simp [D5,List.foldl_append]
theorem Aad(l:Bs):∀a,D5 a l=a*10^l.length+D5 0 l:=by
 induction l with
 | nil=>intro a;simp [D5]
 | cons c l ih=>intro a;have h1:=ih (a*10+dv c);have h2:=ih (0*10+dv c);rw [mX,mX,h1,h2,List.length_cons,Nat.pow_succ];generalize 10^l.length=p;generalize dv c=d;generalize D5 0 l=v;rw [Nat.add_mul,Nat.mul_assoc,Nat.mul_comm 10 p,Nat.zero_mul,Nat.zero_add,Nat.add_assoc]
theorem FS:val []=0:=rfl
theorem val_append(l m:Bs):val (l++m)=val l*10^m.length+val m:=by
 rw [val,Aod,Aad];rfl
theorem mY(l:Bs)(c:UInt8):val (l ++ [c])=val l*10+dv c:=by
 rw [val_append];simp [val,D5]
theorem Aae(c:UInt8):val [c]=dv c:=by simp [val,D5]
theorem QW(c:UInt8)(l:Bs):val (c::l)=dv c*10^l.length+val l:=by
 rw [show c::l = [c]++l from rfl,val_append,Aae]
theorem Py{l m:Bs} : BD (l++m)↔BD l/\BD m:=by
 simp only [BD,List.mem_append];constructor
 ·intro h;exact⟨fun c hc=>h c (.inl hc),fun c hc=>h c (.inr hc)⟩
 ·rintro⟨a,b⟩ c (hc|hc)
  ·exact a c hc
  ·exact b c hc
theorem UV{c:UInt8}{l:Bs} : BD (c::l)↔FB c/\BD l:=by simp [BD]
theorem qN:BD []:=by simp [BD]
theorem Z3{l:Bs}(h:BD l)(k:Nat):BD (l.take k):=fun c hc=>h c (List.mem_of_mem_take hc)
theorem qM{l:Bs}(h:BD l)(k:Nat):BD (l.drop k):=fun c hc=>h c (List.mem_of_mem_drop hc)
theorem GR{l:Bs}(h:BD l):val l<10^l.length:=by
 induction l with
 | nil=>simp [val,D5]
 | cons c l ih=>rw [UV]at h;have h1:=ih h.2;have h2:=aG h.1;rw [QW,List.length_cons,Nat.pow_succ];have:dv c*10^l.length<=9*10^l.length:=Nat.mul_le_mul_right _ (by omega);omega
theorem F7{n:Nat}(h:n<10):D n = [dg n]:=by unfold D;rw [Lib.decDigits,dif_pos h];rfl
theorem Rf{n:Nat}(h:¬n<10):D n=D (n/10) ++ [dg (n%10)]:=by
 unfold D;rw [Lib.decDigits,dif_neg h];rfl
theorem K8(n:Nat):D n≠[]:=by
 by_cases h:n<10
 ·rw [F7 h];simp
 ·rw [Rf h];simp
theorem GQ(n:Nat):val (D n)=n:=by
 induction n using Nat.strongRecOn with
 | _ n ih=>
  by_cases h:n<10
  ·rw [F7 h,Aae,uC h]
  ·rw [Rf h,mY,ih _ (by omega),uC (by omega)];omega
theorem C3(n:Nat):BD (D n):=by
 induction n using Nat.strongRecOn with
 | _ n ih=>
  by_cases h:n<10
  ·rw [F7 h];intro c hc;simp at hc;subst hc;exact jB h
  ·rw [Rf h,Py];refine⟨ih _ (by omega),?_⟩;intro c hc;simp at hc;subst hc;exact jB (by omega)
theorem U1{a b:Nat}(h:D a=D b):a=b:=by rw [←GQ a,←GQ b,h]
theorem OZ(n:Nat):0<(D n).length:=List.length_pos_iff.2 (K8 n)
theorem nh(n:Nat):n<10^(D n).length:=by
 have:=GR (C3 n);rwa [GQ]at this
theorem U0(n:Nat)(h:0<n):∃c l,D n=c::l/\FB c/\c≠48:=by
 induction n using Nat.strongRecOn with
 | _ n ih=>
  by_cases h10:n<10
  ·refine⟨dg n,[],F7 h10,jB h10,?_⟩;intro e;have:(dg n).toNat=48:=(by rw [e];rfl);rw [Vr h10]at this;omega
  ·obtain⟨c,l,e,hc,hn⟩:=ih (n/10) (by omega) (by omega);exact⟨c,l ++ [dg (n%10)],by rw [Rf h10,e];rfl,hc,hn⟩
theorem uh(n:Nat)(h:0<n):10^((D n).length-1)<=n:=by
 obtain⟨c,l,e,hc,hn⟩:=U0 n h;have h1:val (D n)=n:=GQ n;rw [e,QW]at h1;rw [e,List.length_cons,Nat.add_sub_cancel]
 have h2:1<=dv c:=by have:=hc.1;have:c.toNat≠48:=fun e=>hn (UInt8.toNat_inj.1 e);unfold dv;omega
 have:1*10^l.length<=dv c*10^l.length:=Nat.mul_le_mul_right _ h2;omega
structure Can(l:Bs):Prop where
 ne:l≠[]
 all:BD l
 head:∀m,l=48::m→m = []
theorem rV(n:Nat):Can (D n):=by
 refine⟨K8 n,C3 n,fun m e=>?_⟩
 rcases Nat.eq_zero_or_pos n with rfl|h
 ·rw [F7 (by omega)]at e;simp at e;exact e.2
 ·obtain⟨c,l,e2,_,hn⟩:=U0 n h;rw [e2]at e;simp at e;exact absurd e.1 hn
theorem GU{n k:Nat}(hk:0<k)(h:n<10^k):(D n).length<=k:=by
 rcases Nat.eq_zero_or_pos n with rfl|h0
 ·rw [F7 (by omega)];simp;omega
 ·have h1:=uh n h0;have h2:=OZ n;have:(D n).length-1<k:=(Nat.pow_lt_pow_iff_right (a:=10) (by omega)).1 (Nat.lt_of_le_of_lt h1 h);omega
theorem Ko{n k:Nat}(h:(D n).length<=k):n<10^k:=
 Nat.lt_of_lt_of_le (nh n) (Nat.pow_le_pow_right (by omega) h)
theorem Y9{l:Bs}(h:Can l):D (val l)=l:=by
 suffices H:∀(k:Nat) (l:Bs),l.length=k→Can l→D (val l)=l from H _ l rfl h
 clear h l;intro k
 induction k with
 | zero=>intro l hl h;exact absurd (List.eq_nil_of_length_eq_zero hl) h.ne
 | succ k ih=>
  intro l hl h;obtain⟨m,c,rfl⟩:∃m c,l=m ++ [c]:=⟨l.dropLast,l.getLast h.ne,(List.dropLast_concat_getLast h.ne).symm⟩;have Iz:=Py.1 h.all;have hc:FB c:=Iz.2 c (by simp);have hcl:=aG hc;rw [mY];by_cases hm:m = []
  ·subst hm;rw [FS,Nat.zero_mul,Nat.zero_add,F7 hcl,tR hc];rfl
  ·have hcm:Can m:=⟨hm,Iz.1,fun q e=>by
    have:=h.head (q ++ [c]) (by rw [e];rfl)
    simp at this⟩
   have hvm:0<val m:=by
    match m,hm,hcm with
    | d::q,_,hcm=>
     have hd:=(UV.1 hcm.all).1
     have hne:d≠48:=fun e=>by have:=h.head (q ++ [c]) (by rw [e];rfl);simp at this
     have:c.toNat≠48∨True:=.inr trivial
     have h1:1<=dv d:=by have:=hd.1;have:d.toNat≠48:=fun e=>hne (UInt8.toNat_inj.1 e);unfold dv;omega
     rw [QW];have:1*1<=dv d*10^q.length:=Nat.mul_le_mul h1 (Nat.one_le_pow _ _ (by omega));omega
   have e1:(val m*10+dv c)/10=val m:=(by omega);have e2:(val m*10+dv c)%10=dv c:=(by omega);rw [Rf (by omega),e1,e2,ih m (by simpa using hl) hcm,tR hc]
/-! ### Padding -/
def pad(k x:Nat):Bs:=List.replicate (k-(D x).length) 48++D x
theorem Aoh(k:Nat):val (List.replicate k 48)=0:=by
 induction k with
 | zero=>rfl
 | succ k ih=>rw [List.replicate_succ,QW,ih];simp [dv]
theorem Acg(k:Nat):BD (List.replicate k 48):=by
 intro c hc;rw [List.mem_replicate]at hc;rw [hc.2];decide +kernel
theorem Aog(k x:Nat):val (pad k x)=x:=by rw [pad,val_append,Aoh,GQ];simp
theorem Acf(k x:Nat):BD (pad k x):=Py.2 ⟨Acg _,C3 _⟩
theorem mr{k x:Nat}(hk:0<k)(h:x<10^k):(pad k x).length=k:=by
 have:=GU hk h;simp [pad];omega
theorem Aaw{k h x:Nat}(hk:0<k)(hh:0<h)(hx:x<10^k):D (h*10^k+x)=D h++pad k x:=by
 have hc:Can (D h++pad k x):=by refine⟨by simp [K8],Py.2 ⟨C3 _,Acf _ _⟩,fun m e=>?_⟩;obtain⟨c,l,e2,_,hn⟩:=U0 h hh;rw [e2]at e;simp at e;exact absurd e.1 hn
 have:=Y9 hc;rw [val_append,GQ,Aog,mr hk hx]at this;exact this
/-! ### Pieces, the least first -/
def Ag(b:Nat):List Nat→Nat
 | []=>0
 | x::l=>x+b*Ag b l
def wr(k:Nat):List Nat→Bs
 | []=>[]
 | x::l=>wr k l++pad k x
def cl(k:Nat):List Nat→Bs
 | []=>[48]
 | [x]=>D x
 | x::l=>cl k l++pad k x
theorem XO(b:Nat)(l m:List Nat):Ag b (l++m)=Ag b l+b^l.length*Ag b m:=by
 induction l with
 | nil=>simp [Ag]
 | cons x l ih=>simp only [List.cons_append,Ag,ih,List.length_cons,Nat.pow_succ,Nat.mul_add];rw [Nat.mul_comm (b^l.length) b,Nat.mul_assoc];omega
theorem Gq(b:Nat)(l:List Nat)(x:Nat):Ag b (l ++ [x])=Ag b l+b^l.length*x:=by
 rw [XO];simp [Ag]
theorem IA{b:Nat}{l:List Nat}(h:∀x∈l,x<b):Ag b l<b^l.length:=by
 induction l with
 | nil=>simp [Ag]
 | cons x l ih=>have h1:=ih fun y hy=>h y (List.mem_cons_of_mem _ hy);have h2:=h x (by simp);simp only [Ag,List.length_cons,Nat.pow_succ];have:b*(Ag b l+1)<=b*b^l.length:=Nat.mul_le_mul_left _ h1;rw [Nat.mul_add]at this;rw [Nat.mul_comm (b^l.length)];omega
def Im(l:List Nat):Prop:=∀h:l≠[],l.getLast h≠0
theorem zj:Im []:=fun h=>absurd rfl h
theorem Uu{x:Nat}{l:List Nat}(hl:l≠[]):Im (x::l)↔Im l:=by
 constructor
 ·intro h h';have:=h (by simp);rwa [List.getLast_cons hl]at this
 ·intro h _;rw [List.getLast_cons hl];exact h hl
theorem pw{b:Nat}(hb:0<b){l:List Nat}(h:Im l)(hne:l≠[]):0<Ag b l:=by
 induction l with
 | nil=>exact absurd rfl hne
 | cons x l ih=>
  by_cases hl:l = []
  ·subst hl;have:=h (by simp);simp at this;simp [Ag];omega
  ·have h1:=ih ((Uu hl).1 h) hl;have:0<b*Ag b l:=Nat.mul_pos hb h1;simp only [Ag];omega
theorem Ad8{k:Nat}(hk:0<k){l:List Nat}(h:∀x∈l,x<10^k)(ht:Im l):cl k l=D (Ag (10^k) l):=by
 induction l with
 | nil=>rw [cl,Ag,F7 (by omega)];rfl
 | cons x l ih=>
  cases l with
  | nil=>simp [cl,Ag]
  | cons y l=>have jg:=(Uu (x:=x) (l:=y::l) (by simp)).1 ht;have h':∀z∈y::l,z<10^k:=fun z hz=>h z (List.mem_cons_of_mem _ hz);have hp:=pw (Nat.pow_pos (n:=k) (by omega:0<10)) jg (by simp);rw [cl,ih h' jg,←Aaw hk hp (h x (by simp)),Nat.mul_comm,Nat.add_comm];rfl;simp
/-! ### Integers -/
theorem Ec(n:Nat):I (n:Int)=D n:=by unfold I Lib.itoa D;rw [if_neg (by omega)];simp
theorem UK(n:Nat)(h:0<n):I (-(n:Int))=45::D n:=by unfold I Lib.itoa D;rw [if_pos (by omega)];simp
theorem DO(z:Int):(∃n:Nat,z=n/\I z=D n)∨(∃n:Nat,0<n/\z = -(n:Int)/\I z=45::D n):=by
 by_cases h:z<0
 ·exact .inr ⟨z.natAbs,by omega,by omega,by have:=UK z.natAbs (by omega);rwa [show -(z.natAbs:Int)=z by omega]at this⟩
 ·exact .inl ⟨z.toNat,by omega,by have:=Ec z.toNat;rwa [show (z.toNat:Int)=z by omega]at this⟩
theorem Y8(n:Nat)(m:Bs):D n≠45::m:=by
 intro e;have:=C3 n 45 (by rw [e];simp);exact absurd this (by decide +kernel)
theorem Pj{a b:Int}(h:I a=I b):a=b:=by
 rcases DO a with⟨n,rfl,e1⟩|⟨n,hn,rfl,e1⟩<;>rcases DO b with⟨m,rfl,e2⟩|⟨m,hm,rfl,e2⟩
 ·rw [e1,e2]at h;rw [U1 h]
 ·rw [e1,e2]at h;exact absurd h (Y8 _ _)
 ·rw [e1,e2]at h;exact absurd h.symm (Y8 _ _)
 ·rw [e1,e2]at h;simp at h;rw [U1 h]
theorem Ab1(z:Int):I z≠[]:=by
 rcases DO z with⟨n,_,e⟩|⟨n,_,_,e⟩<;>rw [e]
 ·exact K8 n
 ·simp
theorem Zj(z:Int):(47:UInt8)∉I z:=by
 rcases DO z with⟨n,_,e⟩|⟨n,_,_,e⟩<;>rw [e]
 ·intro h;exact absurd (C3 n _ h) (by decide +kernel)
 ·intro h
  rcases List.mem_cons.1 h with h|h
  ·exact absurd h (by decide +kernel)
  ·exact absurd (C3 n _ h) (by decide +kernel)
/-! ### Fractions -/
def R(q:Rat):Bs:=if q.den=1 then I q.num else I q.num++47::D q.den
theorem AbE(z:Int):R (z:Rat)=I z:=by unfold R;rw [if_pos (by simp)];simp
end Kl
namespace Kl
def pc(b:Nat)(n:Nat):List Nat:=
 if _h:2<=b/\0<n then (n%b)::pc b (n/b)else []
 termination_by n
 decreasing_by exact Nat.div_lt_self _h.2 _h.1
theorem ID{b:Nat} : pc b 0 = []:=by rw [pc,dif_neg (by simp)]
theorem Uf{b:Nat}(hb:2<=b){n:Nat}(h:0<n):pc b n=(n%b)::pc b (n/b):=by rw [pc,dif_pos ⟨hb,h⟩]
theorem AZ{b:Nat}(hb:2<=b)(n:Nat):Ag b (pc b n)=n:=by
 induction n using Nat.strongRecOn with
 | _ n ih=>
  rcases Nat.eq_zero_or_pos n with rfl|h
  ·rw [ID];rfl
  ·rw [Uf hb h,Ag,ih _ (Nat.div_lt_self h hb)];exact Nat.mod_add_div n b
theorem Bl{b:Nat}(hb:2<=b)(n:Nat):∀x∈pc b n,x<b:=by
 induction n using Nat.strongRecOn with
 | _ n ih=>
  rcases Nat.eq_zero_or_pos n with rfl|h
  ·rw [ID];simp
  ·rw [Uf hb h];intro x hx
   rcases List.mem_cons.1 hx with rfl|hx
   ·exact Nat.mod_lt _ (by omega)
   ·exact ih _ (Nat.div_lt_self h hb) x hx
theorem QF{b:Nat}(hb:2<=b){n:Nat} : pc b n = []↔n=0:=by
 constructor
 ·intro h;have:=AZ hb n;rw [h]at this;exact this.symm
 ·rintro rfl;exact ID
theorem Gv{b:Nat}(hb:2<=b)(n:Nat):Im (pc b n):=by
 induction n using Nat.strongRecOn with
 | _ n ih=>
  rcases Nat.eq_zero_or_pos n with rfl|h
  ·rw [ID];exact zj
  ·rw [Uf hb h];by_cases hl:pc b (n/b) = []
   ·rw [hl];intro _;have:=(QF hb).1 hl;have h2:=Nat.mod_add_div n b;rw [this]at h2;simp at h2 ⊢;omega
   ·exact(Uu hl).2 (ih _ (Nat.div_lt_self h hb))
theorem sw{b:Nat}(hb:2<=b):∀{l:List Nat},(∀x∈l,x<b)→Im l→pc b (Ag b l)=l
 | [],_,_=>ID
 | x::l,h,ht=>by
  have hx:=h x (by simp);have BW:=pw (by omega:0<b) ht (by simp);have e1:(x+b*Ag b l)%b=x:=(by rw [Nat.add_mul_mod_self_left];exact Nat.mod_eq_of_lt hx);have e2:(x+b*Ag b l)/b=Ag b l:=by rw [Nat.add_mul_div_left _ _ (by omega),Nat.div_eq_of_lt hx,Nat.zero_add]
  have Fq:Im l:=by
   by_cases hl:l = []
   ·subst hl;exact zj
   ·exact(Uu hl).1 ht
  rw [Ag]at BW ⊢;rw [Uf hb BW,e1,e2,sw hb (fun y hy=>h y (List.mem_cons_of_mem _ hy)) Fq]
theorem lF{b:Nat}{l:List Nat}(ht:Im l)(hne:l≠[]):b^(l.length-1)<=Ag b l:=by
 induction l with
 | nil=>exact absurd rfl hne
 | cons x l ih=>
  by_cases hl:l = []
  ·subst hl;have:=ht (by simp);simp at this;simp [Ag];omega
  ·have h1:=ih ((Uu hl).1 ht) hl;have hlen:0<l.length:=List.length_pos_iff.2 hl;rw [Ag,List.length_cons,Nat.add_sub_cancel,show l.length=l.length-1+1 by omega,Nat.pow_succ,Nat.mul_comm];have:=Nat.mul_le_mul_left b h1;omega
theorem OO{b:Nat}(hb:2<=b){n k:Nat}(h:n<b^k):(pc b n).length<=k:=by
 by_cases hn:pc b n = []
 ·rw [hn];simp
 ·have h1:=lF (b:=b) (Gv hb n) hn;rw [AZ hb]at h1;have:(pc b n).length-1<k:=(Nat.pow_lt_pow_iff_right (a:=b) (by omega)).1 (Nat.lt_of_le_of_lt h1 h);omega
theorem lA{b:Nat}(hb:2<=b){n:Nat}(h0:0<n)(h:n<b):pc b n = [n]:=by
 rw [Uf hb h0,Nat.mod_eq_of_lt h,Nat.div_eq_of_lt h,ID]
theorem pq{b:Nat} : ∀{l m:List Nat} (i:Nat),(∀x∈l,x<b)→(∀x∈m,x<b)→l.length=m.length→i<l.length→
  l.drop (i+1)=m.drop (i+1)→l.getD i 0<m.getD i 0→Ag b l<Ag b m:=by
 intro l m i hl hm hlen hi hd hlt
 have e1:l=l.take i++l.getD i 0::l.drop (i+1):=by
  conv=>lhs;rw [←List.take_append_drop i l]
  rw [List.drop_eq_getElem_cons hi];simp [List.getD,hi]
 have Lu:i<m.length:=by omega
 have e2:m=m.take i++m.getD i 0::m.drop (i+1):=by
  conv=>lhs;rw [←List.take_append_drop i m]
  rw [List.drop_eq_getElem_cons Lu];simp [List.getD,Lu]
 rw [e1,e2,XO,XO,hd]
 have h1:Ag b (l.take i)<b^i:=by
  have:=IA (l:=l.take i) (b:=b) fun x hx=>hl x (List.mem_of_mem_take hx)
  rwa [List.length_take,Nat.min_eq_left (by omega)]at this
 have el:(l.take i).length=i:=(by rw [List.length_take];omega);have em:(m.take i).length=i:=(by rw [List.length_take];omega);rw [el,em];simp only [Ag];generalize Ag b (m.drop (i+1))=T;generalize l.getD i 0=x at *;generalize m.getD i 0=y at *;generalize b^i=p at *;have:p*(x+1)<=p*y:=Nat.mul_le_mul_left _ hlt;rw [Nat.mul_add,Nat.mul_add];rw [Nat.mul_add]at this;omega
theorem pu{b:Nat}(hb:2<=b){l m:List Nat}(hl:∀x∈l,x<b)(ht:Im m)(h:l.length<m.length):Ag b l<Ag b m:=by
 have hne:m≠[]:=fun e=>(by rw [e]at h;simp at h);have h1:=IA hl;have h2:=lF (b:=b) ht hne;have:b^l.length<=b^(m.length-1):=Nat.pow_le_pow_right (by omega) (by omega);omega
end Kl
namespace Go.Proofs.YtjalkoacphhgdaaGreatDoor
open Go.RowKit Kl
def Aa(w w':World):Prop:=Below w.heap.size w w'
theorem Aa.refl(w:World):Aa w w:=Below.refl _ _
theorem Aa.trans{a b c:World}(h:Aa a b)(k:Aa b c):Aa a c:=Below.trans h (Below.mono k h.size)
theorem Aa.drew{a b:World}(h:Aa a b):Aa a b.drew:=Below.drew h
theorem Aa.drewN{a b:World}(h:Aa a b)(n:Nat):Aa a (b.drewN n):=⟨h.os,h.tape,h.output,h.size,h.block⟩
theorem Aa.alloc{a b:World}(h:Aa a b)(o:Obj):Aa a (b.alloc o):=Below.alloc h h.size o
theorem Aa.setCell{a b:World}(h:Aa a b){p:Addr}(hp:a.heap.size<=p.block)(u:Value):Aa a (b.setCell p u):=Below.setCell h hp u
theorem Aa.size{a b:World}(h:Aa a b):a.heap.size<=b.heap.size:=Below.size h
theorem Aa.cell{w w':World}(h:Aa w w'){p:Addr}(hp:p.block<w.heap.size):w'.cell? p=w.cell? p:=Below.cell h hp
theorem Aa.cellS{w w':World}(h:Aa w w'){p:Addr}{v:Value}(hp:w.cell? p=some v):w'.cell? p=some v:=
 (h.cell (World.block_lt_of_cell? w p hp)).trans hp
theorem Aa.frozen{w w':World}(h:Aa w w'){p:Addr}(hp:p.block<w.heap.size):w'.frozen? p=w.frozen? p:=Below.frozen h hp
theorem Aa.grown{a w w':World}{row:Option Nat}(h:Aa a w)(hg:w.grownBy w' row)(hr:∀k,row=some k→a.heap.size<=k):Aa a w':=
 Below.grown h hg h.size hr
theorem Aa.grownOwn{a w w':World}{B:Nat}{e:TypeId}{s n:Nat}{v:Value}{xs:List Value}(h:Aa a w)(hg:w.grownBy w' v.ownBlock)(ho:w.ownsRow B e s v n xs)(hB:a.heap.size<=B):Aa a w':=
 h.grown hg fun k hk=>Nat.le_trans hB (ho.lt k hk).1
theorem Aa.cells{W w1:World}(h:Aa W w1):(∀b o,b<W.heap.size→w1.cell? ⟨b,o,none⟩=W.cell? ⟨b,o,none⟩)/\(∀b o,b<W.heap.size→w1.frozen? ⟨b,o,none⟩=W.frozen? ⟨b,o,none⟩):=
 ⟨fun b o hb=>h.cell (p:=⟨b,o,none⟩) hb,fun b o hb=>h.frozen (p:=⟨b,o,none⟩) hb⟩
def Vb:Nat:=4000
def Big:Nat:=10^Vb
abbrev S(l:Bs):Value:=.string ⟨l.toArray⟩
def Ah(l:List Nat)(i:Nat):Nat:=l.getD i 0
theorem Cj{l:List Nat}{b i:Nat}(h:∀x∈l,x<b)(hi:i<l.length):Ah l i<b:=by
 unfold Ah;rw [List.getD_eq_getElem?_getD,List.getElem?_eq_getElem hi];exact h _ (List.getElem_mem hi)
theorem Md{l:List Nat}{k:Nat}(h:k<l.length):l.take (k+1)=l.take k ++ [Ah l k]:=by
 rw [List.take_succ_eq_append_getElem h];simp [Ah,h]
structure BI(w:World)(A:Option Addr)(c:Nat)(l:List Nat):Prop where
 cap:l.length<=c
 max:c<=9223372036854775807
 len:l.length<=100000
 ad:0<l.length→∃b o,A=some ⟨b,o,none⟩/\∀j,j<l.length→w.cell? ⟨b,o+j,none⟩=some (.int .u64 (Ah l j:Nat))
def Rd(w:World)(v:Value)(l:List Nat):Prop:=∃A c,v=.slice A l.length c/\BI w A c l
theorem BI.ext{w w':World}{A:Option Addr}{c:Nat}{l:List Nat}(h:BI w A c l)(hx:Aa w w'):BI w' A c l:=
 ⟨h.cap,h.max,h.len,fun h0=>by
  obtain⟨b,o,e,hc⟩:=h.ad h0
  exact⟨b,o,e,fun j hj=>hx.cellS (hc j hj)⟩⟩
theorem Rd.ext{w w':World}{v:Value}{l:List Nat}(h:Rd w v l)(hx:Aa w w'):Rd w' v l:=by
 obtain⟨A,c,e,h⟩:=h;exact⟨A,c,e,h.ext hx⟩
def Bi(l:List Nat):List Value:=l.map fun x=>.int .u64 (x:Nat)
theorem Rd.of_own{w:World}{base:Nat}{e:TypeId}{v:Value}{l:List Nat}(h:w.ownsRow base e 1 v l.length (Bi l))(hl:l.length<=100000):Rd w v l:=by
 rcases h.2 with⟨rfl,h0⟩|⟨g,cap,cur,rfl,_,_,hn,hm,_,_⟩
 ·exact⟨none,0,by rw [h0],by omega,by omega,hl,fun h=>by omega⟩
 ·refine⟨some ⟨g,0,none⟩,cap,rfl,hn,hm,hl,fun _=>⟨g,0,rfl,fun j hj=>?_⟩⟩;have hj':(Bi l)[j]?=some (.int .u64 (Ah l j:Nat)):=(by simp [Bi,Ah,hj]);have:=h.cells (g:=g) rfl j _ hj'
  rwa [Addr.add_lit]at this
theorem Tryz.infoU:(Tryz.prog.info? 184).map (fun i=>(i.zero,i.size,i.bytes))=some (some (.int .u64 0),1,8):=by kernel_rfl
def NT(n:Nat)(w:World)(e:Ending)(w':World):Prop:=∃v,e=.returned v/\Rd w' v (pc 1000000000 n)/\Aa w w'
def RB(n:Nat)(w:World)(e:Ending)(w':World):Prop:=∃v,e=.returned v/\Rd w' v (pc 1000000000 n)/\Aa w w'/\∀b,v.ownBlock=some b→w.heap.size<=b
theorem RB.plain{n:Nat}{w:World}{e:Ending}{w':World}(h:RB n w e w'):NT n w e w':=by
 obtain⟨v,h1,h2,h3,_⟩:=h;exact⟨v,h1,h2,h3⟩
theorem XB(n:Nat)(hn:n<=200000)(c:Int)(hc:c=(n:Int))(W:World) :
  (Instr.makeSlice 278 (.int .i64 0) (.int .i64 c)).run Tryz.prog W=.ok (.slice (some ⟨W.heap.size,0,none⟩) 0 n) (W.alloc (.cells (madeCells #[.int .u64 0] n) 184)):=by
 subst hc;obtain⟨i0,hi,hz0,hz1,hz2⟩:=info_parts Tryz.infoU;have h:=run_make (P:=Tryz.prog) W 278 184 i0 (.int .u64 0) Tryz.underlying278 hi hz0 .i64 .i64 0 n (Int.le_refl _) (by omega) (by rw [hz2];omega) (by omega);rw [hz1,Nat.mul_one]at h;simp only [Int.toNat_zero,Int.toNat_natCast]at h;exact h
theorem XY(W:World)(base n:Nat)(hb:base<=W.heap.size)(hn:n<=200000) :
  (W.alloc (.cells (madeCells #[.int .u64 0] n) 184)).ownsRow base 184 1 (.slice (some ⟨W.heap.size,0,none⟩) 0 n) 0 []:=
 World.ownsRow_made W _ n hb (by unfold maxLen;omega) (by rw [size_madeCells];omega)
theorem jS(n:Nat)(hn:n<=200000)(c:Int)(hc:c=(n:Int))(W:World) :
  (Instr.makeSlice 278 (.int .i64 c) (.int .i64 c)).run Tryz.prog W=.ok (.slice (some ⟨W.heap.size,0,none⟩) n n) (W.alloc (.cells (madeCells #[.int .u64 0] n) 184)):=by
 subst hc;obtain⟨i0,hi,hz0,hz1,hz2⟩:=info_parts Tryz.infoU;have h:=run_make (P:=Tryz.prog) W 278 184 i0 (.int .u64 0) Tryz.underlying278 hi hz0 .i64 .i64 n n (by omega) (by omega) (by rw [hz2];omega) (by omega);rw [hz1,Nat.mul_one]at h;simp only [Int.toNat_natCast]at h;exact h
theorem kW(W:World)(base n:Nat)(hb:base<=W.heap.size)(hn:n<=200000) :
  (W.alloc (.cells (madeCells #[.int .u64 0] n) 184)).ownsRow base 184 1 (.slice (some ⟨W.heap.size,0,none⟩) n n) n (Bi (List.replicate n 0)):=by
 have h:=World.ownsRow_lit (w:=W) (base:=base) (e:=184) (size:=1) (madeCells #[.int .u64 0] n) n hb (by unfold maxLen;omega) (by rw [size_madeCells];omega);rw [toList_madeCells_one]at h
 simpa [Bi]using h
section
variable {P : Program} {ops : Array Oper} {rest : List Oper} {o : Oper} {a : Act} {Q : Exit → Act → World → Prop}
theorem Aak{K:Act→World→Prop}(s x:Operand)(ho:o.op=.call {callee:=.builtin .append,args:=#[s,x],argTypes:=#[278,278]})
  (wr:World) (base:Nat) (v:Value) (n:Nat) (xs:List Nat) (hs:a.eval s=v) (hown:wr.ownsRow base 184 1 v n (Bi xs)) (hn:n<200000) (z:Int) (y:Nat) (hz:z=(y:Int))
  (hx:a.eval x=.slice (some ⟨wr.heap.size,0,none⟩) 1 1) (hbase:base<=wr.heap.size)
  (h:∀v' w',w'.ownsRow base 184 1 v' (n+1) (Bi (xs ++ [y]))→(∀w0,Aa w0 wr→w0.heap.size<=base→Aa w0 w')→K (a.put o.dst v') w') :
  o.wp Tryz.prog a (wr.alloc (.cells #[.int .u64 z] 184)) K Q:=by
 obtain⟨i0,hi,hz0,hz1,hz2⟩:=info_parts Tryz.infoU;subst hz;refine wp_append_own _ s x 278 ho base 184 i0 (.int .u64 0) 1 8 Tryz.underlying278 hi hz0 hz1 hz2 rfl (by omega) v n (Bi xs) hs (hown.alloc _) ⟨wr.heap.size,0,none⟩ 1 1 [.int .u64 (y:Nat)] hx rfl ?_ ?_ ?_ ?_ ?_ ?_
 ·intro j u hu
  match j,hu with
  | 0,hu=>
   simp only [List.getElem?_cons_zero,Option.some.injEq]at hu;subst hu;rw [Addr.add_lit,World.cell?_alloc_at _ _ _ _ (by simp)]
   rfl
  | j+1,hu=>simp at hu
 ·intro u hu;simp only [List.mem_singleton]at hu;subst hu;rfl
 ·unfold maxLen;omega
 ·omega
 ·simp;omega
 ·intro v' w' h2 h3 _;refine h v' w' (by simpa [Bi]using h2) fun w0 he hb=>?_;exact(he.alloc _).grownOwn h3 (hown.alloc _) hb
theorem app1(hgd:o.guard=none)(s x:Operand)(ho:o.op=.call {callee:=.builtin .append,args:=#[s,x],argTypes:=#[278,278]})
  (wr:World) (base:Nat) (v:Value) (n:Nat) (xs:List Nat) (hs:a.eval s=v) (hown:wr.ownsRow base 184 1 v n (Bi xs)) (hn:n<200000) (z:Int) (y:Nat) (hz:z=(y:Int))
  (hx:a.eval x=.slice (some ⟨wr.heap.size,0,none⟩) 1 1) (hbase:base<=wr.heap.size)
  (h:∀v' w',w'.ownsRow base 184 1 v' (n+1) (Bi (xs ++ [y]))→(∀w0,Aa w0 wr→w0.heap.size<=base→Aa w0 w')→wpList Tryz.prog ops Q rest (a.put o.dst v') w') :
  wpList Tryz.prog ops Q (o::rest) a (wr.alloc (.cells #[.int .u64 z] 184)):=
 wpList_plain hgd fun _ hK=>Aak s x ho wr base v n xs hs hown hn z y hz hx hbase fun v' w' h2 h3=>hK _ _ (h v' w' h2 h3)
theorem yu{K:Act→World→Prop}{E:Prop}(hgd:o.guard=none)(s x:Operand)(ho:o.op=.call {callee:=.builtin .append,args:=#[s,x],argTypes:=#[278,278]})
  (wr:World) (base:Nat) (v:Value) (n:Nat) (xs:List Nat) (hs:a.eval s=v) (hown:wr.ownsRow base 184 1 v n (Bi xs)) (hn:n<200000) (z:Int) (y:Nat) (hz:z=(y:Int))
  (hx:a.eval x=.slice (some ⟨wr.heap.size,0,none⟩) 1 1) (hbase:base<=wr.heap.size)
  (h:∀v' w',w'.ownsRow base 184 1 v' (n+1) (Bi (xs ++ [y]))→(∀w0,Aa w0 wr→w0.heap.size<=base→Aa w0 w')→K (a.put o.dst v') w') :
  if Region.wanted o (yielded ops a.tmps)=true then Oper.wp Tryz.prog o a (wr.alloc (.cells #[.int .u64 z] 184)) K Q else E:=by
 have hw:Region.wanted o (yielded ops a.tmps)=true:=(by simp [Region.wanted,hgd]);rw [if_pos hw];exact Aak s x ho wr base v n xs hs hown hn z y hz hx hbase h
end
theorem AC{w w':World}{base:Nat}{e:TypeId}{size:Nat}{v:Value}{n:Nat}{xs:List Value}(h:w.ownsRow base e size v n xs)(hx:Aa w w'):w'.ownsRow base e size v n xs:=
 h.kept (row:=none) ⟨hx.os,hx.tape,hx.output,hx.size,fun k hk _=>hx.block k hk⟩ (by cases v.ownBlock<;>simp)
theorem XV{w:World}{base:Nat}{e:TypeId}{size:Nat}{v:Value}{n:Nat}{xs:List Value}(h:w.ownsRow base e size v n xs):w.drew.ownsRow base e size v n xs:=h
theorem So(l:Bs)(i j:Nat):(⟨l.toArray⟩:ByteArray).extract i j=⟨((l.drop i).take (j-i)).toArray⟩:=by
 apply ByteArray.ext;rw [ByteArray.data_extract];simp
theorem aP(l:Bs)(k:Nat):(⟨l.toArray⟩:ByteArray).extract k l.length=⟨(l.drop k).toArray⟩:=by
 rw [So,List.take_of_length_le (by simp)]
theorem uY(l:Bs)(k:Nat):(⟨l.toArray⟩:ByteArray).extract 0 k=⟨(l.take k).toArray⟩:=by
 rw [So];simp
theorem Gt{a:ByteArray}{b:Bs}(h:a=⟨b.toArray⟩):Ending.returned (.string a)=.returned (S b):=by rw [h]
theorem AqG{α:Sort _}(a:α):∃x,x=a:=⟨a,rfl⟩
theorem AqH{p:Prop}(h:p):Hid p:=Lib.hid h
theorem AqI{w:World}{b:Nat}{o:Obj}(h:w.heap[b]?=some o):b<w.heap.size:=lt_of_block h
theorem AqJ(w:World)(o:Obj):(w.alloc o).heap[w.heap.size]?=some o:=heap_alloc_new w o
theorem AqK(n:Nat):n<=n:=Nat.le_refl n
theorem AqL{α:Type _}{l:List α}{n:Nat}(h:n<l.length):l[n]∈l:=List.getElem_mem h
theorem AqM(n:Nat):(n:Int).natAbs=n:=Int.natAbs_natCast n
theorem AqN{α:Type _}{i:Nat}{l:List α}(h:i<l.length):List.take (i+1) l=List.take i l ++ [l[i]]:=List.take_succ_eq_append_getElem h
theorem AqO{α:Type _}(a b:α):(some a=some b)=(a=b):=Option.some.injEq a b
theorem AqP{α:Type _}{l:List α}{i:Nat}(h:i<l.length):l[i]?=some l[i]:=List.getElem?_eq_getElem h
theorem AqQ(n:Int)(h:-9223372036854775808<=n/\n<=9223372036854775807):IntKind.i64.wrap n=n:=IntWalk.i64_in n h
theorem AqR(w:World)(o:Obj):(w.alloc o).heap.size=w.heap.size+1:=World.size_alloc w o
theorem AqS{α:Type _}{i:Nat}{l:List α}(h:l.length<=i):List.take i l=l:=List.take_of_length_le h
theorem AqT{n m k:Nat}(h:n<m)(g:m<=k):n<k:=Nat.lt_of_lt_of_le h g
theorem AqU{n m k:Nat}(h:n<=m)(g:m<=k):n<=k:=Nat.le_trans h g
theorem AqV{α:Type _}{a:α} : ¬a∈[]:=List.not_mem_nil
theorem AqW{α:Type _}{a b:α} : a∈[b]↔a=b:=List.mem_singleton
theorem AqX{α:Type _}{l:List α}{i:Nat}{a:α} : l[i]?=some a↔∃h,l[i]=a:=List.getElem?_eq_some_iff
theorem AqY{α:Type _}{i:Nat}{b:α}{xs:Array α} : xs[i]?=some b↔∃h,xs[i]=b:=Array.getElem?_eq_some_iff
/-! ### trim -/
def EZ(l:List Nat)(k:Nat):Prop:=k<=l.length/\∀j,k<=j→j<l.length→Ah l j=0
theorem EZ.start(l:List Nat):EZ l l.length:=⟨AqK _,fun j h1 h2=>by omega⟩
theorem EZ.step{l:List Nat}{k:Nat}(h:EZ l k)(_h0:k≠0)(hx:Ah l (k-1)=0):EZ l (k-1):=
 ⟨by have:=h.1;omega,fun j h1 h2=>by
  by_cases e:j=k-1
  ·rw [e];exact hx
  ·exact h.2 j (by omega) h2⟩
theorem kF{b:Nat} : ∀{l:List Nat},(∀j,j<l.length→Ah l j=0)→Ag b l=0
 | [],_=>rfl
 | x::l,h=>by have hx:x=0:=h 0 (by simp);have:=kF (b:=b) (l:=l) fun j hj=>(by have:=h (j+1) (by simpa using hj);simpa [Ah]using this);rw [Ag,this,hx];simp
theorem EZ.sum{l:List Nat}{k b:Nat}(h:EZ l k):Ag b (l.take k)=Ag b l:=by
 conv=>rhs;rw [←List.take_append_drop k l,XO]
 rw [kF (l:=l.drop k)]
 ·simp
 ·intro j hj;have:=h.2 (k+j) (by omega) (by simp at hj;omega)
  simpa [Ah]using this
theorem EZ.done{l:List Nat}{k:Nat}(h:EZ l k)(hl:∀x∈l,x<1000000000)(hx:k=0∨Ah l (k-1)≠0):l.take k=pc 1000000000 (Ag 1000000000 l):=by
 rw [←h.sum (b:=1000000000)];refine(sw (by omega) (fun x hm=>hl x (List.mem_of_mem_take hm)) ?_).symm;intro hne
 rcases hx with rfl|hx
 ·simp at hne
 ·have hk:=h.1
  have h0:0<k:=by
   rcases Nat.eq_zero_or_pos k with rfl|h0
   ·simp at hne
   ·exact h0
  rw [List.getLast_take];have e:l[k-1]?=some (l[k-1]'(by omega)):=AqP (by omega);rw [e];simp [Ah,List.getD,e]at hx ⊢;exact hx
theorem Rd.take{w:World}{A:Option Addr}{c:Nat}{l:List Nat}(h:BI w A c l){k:Nat}(hk:k<=l.length):Rd w (.slice A k c) (l.take k):=by
 have e:(l.take k).length=k:=(by rw [List.length_take];omega);refine⟨A,c,by rw [e],by have:=h.cap;omega,h.max,by have:=h.len;omega,fun h0=>?_⟩;obtain⟨b,o,e1,hc⟩:=h.ad (by omega);refine⟨b,o,e1,fun j hj=>?_⟩
 have:Ah (l.take k) j=Ah l j:=by rw [e]at hj;simp [Ah,hj]
 rw [this];exact hc j (by omega)
theorem trim_c(l:List Nat)(v:Value)(w:World)(hv:Rd w v l)(hl:∀x∈l,x<1000000000) :
  Calls Tryz.prog 282 #[v] w (NT (Ag 1000000000 l) w):=by
 obtain⟨A,c,rfl,hr⟩:=hv;have C4:=hr.cap;have hmax:=hr.max;have hlen:=hr.len;go_enter Tryz.func282,Tryz.ntmps282;go_wp2
 go_loop [0] (fun v=>∃k:Nat,EZ l k/\v=.slice A k c) (fun v=>match v with | .slice _ n _=>n|_=>0)
 case atStart=>exact⟨l.length,EZ.start l,rfl⟩
 case round=>
  obtain⟨k,hk,rfl⟩:=hrel;have Cr:=hk.1;by_cases h0:k=0
  ·subst h0;go_wp2;go_ret;exact⟨_,rfl,by rw [←hk.done hl (.inl rfl)];exact Rd.take hr (by omega),Aa.refl _⟩
  ·obtain⟨b,o,rfl,hc⟩:=hr.ad (by omega);have hg:=hc (k-1) (by omega);clear hc;by_cases hx:Ah l (k-1)=0
   ·rw [hx]at hg;go_wp2
    go_round
    case rel=>exact⟨k-1,hk.step h0 hx,rfl⟩
    case measure=>simp;omega
   ·have hx':(((Ah l (k-1):Nat):Int) == 0)=false:=(by simpa using hx);go_wp2;go_ret;exact⟨_,rfl,by rw [←hk.done hl (.inr hx)];exact Rd.take hr (by omega),Aa.refl _⟩
theorem QV(l:List Nat)(A:Option Addr)(c:Nat)(w:World)(hr:BI w A c l)(hl:∀x∈l,x<1000000000) :
  Calls Tryz.prog 282 #[.slice A l.length c] w (fun e w'=>e=.returned (.slice A (pc 1000000000 (Ag 1000000000 l)).length c)/\w'=w):=by
 have C4:=hr.cap;have hmax:=hr.max;have hlen:=hr.len;go_enter Tryz.func282,Tryz.ntmps282;go_wp2
 go_loop [0] (fun v=>∃k:Nat,EZ l k/\v=.slice A k c) (fun v=>match v with | .slice _ n _=>n|_=>0)
 case atStart=>exact⟨l.length,EZ.start l,rfl⟩
 case round=>
  obtain⟨k,hk,rfl⟩:=hrel;have Cr:=hk.1;by_cases h0:k=0
  ·subst h0;go_wp2;go_ret;exact⟨by rw [←hk.done hl (.inl rfl)];simp,rfl⟩
  ·obtain⟨b,o,rfl,hc⟩:=hr.ad (by omega);have hg:=hc (k-1) (by omega);clear hc;by_cases hx:Ah l (k-1)=0
   ·rw [hx]at hg;go_wp2
    go_round
    case rel=>exact⟨k-1,hk.step h0 hx,rfl⟩
    case measure=>simp;omega
   ·have hx':(((Ah l (k-1):Nat):Int) == 0)=false:=(by simpa using hx);go_wp2;go_ret;exact⟨by rw [←hk.done hl (.inr hx)];show Ending.returned (.slice _ k c)=.returned (.slice _ (l.take k).length c);rw [List.length_take,Nat.min_eq_left Cr],rfl⟩
theorem Alf{l:List Nat}(hl:∀x∈l,x<1000000000):∃k,k<=l.length/\pc 1000000000 (Ag 1000000000 l)=l.take k:=by
 obtain⟨k,hk,hx⟩:∃k,EZ l k/\(k=0∨Ah l (k-1)≠0):=by
  have:∀n k,k<=n→EZ l k→∃k,EZ l k/\(k=0∨Ah l (k-1)≠0):=by
   intro n
   induction n with
   | zero=>intro k hk h;exact⟨k,h,.inl (by omega)⟩
   | succ n ih=>
    intro k hk h;by_cases h0:k=0
    ·exact⟨k,h,.inl h0⟩
    ·by_cases hx:Ah l (k-1)=0
     ·exact ih (k-1) (by omega) (h.step h0 hx)
     ·exact⟨k,h,.inr hx⟩
  exact this l.length l.length (AqK _) (EZ.start l)
 exact⟨k,hk.1,(hk.done hl hx).symm⟩
theorem BI.pc{w:World}{A:Option Addr}{c:Nat}{l:List Nat}(h:BI w A c l)(hl:∀x∈l,x<1000000000):BI w A c (pc 1000000000 (Ag 1000000000 l)):=by
 obtain⟨k,hk,e⟩:=Alf hl;obtain⟨A',c',e1,h1⟩:=Rd.take h hk;simp only [Value.slice.injEq]at e1;obtain⟨rfl,_,rfl⟩:=e1;rw [e];exact h1
theorem zh(l:List Nat)(v:Value)(w:World)(hv:Rd w v l)(hl:∀x∈l,x<1000000000) :
  Calls Tryz.prog 282 #[v] w (fun e w'=>∃v',e=.returned v'/\Rd w' v' (pc 1000000000 (Ag 1000000000 l))/\Aa w w'/\v'.ownBlock=v.ownBlock):=by
 obtain⟨A,c,rfl,hr⟩:=hv;refine(QV l A c w hr hl).mono ?_;rintro e w' ⟨rfl,rfl⟩;exact⟨_,rfl,⟨A,c,rfl,hr.pc hl⟩,Aa.refl _,by cases A<;>rfl⟩
theorem kT{w:World}{base:Nat}{e:TypeId}{size:Nat}{v:Value}{n:Nat}{xs:List Value}(h:w.ownsRow base e size v n xs)(b:Nat)(hb:v.ownBlock=some b):base<=b:=by
 rcases h.2 with⟨rfl,_⟩|⟨g,cap,cur,rfl,hg,_⟩
 ·cases hb
 ·simp only [Value.ownBlock,AqO]at hb;omega
/-! ### plus -/
structure IS(a b out:List Nat)(k c:Nat):Prop where
 le:k<=a.length
 len:out.length=k
 lt:∀x∈out,x<1000000000
 c1:c<=1
 sum:Ag 1000000000 out+1000000000^k*c=Ag 1000000000 (a.take k)+Ag 1000000000 (b.take k)
theorem IS.start(a b:List Nat):IS a b [] 0 0:=⟨Nat.zero_le _,rfl,by simp,by omega,by simp [Ag]⟩
theorem IS.step{a b out:List Nat}{k c s:Nat}(h:IS a b out k c)(hk:k<a.length)(ha:∀x∈a,x<1000000000)(hb:∀x∈b,x<1000000000)
  (hs:s=c+Ah a k+(if k<b.length then Ah b k else 0)):IS a b (out ++ [s%1000000000]) (k+1) (s/1000000000):=by
 have h1:=Cj ha hk
 have hs2:s<=1999999999:=by
  have:=h.c1
  split at hs
  ·have:=Cj hb ‹k<b.length›;omega
  ·omega
 refine⟨hk,by simp [h.len],?_,by omega,?_⟩
 ·intro x hx
  rcases List.mem_append.1 hx with hx|hx
  ·exact h.lt x hx
  ·simp at hx;subst hx;omega
 ·rw [Gq,h.len,Nat.pow_succ,Md hk,Gq,List.length_take,Nat.min_eq_left h.le]
  have e:Ag 1000000000 (b.take (k+1))=Ag 1000000000 (b.take k)+1000000000^k*(if k<b.length then Ah b k else 0):=by
   by_cases hkb:k<b.length
   ·rw [if_pos hkb,Md hkb,Gq,List.length_take,Nat.min_eq_left (by omega)]
   ·rw [if_neg hkb,AqS (by omega),AqS (by omega)];simp
  rw [e];have hm:s%1000000000+1000000000*(s/1000000000)=c+Ah a k+(if k<b.length then Ah b k else 0):=(by omega);have EJ:=h.sum;generalize (if k<b.length then Ah b k else 0)=y at *;generalize s%1000000000=r at *;generalize s/1000000000=q at *;generalize 1000000000^k=p at *
  have:p*r+p*1000000000*q=p*c+p*Ah a k+p*y:=by rw [Nat.mul_assoc,←Nat.mul_add,hm,Nat.mul_add,Nat.mul_add]
  omega
theorem IS.done{a b out:List Nat}{c:Nat}(h:IS a b out a.length c)(hab:b.length<=a.length) :
  Ag 1000000000 (out ++ [c])=Ag 1000000000 a+Ag 1000000000 b/\∀x∈out ++ [c],x<1000000000:=by
 have hs:=h.sum;rw [List.take_length,AqS hab]at hs;refine⟨by rw [Gq,h.len,hs],fun x hx=>?_⟩
 rcases List.mem_append.1 hx with hx|hx
 ·exact h.lt x hx
 ·simp at hx;subst hx;have:=h.c1;omega
theorem Als(a b:List Nat)(u v:Value)(w:World)(hu:Rd w u a)(hv:Rd w v b)(Fj:a.length<50000)(ha:∀x∈a,x<1000000000)(hb:∀x∈b,x<1000000000)(hlt:¬a.length<b.length) :
  Calls Tryz.prog 356 #[u,v] w (NT (Ag 1000000000 a+Ag 1000000000 b) w):=by
 obtain⟨A,ca,rfl,Ct⟩:=hu;obtain⟨B,cb,rfl,BX⟩:=hv;have Wq:=Ct.cap;have hcb:=BX.cap;have WN:=Ct.max;have Tl:=BX.max;have hmk:=XB (a.length+1) (by omega) ((a.length:Int)+1) (by omega);have how:=XY w w.heap.size (a.length+1) (AqK _) (by omega);go_enter Tryz.func356,Tryz.ntmps356;go_wp2;clear hmk
 go_loopw [5,6,22] (fun v c i wr=>∃(k:Nat) (out:List Nat) (cn:Nat),IS a b out k cn/\i=.int .i64 k/\c=.int .u64 cn/\wr.ownsRow w.heap.size 184 1 v k (Bi out)/\Aa w wr)
  (fun _ _ i _=>a.length-(intOf i).toNat)
 case atStart=>exact⟨0,[],0,IS.start a b,rfl,rfl,how,(Aa.refl w).alloc _⟩
 case round=>
  obtain⟨k,out,cn,hP,rfl,rfl,hown,Ac⟩:=hrel;clear how;have Cr:=hP.le;have hc1:=hP.c1;have hsz:=Ac.size;by_cases hk:k<a.length
  ·obtain⟨ba,oa,rfl,G4⟩:=Ct.ad (by omega);have hg:=Ac.cellS (G4 k hk);have AD:=Cj ha hk;clear G4;by_cases hkb:k<b.length
   ·obtain⟨bb,ob,rfl,G5⟩:=BX.ad (by omega);have hgb:=Ac.cellS (G5 k hkb);have hxb:=Cj hb hkb;clear G5
    go_wp2_with (at_builtin;refine app1 rfl _ _ rfl wr w.heap.size u5 k out rfl hown (by omega) _ ((cn+Ah a k+Ah b k)%1000000000) (by omega) rfl hsz ?_;intro v1 w1 hown1 hx1)
    go_roundw
    case rel=>exact⟨k+1,_,_,hP.step hk ha hb (by rw [if_pos hkb]),by go_num,by go_num,hown1,hx1 _ Ac (AqK _)⟩
    case measure=>simp [intOf];omega
   ·go_wp2_with (at_builtin;refine app1 rfl _ _ rfl wr w.heap.size u5 k out rfl hown (by omega) _ ((cn+Ah a k)%1000000000) (by omega) rfl hsz ?_;intro v1 w1 hown1 hx1)
    go_roundw
    case rel=>exact⟨k+1,_,_,hP.step (s:=cn+Ah a k) hk ha hb (by rw [if_neg hkb];rfl),by go_num,by go_num,hown1,hx1 _ Ac (AqK _)⟩
    case measure=>simp [intOf];omega
  ·obtain rfl:k=a.length:=(by omega);have hd:=hP.done (by omega);have I6:=hP.len
   go_wp2_with (at_builtin;refine app1 rfl _ _ rfl wr w.heap.size u5 _ out rfl hown (by omega) _ cn rfl rfl hsz ?_;intro v1 w1 hown1 hx1)
   have AN:Rd w1 v1 (out ++ [cn]):=Rd.of_own (by simpa [I6]using hown1) (by simp;omega);refine(trim_c _ _ _ AN hd.2).mono ?_;rintro e w2 ⟨v2,rfl,hv2,hx2⟩;go_wp2;go_ret;exact⟨v2,rfl,by rw [←hd.1];exact hv2,(hx1 _ Ac (AqK _)).trans hx2⟩
theorem Alt(a b:List Nat)(u v:Value)(w:World)(hu:Rd w u a)(hv:Rd w v b)(Fj:a.length<50000)(ha:∀x∈a,x<1000000000)(hb:∀x∈b,x<1000000000)(hlt:b.length<a.length) :
  Calls Tryz.prog 356 #[v,u] w (NT (Ag 1000000000 a+Ag 1000000000 b) w):=by
 obtain⟨A,ca,rfl,Ct⟩:=hu;obtain⟨B,cb,rfl,BX⟩:=hv;have Wq:=Ct.cap;have hcb:=BX.cap;have WN:=Ct.max;have Tl:=BX.max;have hmk:=XB (a.length+1) (by omega) ((a.length:Int)+1) (by omega);have how:=XY w w.heap.size (a.length+1) (AqK _) (by omega);go_enter Tryz.func356,Tryz.ntmps356;go_wp2;clear hmk
 go_loopw [5,6,22] (fun v c i wr=>∃(k:Nat) (out:List Nat) (cn:Nat),IS a b out k cn/\i=.int .i64 k/\c=.int .u64 cn/\wr.ownsRow w.heap.size 184 1 v k (Bi out)/\Aa w wr)
  (fun _ _ i _=>a.length-(intOf i).toNat)
 case atStart=>exact⟨0,[],0,IS.start a b,rfl,rfl,how,(Aa.refl w).alloc _⟩
 case round=>
  obtain⟨k,out,cn,hP,rfl,rfl,hown,Ac⟩:=hrel;clear how;have Cr:=hP.le;have hc1:=hP.c1;have hsz:=Ac.size;by_cases hk:k<a.length
  ·obtain⟨ba,oa,rfl,G4⟩:=Ct.ad (by omega);have hg:=Ac.cellS (G4 k hk);have AD:=Cj ha hk;clear G4;by_cases hkb:k<b.length
   ·obtain⟨bb,ob,rfl,G5⟩:=BX.ad (by omega);have hgb:=Ac.cellS (G5 k hkb);have hxb:=Cj hb hkb;clear G5
    go_wp2_with (at_builtin;refine app1 rfl _ _ rfl wr w.heap.size u5 k out rfl hown (by omega) _ ((cn+Ah a k+Ah b k)%1000000000) (by omega) rfl hsz ?_;intro v1 w1 hown1 hx1)
    go_roundw
    case rel=>exact⟨k+1,_,_,hP.step hk ha hb (by rw [if_pos hkb]),by go_num,by go_num,hown1,hx1 _ Ac (AqK _)⟩
    case measure=>simp [intOf];omega
   ·go_wp2_with (at_builtin;refine app1 rfl _ _ rfl wr w.heap.size u5 k out rfl hown (by omega) _ ((cn+Ah a k)%1000000000) (by omega) rfl hsz ?_;intro v1 w1 hown1 hx1)
    go_roundw
    case rel=>exact⟨k+1,_,_,hP.step (s:=cn+Ah a k) hk ha hb (by rw [if_neg hkb];rfl),by go_num,by go_num,hown1,hx1 _ Ac (AqK _)⟩
    case measure=>simp [intOf];omega
  ·obtain rfl:k=a.length:=(by omega);have hd:=hP.done (by omega);have I6:=hP.len
   go_wp2_with (at_builtin;refine app1 rfl _ _ rfl wr w.heap.size u5 _ out rfl hown (by omega) _ cn rfl rfl hsz ?_;intro v1 w1 hown1 hx1)
   have AN:Rd w1 v1 (out ++ [cn]):=Rd.of_own (by simpa [I6]using hown1) (by simp;omega);refine(trim_c _ _ _ AN hd.2).mono ?_;rintro e w2 ⟨v2,rfl,hv2,hx2⟩;go_wp2;go_ret;exact⟨v2,rfl,by rw [←hd.1];exact hv2,(hx1 _ Ac (AqK _)).trans hx2⟩
theorem lC(a b:List Nat)(u v:Value)(w:World)(hu:Rd w u a)(hv:Rd w v b)(Fj:a.length<50000)(Fl:b.length<50000)(ha:∀x∈a,x<1000000000)(hb:∀x∈b,x<1000000000) :
  Calls Tryz.prog 356 #[u,v] w (NT (Ag 1000000000 a+Ag 1000000000 b) w):=by
 by_cases h:a.length<b.length
 ·rw [Nat.add_comm];exact Alt b a v u w hv hu Fl hb ha h
 ·exact Als a b u v w hu hv Fj ha hb h
structure KF(a b out:List Nat)(k c:Nat):Prop where
 le:k<=a.length
 len:out.length=k
 lt:∀x∈out,x<1000000000
 c1:c<=1
 sum:Ag 1000000000 out+Ag 1000000000 (b.take k)=Ag 1000000000 (a.take k)+1000000000^k*c
theorem KF.start(a b:List Nat):KF a b [] 0 0:=⟨Nat.zero_le _,rfl,by simp,by omega,by simp [Ag]⟩
theorem KF.step{a b out:List Nat}{k c d c2:Nat}(h:KF a b out k c)(hk:k<a.length)(hd:d<1000000000)(hc2:c2<=1)
  (he:d+(c+(if k<b.length then Ah b k else 0))=Ah a k+1000000000*c2):KF a b (out ++ [d]) (k+1) c2:=by
 refine⟨hk,by simp [h.len],?_,hc2,?_⟩
 ·intro x hx
  rcases List.mem_append.1 hx with hx|hx
  ·exact h.lt x hx
  ·simp at hx;subst hx;exact hd
 ·rw [Gq,h.len,Nat.pow_succ,Md hk,Gq,List.length_take,Nat.min_eq_left h.le]
  have e:Ag 1000000000 (b.take (k+1))=Ag 1000000000 (b.take k)+1000000000^k*(if k<b.length then Ah b k else 0):=by
   by_cases hkb:k<b.length
   ·rw [if_pos hkb,Md hkb,Gq,List.length_take,Nat.min_eq_left (by omega)]
   ·rw [if_neg hkb,AqS (by omega),AqS (by omega)];simp
  rw [e];have EJ:=h.sum;generalize (if k<b.length then Ah b k else 0)=y at *;generalize 1000000000^k=p at *
  have:p*d+(p*c+p*y)=p*Ah a k+p*1000000000*c2:=by rw [Nat.mul_assoc,←Nat.mul_add,←Nat.mul_add,←Nat.mul_add,he]
  omega
theorem KF.done{a b out:List Nat}{c:Nat}(h:KF a b out a.length c)(hab:b.length<=a.length)(hle:Ag 1000000000 b<=Ag 1000000000 a) :
  Ag 1000000000 out=Ag 1000000000 a-Ag 1000000000 b:=by
 have hs:=h.sum;rw [List.take_length,AqS hab]at hs;have hlt:=IA h.lt;rw [h.len]at hlt
 have hc:c=0:=by
  rcases Nat.eq_zero_or_pos c with e|e
  ·exact e
  ·have e1:c=1:=(by have:=h.c1;omega);rw [e1]at hs;omega
 rw [hc]at hs;omega
theorem nk(a b:List Nat)(u v:Value)(w:World)(hu:Rd w u a)(hv:Rd w v b)(Fj:a.length<50000)(ha:∀x∈a,x<1000000000)(hb:∀x∈b,x<1000000000)
  (hab:b.length<=a.length) (hle:Ag 1000000000 b<=Ag 1000000000 a) :
  Calls Tryz.prog 336 #[u,v] w (RB (Ag 1000000000 a-Ag 1000000000 b) w):=by
 obtain⟨A,ca,rfl,Ct⟩:=hu;obtain⟨B,cb,rfl,BX⟩:=hv;have Wq:=Ct.cap;have hcb:=BX.cap;have WN:=Ct.max;have Tl:=BX.max;have HL:=AqH hle;clear hle;have hmk:=XB a.length (by omega) (a.length:Int) rfl;have how:=XY w w.heap.size a.length (AqK _) (by omega);go_enter Tryz.func336,Tryz.ntmps336;go_wp2;clear hmk
 go_loopw [5,6,15] (fun v c i wr=>∃(k:Nat) (out:List Nat) (cn:Nat),KF a b out k cn/\i=.int .i64 k/\c=.int .u64 cn/\wr.ownsRow w.heap.size 184 1 v k (Bi out)/\Aa w wr)
  (fun _ _ i _=>a.length-(intOf i).toNat)
 case atStart=>exact⟨0,[],0,KF.start a b,rfl,rfl,how,(Aa.refl w).alloc _⟩
 case round=>
  obtain⟨k,out,cn,hP,rfl,rfl,hown,Ac⟩:=hrel;clear how;have Cr:=hP.le;have hc1:=hP.c1;have hsz:=Ac.size;by_cases hk:k<a.length
  ·obtain⟨ba,oa,rfl,G4⟩:=Ct.ad (by omega);have hg:=Ac.cellS (G4 k hk);have AD:=Cj ha hk;clear G4;by_cases hkb:k<b.length
   ·obtain⟨bb,ob,rfl,G5⟩:=BX.ad (by omega);have hgb:=Ac.cellS (G5 k hkb);have hxb:=Cj hb hkb;clear G5;by_cases iS:Ah a k<cn+Ah b k
    ·go_wp2_with (at_builtin;refine app1 rfl _ _ rfl wr w.heap.size u5 k out rfl hown (by omega) _ (Ah a k+1000000000-(cn+Ah b k)) (by omega) rfl hsz ?_;intro v1 w1 hown1 hx1)
     go_roundw
     case rel=>exact⟨k+1,_,1,hP.step hk (by omega) (by omega) (by rw [if_pos hkb];omega),by go_num,rfl,hown1,hx1 _ Ac (AqK _)⟩
     case measure=>simp [intOf];omega
    ·go_wp2_with (at_builtin;refine app1 rfl _ _ rfl wr w.heap.size u5 k out rfl hown (by omega) _ (Ah a k-(cn+Ah b k)) (by omega) rfl hsz ?_;intro v1 w1 hown1 hx1)
     go_roundw
     case rel=>exact⟨k+1,_,0,hP.step hk (by omega) (by omega) (by rw [if_pos hkb];omega),by go_num,rfl,hown1,hx1 _ Ac (AqK _)⟩
     case measure=>simp [intOf];omega
   ·by_cases iS:Ah a k<cn
    ·go_wp2_with (at_builtin;refine app1 rfl _ _ rfl wr w.heap.size u5 k out rfl hown (by omega) _ (Ah a k+1000000000-cn) (by omega) rfl hsz ?_;intro v1 w1 hown1 hx1)
     go_roundw
     case rel=>exact⟨k+1,_,1,hP.step hk (by omega) (by omega) (by rw [if_neg hkb];omega),by go_num,rfl,hown1,hx1 _ Ac (AqK _)⟩
     case measure=>simp [intOf];omega
    ·go_wp2_with (at_builtin;refine app1 rfl _ _ rfl wr w.heap.size u5 k out rfl hown (by omega) _ (Ah a k-cn) (by omega) rfl hsz ?_;intro v1 w1 hown1 hx1)
     go_roundw
     case rel=>exact⟨k+1,_,0,hP.step hk (by omega) (by omega) (by rw [if_neg hkb];omega),by go_num,rfl,hown1,hx1 _ Ac (AqK _)⟩
     case measure=>simp [intOf];omega
  ·obtain rfl:k=a.length:=(by omega);have I6:=hP.len;(go_wp2_with fail);have AN:Rd wr u5 out:=Rd.of_own (by simpa [I6]using hown) (by omega);refine(zh _ _ _ AN hP.lt).mono ?_;rintro e w2 ⟨v2,rfl,hv2,hx2,ho2⟩;have HO:=AqH ho2;clear ho2;go_wp2;go_ret;exact⟨v2,rfl,by rw [←hP.done hab HL.out];exact hv2,Ac.trans hx2,fun b hb=>kT hown b (by rw [←HO.out];exact hb)⟩
theorem TP(a b:List Nat)(u v:Value)(w:World)(hu:Rd w u a)(hv:Rd w v b)(Fj:a.length<50000)(ha:∀x∈a,x<1000000000)(hb:∀x∈b,x<1000000000)
  (hab:b.length<=a.length) (hle:Ag 1000000000 b<=Ag 1000000000 a) :
  Calls Tryz.prog 336 #[u,v] w (NT (Ag 1000000000 a-Ag 1000000000 b) w):=
 (nk a b u v w hu hv Fj ha hb hab hle).mono fun _ _ h=>h.plain
def DW(x y:Nat):Int:=if x<y then -1 else if x=y then 0 else 1
theorem M8{x y:Nat}(h:x<y):DW x y = -1:=by unfold DW;rw [if_pos h]
theorem KV{x y:Nat}(h:y<x):DW x y=1:=by unfold DW;rw [if_neg (by omega),if_neg (by omega)]
theorem P5{x y:Nat}(h:x=y):DW x y=0:=by unfold DW;rw [if_neg (by omega),if_pos h]
theorem Bf{a b:Int}(h:b=a):Ending.returned (.int .i64 a)=.returned (.int .i64 b):=by rw [h]
def Ax(n:Int)(w:World)(e:Ending)(w':World):Prop:=e=.returned (.int .i64 n)/\Aa w w'
theorem M9{l:List Nat}{k:Nat}(h:k<l.length):l.drop k=Ah l k::l.drop (k+1):=by
 rw [List.drop_eq_getElem_cons h];simp [Ah,h]
theorem QA(a b:List Nat)(u v:Value)(w:World)(hu:Rd w u a)(hv:Rd w v b)(ha:∀x∈a,x<1000000000)(hb:∀x∈b,x<1000000000)(hta:Im a)(Qq:Im b) :
  Calls Tryz.prog 334 #[u,v] w (Ax (DW (Ag 1000000000 a) (Ag 1000000000 b)) w):=by
 obtain⟨A,ca,rfl,Ct⟩:=hu;obtain⟨B,cb,rfl,BX⟩:=hv;have Wq:=Ct.cap;have hcb:=BX.cap;have WN:=Ct.max;have Tl:=BX.max;have Fj:=Ct.len;have Fl:=BX.len;by_cases hab:a.length=b.length
 ·have hne:(((a.length:Nat):Int) != (b.length:Nat))=false:=(by simp [hab]);go_enter Tryz.func334,Tryz.ntmps334;have U5:=AqH hab;clear hab;go_wp2
  go_loopw [5] (fun i wr=>∃z:Int,-1<=z/\z<a.length/\a.drop (z+1).toNat=b.drop (z+1).toNat/\i=.int .i64 z/\Aa w wr) (fun i _=>(intOf i+1).toNat)
  case atStart=>exact⟨(a.length:Int)-1,by omega,by omega,by rw [show ((a.length:Int)-1+1).toNat=a.length by omega,List.drop_length,U5.out,List.drop_length],rfl,Aa.refl w⟩
  case round=>
   obtain⟨z,hz1,hz2,hd,rfl,Ac⟩:=hrel;have HD:=AqH hd;clear hd;by_cases h0:z<0
   ·go_wp2;go_ret;have e:a=b:=(by have:=HD.out;rw [show (z+1).toNat=0 by omega]at this;simpa using this);exact⟨Bf (by rw [e,P5 rfl]),Ac⟩
   ·obtain⟨n,rfl⟩:=Int.eq_ofNat_of_zero_le (show 0<=z by omega);have BH:n<a.length:=(by omega);have hk2:n<b.length:=(by have:=U5.out;omega);obtain⟨ba,oa,rfl,G4⟩:=Ct.ad (by omega);have Qe:=Ac.cellS (G4 n BH);obtain⟨bb,ob,rfl,G5⟩:=BX.ad (by omega);have hgb:=Ac.cellS (G5 n hk2);have AD:=Cj ha BH;have hxb:=Cj hb hk2;have BV:a.drop (n+1)=b.drop (n+1):=(by have:=HD.out;rwa [show ((n:Int)+1).toNat=n+1 by omega]at this);have NI:=AqH BV;clear G4 G5 HD BV
    rcases Nat.lt_trichotomy (Ah a n) (Ah b n)with hx|hx|hx
    ·have h1:(((Ah a n:Nat):Int) != (Ah b n:Nat))=true:=(by rw [bne_iff_ne];omega);(go_wp2_with fail)
     go_quiet (fail)
     (go_wp2_with fail)
     go_quiet (fail)
     go_wp2;go_ret;exact⟨Bf (M8 (pq n ha hb U5.out BH NI.out hx)),(Ac.drewN _).drewN _⟩
    ·have h1:(((Ah a n:Nat):Int) != (Ah b n:Nat))=false:=(by simp [hx]);have HX:=AqH hx;clear hx;(go_wp2_with fail)
     go_quiet (fail)
     go_wp2;go_roundw
     case rel=>refine⟨(n:Int)-1,by omega,by omega,?_,by go_num,Ac.drewN _⟩;rw [show ((n:Int)-1+1).toNat=n by omega,M9 BH,M9 hk2,HX.out,NI.out]
     case measure=>simp [intOf]
    ·have h1:(((Ah a n:Nat):Int) != (Ah b n:Nat))=true:=(by rw [bne_iff_ne];omega);(go_wp2_with fail)
     go_quiet (fail)
     (go_wp2_with fail)
     go_quiet (fail)
     go_wp2;go_ret;exact⟨Bf (KV (pq n hb ha U5.out.symm hk2 NI.out.symm hx)),(Ac.drewN _).drewN _⟩
 ·have hne:(((a.length:Nat):Int) != (b.length:Nat))=true:=(by rw [bne_iff_ne];omega);by_cases hlt:a.length<b.length
  ·go_enter Tryz.func334,Tryz.ntmps334;go_wp2;go_ret;exact⟨Bf (M8 (pu (by omega) ha Qq hlt)),Aa.refl w⟩
  ·go_enter Tryz.func334,Tryz.ntmps334;go_wp2;go_ret;exact⟨Bf (KV (pu (by omega) hb hta (by omega))),Aa.refl w⟩
end Go.Proofs.YtjalkoacphhgdaaGreatDoor
