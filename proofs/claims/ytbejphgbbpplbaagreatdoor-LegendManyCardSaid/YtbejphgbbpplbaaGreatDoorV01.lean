/- V01: Num Mag Kit Int1 Int2 Int3 Int4 Int5. -/
import Derived.Lib.ItoaMem
import Derived.Lib.AtoiAll
import Derived.Test.YtbejphgbbpplbaaGreatDoorProg
import Derived.WalkKit
import Derived.BigQuiet
set_option maxRecDepth 100000
set_option maxHeartbeats 2000000
namespace Kl
open Go
abbrev Bs:=List UInt8
def D(n:Nat):Bs:=Lib.decDigits n
def I(z:Int):Bs:=Lib.itoa z
def dv(c:UInt8):Nat:=c.toNat-48
def Dq(a:Nat)(l:Bs):Nat:=l.foldl (fun a c=>a*10+dv c) a
def val(l:Bs):Nat:=Dq 0 l
def Fj(c:UInt8):Prop:=48<=c.toNat/\c.toNat<=57
instance (c:UInt8):Decidable (Fj c):=by unfold Fj;infer_instance
def BA(l:Bs):Prop:=∀c∈l,Fj c
def dg(n:Nat):UInt8:=UInt8.ofNat (48+n)
theorem U1{n:Nat}(h:n<10):(dg n).toNat=48+n:=by
 unfold dg;rw [UInt8.toNat_ofNat'];omega
theorem pV{n:Nat}(h:n<10):dv (dg n)=n:=by unfold dv;rw [U1 h];omega
theorem dZ{n:Nat}(h:n<10):Fj (dg n):=by unfold Fj;rw [U1 h];omega
theorem pO{c:UInt8}(h:Fj c):dg (dv c)=c:=by
 have h1:=h.1;have h2:=h.2;apply UInt8.toNat_inj.1;rw [U1 (by unfold dv;omega)];unfold dv;omega
theorem YO{c:UInt8}(h:Fj c):dv c<10:=by have:=h.2;unfold dv;omega
theorem jK(a:Nat)(c:UInt8)(l:Bs):Dq a (c::l)=Dq (a*10+dv c) l:=by unfold Dq;rw [List.foldl_cons]
theorem Akw(a:Nat)(l m:Bs):Dq a (l++m)=Dq (Dq a l) m:=by simp [Dq,List.foldl_append]
theorem qj(l:Bs):∀a,Dq a l=a*10^l.length+Dq 0 l:=by
 induction l with
 | nil=>intro a;simp [Dq]
 | cons c l ih=>intro a;have h1:=ih (a*10+dv c);have h2:=ih (0*10+dv c);rw [jK,jK,h1,h2,List.length_cons,Nat.pow_succ];generalize 10^l.length=p;generalize dv c=d;generalize Dq 0 l=v;rw [Nat.add_mul,Nat.mul_assoc,Nat.mul_comm 10 p,Nat.zero_mul,Nat.zero_add,Nat.add_assoc]
theorem JZ:val []=0:=rfl
theorem val_append(l m:Bs):val (l++m)=val l*10^m.length+val m:=by
 rw [val,Akw,qj];rfl
theorem jL(l:Bs)(c:UInt8):val (l ++ [c])=val l*10+dv c:=by
 rw [val_append];simp [val,Dq]
theorem ql(c:UInt8):val [c]=dv c:=by simp [val,Dq]
theorem Qp(c:UInt8)(l:Bs):val (c::l)=dv c*10^l.length+val l:=by
 rw [show c::l = [c]++l from rfl,val_append,ql]
theorem OE{l m:Bs} : BA (l++m)↔BA l/\BA m:=by
 simp only [BA,List.mem_append];constructor
 ·intro h;exact⟨fun c hc=>h c (.inl hc),fun c hc=>h c (.inr hc)⟩
 ·rintro⟨a,b⟩ c (hc|hc)
  ·exact a c hc
  ·exact b c hc
theorem Uh{c:UInt8}{l:Bs} : BA (c::l)↔Fj c/\BA l:=by simp [BA]
theorem mG:BA []:=by simp [BA]
theorem Yj{l:Bs}(h:BA l)(k:Nat):BA (l.take k):=fun c hc=>h c (List.mem_of_mem_take hc)
theorem mF{l:Bs}(h:BA l)(k:Nat):BA (l.drop k):=fun c hc=>h c (List.mem_of_mem_drop hc)
theorem JY{l:Bs}(h:BA l):val l<10^l.length:=by
 induction l with
 | nil=>simp [val,Dq]
 | cons c l ih=>rw [Uh]at h;have h1:=ih h.2;have h2:=YO h.1;rw [Qp,List.length_cons,Nat.pow_succ];have:dv c*10^l.length<=9*10^l.length:=Nat.mul_le_mul_right _ (by omega);omega
theorem EE{n:Nat}(h:n<10):D n = [dg n]:=by unfold D;rw [Lib.decDigits,dif_pos h];rfl
theorem Ot{n:Nat}(h:¬n<10):D n=D (n/10) ++ [dg (n%10)]:=by
 unfold D;rw [Lib.decDigits,dif_neg h];rfl
theorem L9(n:Nat):D n≠[]:=by
 by_cases h:n<10
 ·rw [EE h];simp
 ·rw [Ot h];simp
theorem Iu(n:Nat):val (D n)=n:=by
 induction n using Nat.strongRecOn with
 | _ n ih=>
  by_cases h:n<10
  ·rw [EE h,ql,pV h]
  ·rw [Ot h,jL,ih _ (by omega),pV (by omega)];omega
theorem D7(n:Nat):BA (D n):=by
 induction n using Nat.strongRecOn with
 | _ n ih=>
  by_cases h:n<10
  ·rw [EE h];intro c hc;simp at hc;subst hc;exact dZ h
  ·rw [Ot h,OE];refine⟨ih _ (by omega),?_⟩;intro c hc;simp at hc;subst hc;exact dZ (by omega)
theorem TB{a b:Nat}(h:D a=D b):a=b:=by rw [←Iu a,←Iu b,h]
theorem TC(n:Nat):0<(D n).length:=List.length_pos_iff.2 (L9 n)
theorem dp(n:Nat):n<10^(D n).length:=by
 have:=JY (D7 n);rwa [Iu]at this
theorem TA(n:Nat)(h:0<n):∃c l,D n=c::l/\Fj c/\c≠48:=by
 induction n using Nat.strongRecOn with
 | _ n ih=>
  by_cases h10:n<10
  ·refine⟨dg n,[],EE h10,dZ h10,?_⟩;intro e;have:(dg n).toNat=48:=(by rw [e];rfl);rw [U1 h10]at this;omega
  ·obtain⟨c,l,e,hc,hn⟩:=ih (n/10) (by omega) (by omega);exact⟨c,l ++ [dg (n%10)],by rw [Ot h10,e];rfl,hc,hn⟩
theorem jq(n:Nat)(h:0<n):10^((D n).length-1)<=n:=by
 obtain⟨c,l,e,hc,hn⟩:=TA n h;have h1:val (D n)=n:=Iu n;rw [e,Qp]at h1;rw [e,List.length_cons,Nat.add_sub_cancel]
 have h2:1<=dv c:=by have:=hc.1;have:c.toNat≠48:=fun e=>hn (UInt8.toNat_inj.1 e);unfold dv;omega
 have:1*10^l.length<=dv c*10^l.length:=Nat.mul_le_mul_right _ h2;omega
structure Can(l:Bs):Prop where
 ne:l≠[]
 all:BA l
 head:∀m,l=48::m→m = []
theorem nK(n:Nat):Can (D n):=by
 refine⟨L9 n,D7 n,fun m e=>?_⟩
 rcases Nat.eq_zero_or_pos n with rfl|h
 ·rw [EE (by omega)]at e;simp at e;exact e.2
 ·obtain⟨c,l,e2,_,hn⟩:=TA n h;rw [e2]at e;simp at e;exact absurd e.1 hn
theorem Hd{n k:Nat}(hk:0<k)(h:n<10^k):(D n).length<=k:=by
 rcases Nat.eq_zero_or_pos n with rfl|h0
 ·rw [EE (by omega)];simp;omega
 ·have h1:=jq n h0;have h2:=TC n;have:(D n).length-1<k:=(Nat.pow_lt_pow_iff_right (a:=10) (by omega)).1 (Nat.lt_of_le_of_lt h1 h);omega
theorem Lh{n k:Nat}(h:(D n).length<=k):n<10^k:=
 Nat.lt_of_lt_of_le (dp n) (Nat.pow_le_pow_right (by omega) h)
theorem Xl{l:Bs}(h:Can l):D (val l)=l:=by
 suffices H:∀(k:Nat) (l:Bs),l.length=k→Can l→D (val l)=l from H _ l rfl h
 clear h l;intro k
 induction k with
 | zero=>intro l hl h;exact absurd (List.eq_nil_of_length_eq_zero hl) h.ne
 | succ k ih=>
  intro l hl h;obtain⟨m,c,rfl⟩:∃m c,l=m ++ [c]:=⟨l.dropLast,l.getLast h.ne,(List.dropLast_concat_getLast h.ne).symm⟩;have Hy:=OE.1 h.all;have hc:Fj c:=Hy.2 c (by simp);have hcl:=YO hc;rw [jL];by_cases hm:m = []
  ·subst hm;rw [JZ,Nat.zero_mul,Nat.zero_add,EE hcl,pO hc];rfl
  ·have hcm:Can m:=⟨hm,Hy.1,fun q e=>by
    have:=h.head (q ++ [c]) (by rw [e];rfl)
    simp at this⟩
   have hvm:0<val m:=by
    match m,hm,hcm with
    | d::q,_,hcm=>
     have hd:=(Uh.1 hcm.all).1
     have hne:d≠48:=fun e=>by have:=h.head (q ++ [c]) (by rw [e];rfl);simp at this
     have:c.toNat≠48∨True:=.inr trivial
     have h1:1<=dv d:=by have:=hd.1;have:d.toNat≠48:=fun e=>hne (UInt8.toNat_inj.1 e);unfold dv;omega
     rw [Qp];have:1*1<=dv d*10^q.length:=Nat.mul_le_mul h1 (Nat.one_le_pow _ _ (by omega));omega
   have e1:(val m*10+dv c)/10=val m:=(by omega);have e2:(val m*10+dv c)%10=dv c:=(by omega);rw [Ot (by omega),e1,e2,ih m (by simpa using hl) hcm,pO hc]
/-! ### Padding -/
def pad(k x:Nat):Bs:=List.replicate (k-(D x).length) 48++D x
theorem Ak1(k:Nat):val (List.replicate k 48)=0:=by
 induction k with
 | zero=>rfl
 | succ k ih=>rw [List.replicate_succ,Qp,ih];simp [dv]
theorem y9(k:Nat):BA (List.replicate k 48):=by
 intro c hc;rw [List.mem_replicate]at hc;rw [hc.2];decide +kernel
theorem Akz(k x:Nat):val (pad k x)=x:=by rw [pad,val_append,Ak1,Iu];simp
theorem y8(k x:Nat):BA (pad k x):=OE.2 ⟨y9 _,D7 _⟩
theorem cz{k x:Nat}(hk:0<k)(h:x<10^k):(pad k x).length=k:=by
 have:=Hd hk h;simp [pad];omega
theorem rf{k h x:Nat}(hk:0<k)(hh:0<h)(hx:x<10^k):D (h*10^k+x)=D h++pad k x:=by
 have hc:Can (D h++pad k x):=by refine⟨by simp [L9],OE.2 ⟨D7 _,y8 _ _⟩,fun m e=>?_⟩;obtain⟨c,l,e2,_,hn⟩:=TA h hh;rw [e2]at e;simp at e;exact absurd e.1 hn
 have:=Xl hc;rw [val_append,Iu,Akz,cz hk hx]at this;exact this
/-! ### Pieces, the least first -/
def Ag(b:Nat):List Nat→Nat
 | []=>0
 | x::l=>x+b*Ag b l
def wr(k:Nat):List Nat→Bs
 | []=>[]
 | x::l=>wr k l++pad k x
def cl(k:Nat):List Nat→Bs
 | []=>[48]
 | [x]=>D x
 | x::l=>cl k l++pad k x
theorem Wz(b:Nat)(l m:List Nat):Ag b (l++m)=Ag b l+b^l.length*Ag b m:=by
 induction l with
 | nil=>simp [Ag]
 | cons x l ih=>simp only [List.cons_append,Ag,ih,List.length_cons,Nat.pow_succ,Nat.mul_add];rw [Nat.mul_comm (b^l.length) b,Nat.mul_assoc];omega
theorem FZ(b:Nat)(l:List Nat)(x:Nat):Ag b (l ++ [x])=Ag b l+b^l.length*x:=by
 rw [Wz];simp [Ag]
theorem Ih{b:Nat}{l:List Nat}(h:∀x∈l,x<b):Ag b l<b^l.length:=by
 induction l with
 | nil=>simp [Ag]
 | cons x l ih=>have h1:=ih fun y hy=>h y (List.mem_cons_of_mem _ hy);have h2:=h x (by simp);simp only [Ag,List.length_cons,Nat.pow_succ];have:b*(Ag b l+1)<=b*b^l.length:=Nat.mul_le_mul_left _ h1;rw [Nat.mul_add]at this;rw [Nat.mul_comm (b^l.length)];omega
def Hm(l:List Nat):Prop:=∀h:l≠[],l.getLast h≠0
theorem po:Hm []:=fun h=>absurd rfl h
theorem Tv{x:Nat}{l:List Nat}(hl:l≠[]):Hm (x::l)↔Hm l:=by
 constructor
 ·intro h h';have:=h (by simp);rwa [List.getLast_cons hl]at this
 ·intro h _;rw [List.getLast_cons hl];exact h hl
theorem gh{b:Nat}(hb:0<b){l:List Nat}(h:Hm l)(hne:l≠[]):0<Ag b l:=by
 induction l with
 | nil=>exact absurd rfl hne
 | cons x l ih=>
  by_cases hl:l = []
  ·subst hl;have:=h (by simp);simp at this;simp [Ag];omega
  ·have h1:=ih ((Tv hl).1 h) hl;have:0<b*Ag b l:=Nat.mul_pos hb h1;simp only [Ag];omega
theorem AaZ{k:Nat}(hk:0<k){l:List Nat}(h:∀x∈l,x<10^k)(ht:Hm l):cl k l=D (Ag (10^k) l):=by
 induction l with
 | nil=>rw [cl,Ag,EE (by omega)];rfl
 | cons x l ih=>
  cases l with
  | nil=>simp [cl,Ag]
  | cons y l=>have yU:=(Tv (x:=x) (l:=y::l) (by simp)).1 ht;have h':∀z∈y::l,z<10^k:=fun z hz=>h z (List.mem_cons_of_mem _ hz);have hp:=gh (Nat.pow_pos (n:=k) (by omega:0<10)) yU (by simp);rw [cl,ih h' yU,←rf hk hp (h x (by simp)),Nat.mul_comm,Nat.add_comm];rfl;simp
/-! ### Integers -/
theorem DU(n:Nat):I (n:Int)=D n:=by unfold I Lib.itoa D;rw [if_neg (by omega)];simp
theorem TV(n:Nat)(h:0<n):I (-(n:Int))=45::D n:=by unfold I Lib.itoa D;rw [if_pos (by omega)];simp
theorem DT(z:Int):(∃n:Nat,z=n/\I z=D n)∨(∃n:Nat,0<n/\z = -(n:Int)/\I z=45::D n):=by
 by_cases h:z<0
 ·exact .inr ⟨z.natAbs,by omega,by omega,by have:=TV z.natAbs (by omega);rwa [show -(z.natAbs:Int)=z by omega]at this⟩
 ·exact .inl ⟨z.toNat,by omega,by have:=DU z.toNat;rwa [show (z.toNat:Int)=z by omega]at this⟩
theorem Xk(n:Nat)(m:Bs):D n≠45::m:=by
 intro e;have:=D7 n 45 (by rw [e];simp);exact absurd this (by decide +kernel)
theorem O4{a b:Int}(h:I a=I b):a=b:=by
 rcases DT a with⟨n,rfl,e1⟩|⟨n,hn,rfl,e1⟩<;>rcases DT b with⟨m,rfl,e2⟩|⟨m,hm,rfl,e2⟩
 ·rw [e1,e2]at h;rw [TB h]
 ·rw [e1,e2]at h;exact absurd h (Xk _ _)
 ·rw [e1,e2]at h;exact absurd h.symm (Xk _ _)
 ·rw [e1,e2]at h;simp at h;rw [TB h]
theorem XQ(z:Int):(47:UInt8)∉I z:=by
 rcases DT z with⟨n,_,e⟩|⟨n,_,_,e⟩<;>rw [e]
 ·intro h;exact absurd (D7 n _ h) (by decide +kernel)
 ·intro h
  rcases List.mem_cons.1 h with h|h
  ·exact absurd h (by decide +kernel)
  ·exact absurd (D7 n _ h) (by decide +kernel)
/-! ### Fractions -/
def R(q:Rat):Bs:=if q.den=1 then I q.num else I q.num++47::D q.den
theorem lN(z:Int):R (z:Rat)=I z:=by unfold R;rw [if_pos (by simp)];simp
end Kl
namespace Kl
def pc(b:Nat)(n:Nat):List Nat:=
 if _h:2<=b/\0<n then (n%b)::pc b (n/b)else []
 termination_by n
 decreasing_by exact Nat.div_lt_self _h.2 _h.1
theorem Ik{b:Nat} : pc b 0 = []:=by rw [pc,dif_neg (by simp)]
theorem Tl{b:Nat}(hb:2<=b){n:Nat}(h:0<n):pc b n=(n%b)::pc b (n/b):=by rw [pc,dif_pos ⟨hb,h⟩]
theorem AS{b:Nat}(hb:2<=b)(n:Nat):Ag b (pc b n)=n:=by
 induction n using Nat.strongRecOn with
 | _ n ih=>
  rcases Nat.eq_zero_or_pos n with rfl|h
  ·rw [Ik];rfl
  ·rw [Tl hb h,Ag,ih _ (Nat.div_lt_self h hb)];exact Nat.mod_add_div n b
theorem Bd{b:Nat}(hb:2<=b)(n:Nat):∀x∈pc b n,x<b:=by
 induction n using Nat.strongRecOn with
 | _ n ih=>
  rcases Nat.eq_zero_or_pos n with rfl|h
  ·rw [Ik];simp
  ·rw [Tl hb h];intro x hx
   rcases List.mem_cons.1 hx with rfl|hx
   ·exact Nat.mod_lt _ (by omega)
   ·exact ih _ (Nat.div_lt_self h hb) x hx
theorem PX{b:Nat}(hb:2<=b){n:Nat} : pc b n = []↔n=0:=by
 constructor
 ·intro h;have:=AS hb n;rw [h]at this;exact this.symm
 ·rintro rfl;exact Ik
theorem Ge{b:Nat}(hb:2<=b)(n:Nat):Hm (pc b n):=by
 induction n using Nat.strongRecOn with
 | _ n ih=>
  rcases Nat.eq_zero_or_pos n with rfl|h
  ·rw [Ik];exact po
  ·rw [Tl hb h];by_cases hl:pc b (n/b) = []
   ·rw [hl];intro _;have:=(PX hb).1 hl;have h2:=Nat.mod_add_div n b;rw [this]at h2;simp at h2 ⊢;omega
   ·exact(Tv hl).2 (ih _ (Nat.div_lt_self h hb))
theorem jh{b:Nat}(hb:2<=b):∀{l:List Nat},(∀x∈l,x<b)→Hm l→pc b (Ag b l)=l
 | [],_,_=>Ik
 | x::l,h,ht=>by
  have hx:=h x (by simp);have BY:=gh (by omega:0<b) ht (by simp);have e1:(x+b*Ag b l)%b=x:=(by rw [Nat.add_mul_mod_self_left];exact Nat.mod_eq_of_lt hx);have e2:(x+b*Ag b l)/b=Ag b l:=by rw [Nat.add_mul_div_left _ _ (by omega),Nat.div_eq_of_lt hx,Nat.zero_add]
  have Ef:Hm l:=by
   by_cases hl:l = []
   ·subst hl;exact po
   ·exact(Tv hl).1 ht
  rw [Ag]at BY ⊢;rw [Tl hb BY,e1,e2,jh hb (fun y hy=>h y (List.mem_cons_of_mem _ hy)) Ef]
theorem gR{b:Nat}{l:List Nat}(ht:Hm l)(hne:l≠[]):b^(l.length-1)<=Ag b l:=by
 induction l with
 | nil=>exact absurd rfl hne
 | cons x l ih=>
  by_cases hl:l = []
  ·subst hl;have:=ht (by simp);simp at this;simp [Ag];omega
  ·have h1:=ih ((Tv hl).1 ht) hl;have hlen:0<l.length:=List.length_pos_iff.2 hl;rw [Ag,List.length_cons,Nat.add_sub_cancel,show l.length=l.length-1+1 by omega,Nat.pow_succ,Nat.mul_comm];have:=Nat.mul_le_mul_left b h1;omega
theorem Oe{b:Nat}(hb:2<=b){n k:Nat}(h:n<b^k):(pc b n).length<=k:=by
 by_cases hn:pc b n = []
 ·rw [hn];simp
 ·have h1:=gR (b:=b) (Ge hb n) hn;rw [AS hb]at h1;have:(pc b n).length-1<k:=(Nat.pow_lt_pow_iff_right (a:=b) (by omega)).1 (Nat.lt_of_le_of_lt h1 h);omega
theorem gI{b:Nat}(hb:2<=b){n:Nat}(h0:0<n)(h:n<b):pc b n = [n]:=by
 rw [Tl hb h0,Nat.mod_eq_of_lt h,Nat.div_eq_of_lt h,Ik]
theorem fu{b:Nat} : ∀{l m:List Nat} (i:Nat),(∀x∈l,x<b)→(∀x∈m,x<b)→l.length=m.length→i<l.length→
  l.drop (i+1)=m.drop (i+1)→l.getD i 0<m.getD i 0→Ag b l<Ag b m:=by
 intro l m i hl hm hlen hi hd hlt
 have e1:l=l.take i++l.getD i 0::l.drop (i+1):=by
  conv=>lhs;rw [←List.take_append_drop i l]
  rw [List.drop_eq_getElem_cons hi];simp [List.getD,hi]
 have KI:i<m.length:=by omega
 have e2:m=m.take i++m.getD i 0::m.drop (i+1):=by
  conv=>lhs;rw [←List.take_append_drop i m]
  rw [List.drop_eq_getElem_cons KI];simp [List.getD,KI]
 rw [e1,e2,Wz,Wz,hd]
 have h1:Ag b (l.take i)<b^i:=by
  have:=Ih (l:=l.take i) (b:=b) fun x hx=>hl x (List.mem_of_mem_take hx)
  rwa [List.length_take,Nat.min_eq_left (by omega)]at this
 have el:(l.take i).length=i:=(by rw [List.length_take];omega);have em:(m.take i).length=i:=(by rw [List.length_take];omega);rw [el,em];simp only [Ag];generalize Ag b (m.drop (i+1))=T;generalize l.getD i 0=x at *;generalize m.getD i 0=y at *;generalize b^i=p at *;have:p*(x+1)<=p*y:=Nat.mul_le_mul_left _ hlt;rw [Nat.mul_add,Nat.mul_add];rw [Nat.mul_add]at this;omega
theorem gb{b:Nat}(hb:2<=b){l m:List Nat}(hl:∀x∈l,x<b)(ht:Hm m)(h:l.length<m.length):Ag b l<Ag b m:=by
 have hne:m≠[]:=fun e=>(by rw [e]at h;simp at h);have h1:=Ih hl;have h2:=gR (b:=b) ht hne;have:b^l.length<=b^(m.length-1):=Nat.pow_le_pow_right (by omega) (by omega);omega
end Kl
namespace Go.Proofs.YtbejphgbbpplbaaGreatDoor
open Go.RowKit Kl
def Aa(w w':World):Prop:=Below w.heap.size w w'
theorem Aa.refl(w:World):Aa w w:=Below.refl _ _
theorem Aa.trans{a b c:World}(h:Aa a b)(k:Aa b c):Aa a c:=Below.trans h (Below.mono k h.size)
theorem Aa.drew{a b:World}(h:Aa a b):Aa a b.drew:=Below.drew h
theorem Aa.drewN{a b:World}(h:Aa a b)(n:Nat):Aa a (b.drewN n):=⟨h.os,h.tape,h.output,h.size,h.block⟩
theorem Aa.alloc{a b:World}(h:Aa a b)(o:Obj):Aa a (b.alloc o):=Below.alloc h h.size o
theorem Aa.setCell{a b:World}(h:Aa a b){p:Addr}(hp:a.heap.size<=p.block)(u:Value):Aa a (b.setCell p u):=Below.setCell h hp u
theorem Aa.size{a b:World}(h:Aa a b):a.heap.size<=b.heap.size:=Below.size h
theorem Aa.cell{w w':World}(h:Aa w w'){p:Addr}(hp:p.block<w.heap.size):w'.cell? p=w.cell? p:=Below.cell h hp
theorem Aa.cellS{w w':World}(h:Aa w w'){p:Addr}{v:Value}(hp:w.cell? p=some v):w'.cell? p=some v:=
 (h.cell (World.block_lt_of_cell? w p hp)).trans hp
theorem Aa.frozen{w w':World}(h:Aa w w'){p:Addr}(hp:p.block<w.heap.size):w'.frozen? p=w.frozen? p:=Below.frozen h hp
theorem Aa.grown{a w w':World}{row:Option Nat}(h:Aa a w)(hg:w.grownBy w' row)(hr:∀k,row=some k→a.heap.size<=k):Aa a w':=
 Below.grown h hg h.size hr
theorem Aa.grownOwn{a w w':World}{B:Nat}{e:TypeId}{s n:Nat}{v:Value}{xs:List Value}(h:Aa a w)(hg:w.grownBy w' v.ownBlock)(ho:w.ownsRow B e s v n xs)(hB:a.heap.size<=B):Aa a w':=
 h.grown hg fun k hk=>Nat.le_trans hB (ho.lt k hk).1
theorem Aa.cells{W w1:World}(h:Aa W w1):(∀b o,b<W.heap.size→w1.cell? ⟨b,o,none⟩=W.cell? ⟨b,o,none⟩)/\(∀b o,b<W.heap.size→w1.frozen? ⟨b,o,none⟩=W.frozen? ⟨b,o,none⟩):=
 ⟨fun b o hb=>h.cell (p:=⟨b,o,none⟩) hb,fun b o hb=>h.frozen (p:=⟨b,o,none⟩) hb⟩
def Un:Nat:=4000
def Big:Nat:=10^Un
abbrev S(l:Bs):Value:=.string ⟨l.toArray⟩
def Ah(l:List Nat)(i:Nat):Nat:=l.getD i 0
theorem Cd{l:List Nat}{b i:Nat}(h:∀x∈l,x<b)(hi:i<l.length):Ah l i<b:=by
 unfold Ah;rw [List.getD_eq_getElem?_getD,List.getElem?_eq_getElem hi];exact h _ (List.getElem_mem hi)
theorem Lz{l:List Nat}{k:Nat}(h:k<l.length):l.take (k+1)=l.take k ++ [Ah l k]:=by
 rw [List.take_succ_eq_append_getElem h];simp [Ah,h]
structure BG(w:World)(A:Option Addr)(c:Nat)(l:List Nat):Prop where
 cap:l.length<=c
 max:c<=9223372036854775807
 len:l.length<=100000
 ad:0<l.length→∃b o,A=some ⟨b,o,none⟩/\∀j,j<l.length→w.cell? ⟨b,o+j,none⟩=some (.int .u64 (Ah l j:Nat))
def Rd(w:World)(v:Value)(l:List Nat):Prop:=∃A c,v=.slice A l.length c/\BG w A c l
theorem BG.ext{w w':World}{A:Option Addr}{c:Nat}{l:List Nat}(h:BG w A c l)(hx:Aa w w'):BG w' A c l:=
 ⟨h.cap,h.max,h.len,fun h0=>by
  obtain⟨b,o,e,hc⟩:=h.ad h0
  exact⟨b,o,e,fun j hj=>hx.cellS (hc j hj)⟩⟩
theorem Rd.ext{w w':World}{v:Value}{l:List Nat}(h:Rd w v l)(hx:Aa w w'):Rd w' v l:=by
 obtain⟨A,c,e,h⟩:=h;exact⟨A,c,e,h.ext hx⟩
def AZ(l:List Nat):List Value:=l.map fun x=>.int .u64 (x:Nat)
theorem Rd.of_own{w:World}{base:Nat}{e:TypeId}{v:Value}{l:List Nat}(h:w.ownsRow base e 1 v l.length (AZ l))(hl:l.length<=100000):Rd w v l:=by
 rcases h.2 with⟨rfl,h0⟩|⟨g,cap,cur,rfl,_,_,hn,hm,_,_⟩
 ·exact⟨none,0,by rw [h0],by omega,by omega,hl,fun h=>by omega⟩
 ·refine⟨some ⟨g,0,none⟩,cap,rfl,hn,hm,hl,fun _=>⟨g,0,rfl,fun j hj=>?_⟩⟩;have hj':(AZ l)[j]?=some (.int .u64 (Ah l j:Nat)):=(by simp [AZ,Ah,hj]);have:=h.cells (g:=g) rfl j _ hj'
  rwa [Addr.add_lit]at this
theorem Tryz.infoU:(Tryz.prog.info? 195).map (fun i=>(i.zero,i.size,i.bytes))=some (some (.int .u64 0),1,8):=by kernel_rfl
def Nm(n:Nat)(w:World)(e:Ending)(w':World):Prop:=∃v,e=.returned v/\Rd w' v (pc 1000000000 n)/\Aa w w'
def QF(n:Nat)(w:World)(e:Ending)(w':World):Prop:=∃v,e=.returned v/\Rd w' v (pc 1000000000 n)/\Aa w w'/\∀b,v.ownBlock=some b→w.heap.size<=b
theorem QF.plain{n:Nat}{w:World}{e:Ending}{w':World}(h:QF n w e w'):Nm n w e w':=by
 obtain⟨v,h1,h2,h3,_⟩:=h;exact⟨v,h1,h2,h3⟩
theorem Wq(n:Nat)(hn:n<=200000)(c:Int)(hc:c=(n:Int))(W:World) :
  (Instr.makeSlice 278 (.int .i64 0) (.int .i64 c)).run Tryz.prog W=.ok (.slice (some ⟨W.heap.size,0,none⟩) 0 n) (W.alloc (.cells (madeCells #[.int .u64 0] n) 195)):=by
 subst hc;obtain⟨i0,hi,hz0,hz1,hz2⟩:=info_parts Tryz.infoU;have h:=run_make (P:=Tryz.prog) W 278 195 i0 (.int .u64 0) Tryz.underlying278 hi hz0 .i64 .i64 0 n (Int.le_refl _) (by omega) (by rw [hz2];omega) (by omega);rw [hz1,Nat.mul_one]at h;simp only [Int.toNat_zero,Int.toNat_natCast]at h;exact h
theorem WI(W:World)(base n:Nat)(hb:base<=W.heap.size)(hn:n<=200000) :
  (W.alloc (.cells (madeCells #[.int .u64 0] n) 195)).ownsRow base 195 1 (.slice (some ⟨W.heap.size,0,none⟩) 0 n) 0 []:=
 World.ownsRow_made W _ n hb (by unfold maxLen;omega) (by rw [size_madeCells];omega)
theorem eR(n:Nat)(hn:n<=200000)(c:Int)(hc:c=(n:Int))(W:World) :
  (Instr.makeSlice 278 (.int .i64 c) (.int .i64 c)).run Tryz.prog W=.ok (.slice (some ⟨W.heap.size,0,none⟩) n n) (W.alloc (.cells (madeCells #[.int .u64 0] n) 195)):=by
 subst hc;obtain⟨i0,hi,hz0,hz1,hz2⟩:=info_parts Tryz.infoU;have h:=run_make (P:=Tryz.prog) W 278 195 i0 (.int .u64 0) Tryz.underlying278 hi hz0 .i64 .i64 n n (by omega) (by omega) (by rw [hz2];omega) (by omega);rw [hz1,Nat.mul_one]at h;simp only [Int.toNat_natCast]at h;exact h
theorem fX(W:World)(base n:Nat)(hb:base<=W.heap.size)(hn:n<=200000) :
  (W.alloc (.cells (madeCells #[.int .u64 0] n) 195)).ownsRow base 195 1 (.slice (some ⟨W.heap.size,0,none⟩) n n) n (AZ (List.replicate n 0)):=by
 have h:=World.ownsRow_lit (w:=W) (base:=base) (e:=195) (size:=1) (madeCells #[.int .u64 0] n) n hb (by unfold maxLen;omega) (by rw [size_madeCells];omega);rw [toList_madeCells_one]at h
 simpa [AZ]using h
section
variable {P : Program} {ops : Array Oper} {rest : List Oper} {o : Oper} {a : Act} {Q : Exit → Act → World → Prop}
theorem qu{K:Act→World→Prop}(s x:Operand)(ho:o.op=.call {callee:=.builtin .append,args:=#[s,x],argTypes:=#[278,278]})
  (wr:World) (base:Nat) (v:Value) (n:Nat) (xs:List Nat) (hs:a.eval s=v) (hown:wr.ownsRow base 195 1 v n (AZ xs)) (hn:n<200000) (z:Int) (y:Nat) (hz:z=(y:Int))
  (hx:a.eval x=.slice (some ⟨wr.heap.size,0,none⟩) 1 1) (hbase:base<=wr.heap.size)
  (h:∀v' w',w'.ownsRow base 195 1 v' (n+1) (AZ (xs ++ [y]))→(∀w0,Aa w0 wr→w0.heap.size<=base→Aa w0 w')→K (a.put o.dst v') w') :
  o.wp Tryz.prog a (wr.alloc (.cells #[.int .u64 z] 195)) K Q:=by
 obtain⟨i0,hi,hz0,hz1,hz2⟩:=info_parts Tryz.infoU;subst hz;refine wp_append_own _ s x 278 ho base 195 i0 (.int .u64 0) 1 8 Tryz.underlying278 hi hz0 hz1 hz2 rfl (by omega) v n (AZ xs) hs (hown.alloc _) ⟨wr.heap.size,0,none⟩ 1 1 [.int .u64 (y:Nat)] hx rfl ?_ ?_ ?_ ?_ ?_ ?_
 ·intro j u hu
  match j,hu with
  | 0,hu=>
   simp only [List.getElem?_cons_zero,Option.some.injEq]at hu;subst hu;rw [Addr.add_lit,World.cell?_alloc_at _ _ _ _ (by simp)]
   rfl
  | j+1,hu=>simp at hu
 ·intro u hu;simp only [List.mem_singleton]at hu;subst hu;rfl
 ·unfold maxLen;omega
 ·omega
 ·simp;omega
 ·intro v' w' h2 h3 _;refine h v' w' (by simpa [AZ]using h2) fun w0 he hb=>?_;exact(he.alloc _).grownOwn h3 (hown.alloc _) hb
theorem app1(hgd:o.guard=none)(s x:Operand)(ho:o.op=.call {callee:=.builtin .append,args:=#[s,x],argTypes:=#[278,278]})
  (wr:World) (base:Nat) (v:Value) (n:Nat) (xs:List Nat) (hs:a.eval s=v) (hown:wr.ownsRow base 195 1 v n (AZ xs)) (hn:n<200000) (z:Int) (y:Nat) (hz:z=(y:Int))
  (hx:a.eval x=.slice (some ⟨wr.heap.size,0,none⟩) 1 1) (hbase:base<=wr.heap.size)
  (h:∀v' w',w'.ownsRow base 195 1 v' (n+1) (AZ (xs ++ [y]))→(∀w0,Aa w0 wr→w0.heap.size<=base→Aa w0 w')→wpList Tryz.prog ops Q rest (a.put o.dst v') w') :
  wpList Tryz.prog ops Q (o::rest) a (wr.alloc (.cells #[.int .u64 z] 195)):=
 wpList_plain hgd fun _ hK=>qu s x ho wr base v n xs hs hown hn z y hz hx hbase fun v' w' h2 h3=>hK _ _ (h v' w' h2 h3)
theorem nl{K:Act→World→Prop}{E:Prop}(hgd:o.guard=none)(s x:Operand)(ho:o.op=.call {callee:=.builtin .append,args:=#[s,x],argTypes:=#[278,278]})
  (wr:World) (base:Nat) (v:Value) (n:Nat) (xs:List Nat) (hs:a.eval s=v) (hown:wr.ownsRow base 195 1 v n (AZ xs)) (hn:n<200000) (z:Int) (y:Nat) (hz:z=(y:Int))
  (hx:a.eval x=.slice (some ⟨wr.heap.size,0,none⟩) 1 1) (hbase:base<=wr.heap.size)
  (h:∀v' w',w'.ownsRow base 195 1 v' (n+1) (AZ (xs ++ [y]))→(∀w0,Aa w0 wr→w0.heap.size<=base→Aa w0 w')→K (a.put o.dst v') w') :
  if Region.wanted o (yielded ops a.tmps)=true then Oper.wp Tryz.prog o a (wr.alloc (.cells #[.int .u64 z] 195)) K Q else E:=by
 have hw:Region.wanted o (yielded ops a.tmps)=true:=(by simp [Region.wanted,hgd]);rw [if_pos hw];exact qu s x ho wr base v n xs hs hown hn z y hz hx hbase h
end
theorem AH{w w':World}{base:Nat}{e:TypeId}{size:Nat}{v:Value}{n:Nat}{xs:List Value}(h:w.ownsRow base e size v n xs)(hx:Aa w w'):w'.ownsRow base e size v n xs:=
 h.kept (row:=none) ⟨hx.os,hx.tape,hx.output,hx.size,fun k hk _=>hx.block k hk⟩ (by cases v.ownBlock<;>simp)
theorem WG{w:World}{base:Nat}{e:TypeId}{size:Nat}{v:Value}{n:Nat}{xs:List Value}(h:w.ownsRow base e size v n xs):w.drew.ownsRow base e size v n xs:=h
theorem Rk(l:Bs)(i j:Nat):(⟨l.toArray⟩:ByteArray).extract i j=⟨((l.drop i).take (j-i)).toArray⟩:=by
 apply ByteArray.ext;rw [ByteArray.data_extract];simp
theorem YV(l:Bs)(k:Nat):(⟨l.toArray⟩:ByteArray).extract k l.length=⟨(l.drop k).toArray⟩:=by
 rw [Rk,List.take_of_length_le (by simp)]
theorem qQ(l:Bs)(k:Nat):(⟨l.toArray⟩:ByteArray).extract 0 k=⟨(l.take k).toArray⟩:=by
 rw [Rk];simp
theorem Im{a:ByteArray}{b:Bs}(h:a=⟨b.toArray⟩):Ending.returned (.string a)=.returned (S b):=by rw [h]
theorem AmT{α:Sort _}(a:α):∃x,x=a:=⟨a,rfl⟩
theorem AmU{p:Prop}(h:p):Hid p:=Lib.hid h
theorem AmV{w:World}{b:Nat}{o:Obj}(h:w.heap[b]?=some o):b<w.heap.size:=lt_of_block h
theorem AmW(w:World)(o:Obj):(w.alloc o).heap[w.heap.size]?=some o:=heap_alloc_new w o
theorem AmX(n:Nat):n<=n:=Nat.le_refl n
theorem AmY{α:Type _}{l:List α}{n:Nat}(h:n<l.length):l[n]∈l:=List.getElem_mem h
theorem AmZ(n:Nat):(n:Int).natAbs=n:=Int.natAbs_natCast n
theorem Ana{α:Type _}{i:Nat}{l:List α}(h:i<l.length):List.take (i+1) l=List.take i l ++ [l[i]]:=List.take_succ_eq_append_getElem h
theorem Anb{α:Type _}(a b:α):(some a=some b)=(a=b):=Option.some.injEq a b
theorem Anc{α:Type _}{l:List α}{i:Nat}(h:i<l.length):l[i]?=some l[i]:=List.getElem?_eq_getElem h
theorem Ane(n:Int)(h:-9223372036854775808<=n/\n<=9223372036854775807):IntKind.i64.wrap n=n:=IntWalk.i64_in n h
theorem Anf(w:World)(o:Obj):(w.alloc o).heap.size=w.heap.size+1:=World.size_alloc w o
theorem Ang{α:Type _}{i:Nat}{l:List α}(h:l.length<=i):List.take i l=l:=List.take_of_length_le h
theorem Anh{n m k:Nat}(h:n<m)(g:m<=k):n<k:=Nat.lt_of_lt_of_le h g
theorem Ani{n m k:Nat}(h:n<=m)(g:m<=k):n<=k:=Nat.le_trans h g
theorem Anj{α:Type _}{a:α} : ¬a∈[]:=List.not_mem_nil
theorem Ank{α:Type _}{a b:α} : a∈[b]↔a=b:=List.mem_singleton
theorem Anl{α:Type _}{l:List α}{i:Nat}{a:α} : l[i]?=some a↔∃h,l[i]=a:=List.getElem?_eq_some_iff
theorem Anm{α:Type _}{i:Nat}{b:α}{xs:Array α} : xs[i]?=some b↔∃h,xs[i]=b:=Array.getElem?_eq_some_iff
/-! ### trim -/
def EK(l:List Nat)(k:Nat):Prop:=k<=l.length/\∀j,k<=j→j<l.length→Ah l j=0
theorem EK.start(l:List Nat):EK l l.length:=⟨AmX _,fun j h1 h2=>by omega⟩
theorem EK.step{l:List Nat}{k:Nat}(h:EK l k)(_h0:k≠0)(hx:Ah l (k-1)=0):EK l (k-1):=
 ⟨by have:=h.1;omega,fun j h1 h2=>by
  by_cases e:j=k-1
  ·rw [e];exact hx
  ·exact h.2 j (by omega) h2⟩
theorem fH{b:Nat} : ∀{l:List Nat},(∀j,j<l.length→Ah l j=0)→Ag b l=0
 | [],_=>rfl
 | x::l,h=>by have hx:x=0:=h 0 (by simp);have:=fH (b:=b) (l:=l) fun j hj=>(by have:=h (j+1) (by simpa using hj);simpa [Ah]using this);rw [Ag,this,hx];simp
theorem EK.sum{l:List Nat}{k b:Nat}(h:EK l k):Ag b (l.take k)=Ag b l:=by
 conv=>rhs;rw [←List.take_append_drop k l,Wz]
 rw [fH (l:=l.drop k)]
 ·simp
 ·intro j hj;have:=h.2 (k+j) (by omega) (by simp at hj;omega)
  simpa [Ah]using this
theorem EK.done{l:List Nat}{k:Nat}(h:EK l k)(hl:∀x∈l,x<1000000000)(hx:k=0∨Ah l (k-1)≠0):l.take k=pc 1000000000 (Ag 1000000000 l):=by
 rw [←h.sum (b:=1000000000)];refine(jh (by omega) (fun x hm=>hl x (List.mem_of_mem_take hm)) ?_).symm;intro hne
 rcases hx with rfl|hx
 ·simp at hne
 ·have hk:=h.1
  have h0:0<k:=by
   rcases Nat.eq_zero_or_pos k with rfl|h0
   ·simp at hne
   ·exact h0
  rw [List.getLast_take];have e:l[k-1]?=some (l[k-1]'(by omega)):=Anc (by omega);rw [e];simp [Ah,List.getD,e]at hx ⊢;exact hx
theorem Rd.take{w:World}{A:Option Addr}{c:Nat}{l:List Nat}(h:BG w A c l){k:Nat}(hk:k<=l.length):Rd w (.slice A k c) (l.take k):=by
 have e:(l.take k).length=k:=(by rw [List.length_take];omega);refine⟨A,c,by rw [e],by have:=h.cap;omega,h.max,by have:=h.len;omega,fun h0=>?_⟩;obtain⟨b,o,e1,hc⟩:=h.ad (by omega);refine⟨b,o,e1,fun j hj=>?_⟩
 have:Ah (l.take k) j=Ah l j:=by rw [e]at hj;simp [Ah,hj]
 rw [this];exact hc j (by omega)
theorem trim_c(l:List Nat)(v:Value)(w:World)(hv:Rd w v l)(hl:∀x∈l,x<1000000000) :
  Calls Tryz.prog 282 #[v] w (Nm (Ag 1000000000 l) w):=by
 obtain⟨A,c,rfl,hr⟩:=hv;have B8:=hr.cap;have hmax:=hr.max;have hlen:=hr.len;go_enter Tryz.func282,Tryz.ntmps282;go_wp2
 go_loop [0] (fun v=>∃k:Nat,EK l k/\v=.slice A k c) (fun v=>match v with | .slice _ n _=>n|_=>0)
 case atStart=>exact⟨l.length,EK.start l,rfl⟩
 case round=>
  obtain⟨k,hk,rfl⟩:=hrel;have Cp:=hk.1;by_cases h0:k=0
  ·subst h0;go_wp2;go_ret;exact⟨_,rfl,by rw [←hk.done hl (.inl rfl)];exact Rd.take hr (by omega),Aa.refl _⟩
  ·obtain⟨b,o,rfl,hc⟩:=hr.ad (by omega);have hg:=hc (k-1) (by omega);clear hc;by_cases hx:Ah l (k-1)=0
   ·rw [hx]at hg;go_wp2
    go_round
    case rel=>exact⟨k-1,hk.step h0 hx,rfl⟩
    case measure=>simp;omega
   ·have hx':(((Ah l (k-1):Nat):Int) == 0)=false:=(by simpa using hx);go_wp2;go_ret;exact⟨_,rfl,by rw [←hk.done hl (.inr hx)];exact Rd.take hr (by omega),Aa.refl _⟩
theorem Qo(l:List Nat)(A:Option Addr)(c:Nat)(w:World)(hr:BG w A c l)(hl:∀x∈l,x<1000000000) :
  Calls Tryz.prog 282 #[.slice A l.length c] w (fun e w'=>e=.returned (.slice A (pc 1000000000 (Ag 1000000000 l)).length c)/\w'=w):=by
 have B8:=hr.cap;have hmax:=hr.max;have hlen:=hr.len;go_enter Tryz.func282,Tryz.ntmps282;go_wp2
 go_loop [0] (fun v=>∃k:Nat,EK l k/\v=.slice A k c) (fun v=>match v with | .slice _ n _=>n|_=>0)
 case atStart=>exact⟨l.length,EK.start l,rfl⟩
 case round=>
  obtain⟨k,hk,rfl⟩:=hrel;have Cp:=hk.1;by_cases h0:k=0
  ·subst h0;go_wp2;go_ret;exact⟨by rw [←hk.done hl (.inl rfl)];simp,rfl⟩
  ·obtain⟨b,o,rfl,hc⟩:=hr.ad (by omega);have hg:=hc (k-1) (by omega);clear hc;by_cases hx:Ah l (k-1)=0
   ·rw [hx]at hg;go_wp2
    go_round
    case rel=>exact⟨k-1,hk.step h0 hx,rfl⟩
    case measure=>simp;omega
   ·have hx':(((Ah l (k-1):Nat):Int) == 0)=false:=(by simpa using hx);go_wp2;go_ret;exact⟨by rw [←hk.done hl (.inr hx)];show Ending.returned (.slice _ k c)=.returned (.slice _ (l.take k).length c);rw [List.length_take,Nat.min_eq_left Cp],rfl⟩
theorem AhO{l:List Nat}(hl:∀x∈l,x<1000000000):∃k,k<=l.length/\pc 1000000000 (Ag 1000000000 l)=l.take k:=by
 obtain⟨k,hk,hx⟩:∃k,EK l k/\(k=0∨Ah l (k-1)≠0):=by
  have:∀n k,k<=n→EK l k→∃k,EK l k/\(k=0∨Ah l (k-1)≠0):=by
   intro n
   induction n with
   | zero=>intro k hk h;exact⟨k,h,.inl (by omega)⟩
   | succ n ih=>
    intro k hk h;by_cases h0:k=0
    ·exact⟨k,h,.inl h0⟩
    ·by_cases hx:Ah l (k-1)=0
     ·exact ih (k-1) (by omega) (h.step h0 hx)
     ·exact⟨k,h,.inr hx⟩
  exact this l.length l.length (AmX _) (EK.start l)
 exact⟨k,hk.1,(hk.done hl hx).symm⟩
theorem BG.pc{w:World}{A:Option Addr}{c:Nat}{l:List Nat}(h:BG w A c l)(hl:∀x∈l,x<1000000000):BG w A c (pc 1000000000 (Ag 1000000000 l)):=by
 obtain⟨k,hk,e⟩:=AhO hl;obtain⟨A',c',e1,h1⟩:=Rd.take h hk;simp only [Value.slice.injEq]at e1;obtain⟨rfl,_,rfl⟩:=e1;rw [e];exact h1
theorem pj(l:List Nat)(v:Value)(w:World)(hv:Rd w v l)(hl:∀x∈l,x<1000000000) :
  Calls Tryz.prog 282 #[v] w (fun e w'=>∃v',e=.returned v'/\Rd w' v' (pc 1000000000 (Ag 1000000000 l))/\Aa w w'/\v'.ownBlock=v.ownBlock):=by
 obtain⟨A,c,rfl,hr⟩:=hv;refine(Qo l A c w hr hl).mono ?_;rintro e w' ⟨rfl,rfl⟩;exact⟨_,rfl,⟨A,c,rfl,hr.pc hl⟩,Aa.refl _,by cases A<;>rfl⟩
theorem fV{w:World}{base:Nat}{e:TypeId}{size:Nat}{v:Value}{n:Nat}{xs:List Value}(h:w.ownsRow base e size v n xs)(b:Nat)(hb:v.ownBlock=some b):base<=b:=by
 rcases h.2 with⟨rfl,_⟩|⟨g,cap,cur,rfl,hg,_⟩
 ·cases hb
 ·simp only [Value.ownBlock,Anb]at hb;omega
/-! ### plus -/
structure Ix(a b out:List Nat)(k c:Nat):Prop where
 le:k<=a.length
 len:out.length=k
 lt:∀x∈out,x<1000000000
 c1:c<=1
 sum:Ag 1000000000 out+1000000000^k*c=Ag 1000000000 (a.take k)+Ag 1000000000 (b.take k)
theorem Ix.start(a b:List Nat):Ix a b [] 0 0:=⟨Nat.zero_le _,rfl,by simp,by omega,by simp [Ag]⟩
theorem Ix.step{a b out:List Nat}{k c s:Nat}(h:Ix a b out k c)(hk:k<a.length)(ha:∀x∈a,x<1000000000)(hb:∀x∈b,x<1000000000)
  (hs:s=c+Ah a k+(if k<b.length then Ah b k else 0)):Ix a b (out ++ [s%1000000000]) (k+1) (s/1000000000):=by
 have h1:=Cd ha hk
 have hs2:s<=1999999999:=by
  have:=h.c1
  split at hs
  ·have:=Cd hb ‹k<b.length›;omega
  ·omega
 refine⟨hk,by simp [h.len],?_,by omega,?_⟩
 ·intro x hx
  rcases List.mem_append.1 hx with hx|hx
  ·exact h.lt x hx
  ·simp at hx;subst hx;omega
 ·rw [FZ,h.len,Nat.pow_succ,Lz hk,FZ,List.length_take,Nat.min_eq_left h.le]
  have e:Ag 1000000000 (b.take (k+1))=Ag 1000000000 (b.take k)+1000000000^k*(if k<b.length then Ah b k else 0):=by
   by_cases hkb:k<b.length
   ·rw [if_pos hkb,Lz hkb,FZ,List.length_take,Nat.min_eq_left (by omega)]
   ·rw [if_neg hkb,Ang (by omega),Ang (by omega)];simp
  rw [e];have hm:s%1000000000+1000000000*(s/1000000000)=c+Ah a k+(if k<b.length then Ah b k else 0):=(by omega);have Ev:=h.sum;generalize (if k<b.length then Ah b k else 0)=y at *;generalize s%1000000000=r at *;generalize s/1000000000=q at *;generalize 1000000000^k=p at *
  have:p*r+p*1000000000*q=p*c+p*Ah a k+p*y:=by rw [Nat.mul_assoc,←Nat.mul_add,hm,Nat.mul_add,Nat.mul_add]
  omega
theorem Ix.done{a b out:List Nat}{c:Nat}(h:Ix a b out a.length c)(hab:b.length<=a.length) :
  Ag 1000000000 (out ++ [c])=Ag 1000000000 a+Ag 1000000000 b/\∀x∈out ++ [c],x<1000000000:=by
 have hs:=h.sum;rw [List.take_length,Ang hab]at hs;refine⟨by rw [FZ,h.len,hs],fun x hx=>?_⟩
 rcases List.mem_append.1 hx with hx|hx
 ·exact h.lt x hx
 ·simp at hx;subst hx;have:=h.c1;omega
theorem AhY(a b:List Nat)(u v:Value)(w:World)(hu:Rd w u a)(hv:Rd w v b)(FT:a.length<50000)(ha:∀x∈a,x<1000000000)(hb:∀x∈b,x<1000000000)(hlt:¬a.length<b.length) :
  Calls Tryz.prog 355 #[u,v] w (Nm (Ag 1000000000 a+Ag 1000000000 b) w):=by
 obtain⟨A,ca,rfl,Cq⟩:=hu;obtain⟨B,cb,rfl,BP⟩:=hv;have Vk:=Cq.cap;have hcb:=BP.cap;have VE:=Cq.max;have Su:=BP.max;have hmk:=Wq (a.length+1) (by omega) ((a.length:Int)+1) (by omega);have how:=WI w w.heap.size (a.length+1) (AmX _) (by omega);go_enter Tryz.func355,Tryz.ntmps355;go_wp2;clear hmk
 go_loopw [5,6,22] (fun v c i wr=>∃(k:Nat) (out:List Nat) (cn:Nat),Ix a b out k cn/\i=.int .i64 k/\c=.int .u64 cn/\wr.ownsRow w.heap.size 195 1 v k (AZ out)/\Aa w wr)
  (fun _ _ i _=>a.length-(intOf i).toNat)
 case atStart=>exact⟨0,[],0,Ix.start a b,rfl,rfl,how,(Aa.refl w).alloc _⟩
 case round=>
  obtain⟨k,out,cn,hP,rfl,rfl,hown,Ac⟩:=hrel;clear how;have Cp:=hP.le;have hc1:=hP.c1;have hsz:=Ac.size;by_cases hk:k<a.length
  ·obtain⟨ba,oa,rfl,Gq⟩:=Cq.ad (by omega);have hg:=Ac.cellS (Gq k hk);have Az:=Cd ha hk;clear Gq;by_cases hkb:k<b.length
   ·obtain⟨bb,ob,rfl,Gr⟩:=BP.ad (by omega);have hgb:=Ac.cellS (Gr k hkb);have hxb:=Cd hb hkb;clear Gr
    go_wp2_with (at_builtin;refine app1 rfl _ _ rfl wr w.heap.size u5 k out rfl hown (by omega) _ ((cn+Ah a k+Ah b k)%1000000000) (by omega) rfl hsz ?_;intro v1 w1 hown1 hx1)
    go_roundw
    case rel=>exact⟨k+1,_,_,hP.step hk ha hb (by rw [if_pos hkb]),by go_num,by go_num,hown1,hx1 _ Ac (AmX _)⟩
    case measure=>simp [intOf];omega
   ·go_wp2_with (at_builtin;refine app1 rfl _ _ rfl wr w.heap.size u5 k out rfl hown (by omega) _ ((cn+Ah a k)%1000000000) (by omega) rfl hsz ?_;intro v1 w1 hown1 hx1)
    go_roundw
    case rel=>exact⟨k+1,_,_,hP.step (s:=cn+Ah a k) hk ha hb (by rw [if_neg hkb];rfl),by go_num,by go_num,hown1,hx1 _ Ac (AmX _)⟩
    case measure=>simp [intOf];omega
  ·obtain rfl:k=a.length:=(by omega);have hd:=hP.done (by omega);have Ic:=hP.len
   go_wp2_with (at_builtin;refine app1 rfl _ _ rfl wr w.heap.size u5 _ out rfl hown (by omega) _ cn rfl rfl hsz ?_;intro v1 w1 hown1 hx1)
   have AO:Rd w1 v1 (out ++ [cn]):=Rd.of_own (by simpa [Ic]using hown1) (by simp;omega);refine(trim_c _ _ _ AO hd.2).mono ?_;rintro e w2 ⟨v2,rfl,hv2,hx2⟩;go_wp2;go_ret;exact⟨v2,rfl,by rw [←hd.1];exact hv2,(hx1 _ Ac (AmX _)).trans hx2⟩
theorem AhZ(a b:List Nat)(u v:Value)(w:World)(hu:Rd w u a)(hv:Rd w v b)(FT:a.length<50000)(ha:∀x∈a,x<1000000000)(hb:∀x∈b,x<1000000000)(hlt:b.length<a.length) :
  Calls Tryz.prog 355 #[v,u] w (Nm (Ag 1000000000 a+Ag 1000000000 b) w):=by
 obtain⟨A,ca,rfl,Cq⟩:=hu;obtain⟨B,cb,rfl,BP⟩:=hv;have Vk:=Cq.cap;have hcb:=BP.cap;have VE:=Cq.max;have Su:=BP.max;have hmk:=Wq (a.length+1) (by omega) ((a.length:Int)+1) (by omega);have how:=WI w w.heap.size (a.length+1) (AmX _) (by omega);go_enter Tryz.func355,Tryz.ntmps355;go_wp2;clear hmk
 go_loopw [5,6,22] (fun v c i wr=>∃(k:Nat) (out:List Nat) (cn:Nat),Ix a b out k cn/\i=.int .i64 k/\c=.int .u64 cn/\wr.ownsRow w.heap.size 195 1 v k (AZ out)/\Aa w wr)
  (fun _ _ i _=>a.length-(intOf i).toNat)
 case atStart=>exact⟨0,[],0,Ix.start a b,rfl,rfl,how,(Aa.refl w).alloc _⟩
 case round=>
  obtain⟨k,out,cn,hP,rfl,rfl,hown,Ac⟩:=hrel;clear how;have Cp:=hP.le;have hc1:=hP.c1;have hsz:=Ac.size;by_cases hk:k<a.length
  ·obtain⟨ba,oa,rfl,Gq⟩:=Cq.ad (by omega);have hg:=Ac.cellS (Gq k hk);have Az:=Cd ha hk;clear Gq;by_cases hkb:k<b.length
   ·obtain⟨bb,ob,rfl,Gr⟩:=BP.ad (by omega);have hgb:=Ac.cellS (Gr k hkb);have hxb:=Cd hb hkb;clear Gr
    go_wp2_with (at_builtin;refine app1 rfl _ _ rfl wr w.heap.size u5 k out rfl hown (by omega) _ ((cn+Ah a k+Ah b k)%1000000000) (by omega) rfl hsz ?_;intro v1 w1 hown1 hx1)
    go_roundw
    case rel=>exact⟨k+1,_,_,hP.step hk ha hb (by rw [if_pos hkb]),by go_num,by go_num,hown1,hx1 _ Ac (AmX _)⟩
    case measure=>simp [intOf];omega
   ·go_wp2_with (at_builtin;refine app1 rfl _ _ rfl wr w.heap.size u5 k out rfl hown (by omega) _ ((cn+Ah a k)%1000000000) (by omega) rfl hsz ?_;intro v1 w1 hown1 hx1)
    go_roundw
    case rel=>exact⟨k+1,_,_,hP.step (s:=cn+Ah a k) hk ha hb (by rw [if_neg hkb];rfl),by go_num,by go_num,hown1,hx1 _ Ac (AmX _)⟩
    case measure=>simp [intOf];omega
  ·obtain rfl:k=a.length:=(by omega);have hd:=hP.done (by omega);have Ic:=hP.len
   go_wp2_with (at_builtin;refine app1 rfl _ _ rfl wr w.heap.size u5 _ out rfl hown (by omega) _ cn rfl rfl hsz ?_;intro v1 w1 hown1 hx1)
   have AO:Rd w1 v1 (out ++ [cn]):=Rd.of_own (by simpa [Ic]using hown1) (by simp;omega);refine(trim_c _ _ _ AO hd.2).mono ?_;rintro e w2 ⟨v2,rfl,hv2,hx2⟩;go_wp2;go_ret;exact⟨v2,rfl,by rw [←hd.1];exact hv2,(hx1 _ Ac (AmX _)).trans hx2⟩
theorem gK(a b:List Nat)(u v:Value)(w:World)(hu:Rd w u a)(hv:Rd w v b)(FT:a.length<50000)(FU:b.length<50000)(ha:∀x∈a,x<1000000000)(hb:∀x∈b,x<1000000000) :
  Calls Tryz.prog 355 #[u,v] w (Nm (Ag 1000000000 a+Ag 1000000000 b) w):=by
 by_cases h:a.length<b.length
 ·rw [Nat.add_comm];exact AhZ b a v u w hv hu FU hb ha h
 ·exact AhY a b u v w hu hv FT ha hb h
structure Kf(a b out:List Nat)(k c:Nat):Prop where
 le:k<=a.length
 len:out.length=k
 lt:∀x∈out,x<1000000000
 c1:c<=1
 sum:Ag 1000000000 out+Ag 1000000000 (b.take k)=Ag 1000000000 (a.take k)+1000000000^k*c
theorem Kf.start(a b:List Nat):Kf a b [] 0 0:=⟨Nat.zero_le _,rfl,by simp,by omega,by simp [Ag]⟩
theorem Kf.step{a b out:List Nat}{k c d c2:Nat}(h:Kf a b out k c)(hk:k<a.length)(hd:d<1000000000)(hc2:c2<=1)
  (he:d+(c+(if k<b.length then Ah b k else 0))=Ah a k+1000000000*c2):Kf a b (out ++ [d]) (k+1) c2:=by
 refine⟨hk,by simp [h.len],?_,hc2,?_⟩
 ·intro x hx
  rcases List.mem_append.1 hx with hx|hx
  ·exact h.lt x hx
  ·simp at hx;subst hx;exact hd
 ·rw [FZ,h.len,Nat.pow_succ,Lz hk,FZ,List.length_take,Nat.min_eq_left h.le]
  have e:Ag 1000000000 (b.take (k+1))=Ag 1000000000 (b.take k)+1000000000^k*(if k<b.length then Ah b k else 0):=by
   by_cases hkb:k<b.length
   ·rw [if_pos hkb,Lz hkb,FZ,List.length_take,Nat.min_eq_left (by omega)]
   ·rw [if_neg hkb,Ang (by omega),Ang (by omega)];simp
  rw [e];have Ev:=h.sum;generalize (if k<b.length then Ah b k else 0)=y at *;generalize 1000000000^k=p at *
  have:p*d+(p*c+p*y)=p*Ah a k+p*1000000000*c2:=by rw [Nat.mul_assoc,←Nat.mul_add,←Nat.mul_add,←Nat.mul_add,he]
  omega
theorem Kf.done{a b out:List Nat}{c:Nat}(h:Kf a b out a.length c)(hab:b.length<=a.length)(hle:Ag 1000000000 b<=Ag 1000000000 a) :
  Ag 1000000000 out=Ag 1000000000 a-Ag 1000000000 b:=by
 have hs:=h.sum;rw [List.take_length,Ang hab]at hs;have hlt:=Ih h.lt;rw [h.len]at hlt
 have hc:c=0:=by
  rcases Nat.eq_zero_or_pos c with e|e
  ·exact e
  ·have e1:c=1:=(by have:=h.c1;omega);rw [e1]at hs;omega
 rw [hc]at hs;omega
theorem dw(a b:List Nat)(u v:Value)(w:World)(hu:Rd w u a)(hv:Rd w v b)(FT:a.length<50000)(ha:∀x∈a,x<1000000000)(hb:∀x∈b,x<1000000000)
  (hab:b.length<=a.length) (hle:Ag 1000000000 b<=Ag 1000000000 a) :
  Calls Tryz.prog 335 #[u,v] w (QF (Ag 1000000000 a-Ag 1000000000 b) w):=by
 obtain⟨A,ca,rfl,Cq⟩:=hu;obtain⟨B,cb,rfl,BP⟩:=hv;have Vk:=Cq.cap;have hcb:=BP.cap;have VE:=Cq.max;have Su:=BP.max;have HL:=AmU hle;clear hle;have hmk:=Wq a.length (by omega) (a.length:Int) rfl;have how:=WI w w.heap.size a.length (AmX _) (by omega);go_enter Tryz.func335,Tryz.ntmps335;go_wp2;clear hmk
 go_loopw [5,6,15] (fun v c i wr=>∃(k:Nat) (out:List Nat) (cn:Nat),Kf a b out k cn/\i=.int .i64 k/\c=.int .u64 cn/\wr.ownsRow w.heap.size 195 1 v k (AZ out)/\Aa w wr)
  (fun _ _ i _=>a.length-(intOf i).toNat)
 case atStart=>exact⟨0,[],0,Kf.start a b,rfl,rfl,how,(Aa.refl w).alloc _⟩
 case round=>
  obtain⟨k,out,cn,hP,rfl,rfl,hown,Ac⟩:=hrel;clear how;have Cp:=hP.le;have hc1:=hP.c1;have hsz:=Ac.size;by_cases hk:k<a.length
  ·obtain⟨ba,oa,rfl,Gq⟩:=Cq.ad (by omega);have hg:=Ac.cellS (Gq k hk);have Az:=Cd ha hk;clear Gq;by_cases hkb:k<b.length
   ·obtain⟨bb,ob,rfl,Gr⟩:=BP.ad (by omega);have hgb:=Ac.cellS (Gr k hkb);have hxb:=Cd hb hkb;clear Gr;by_cases dS:Ah a k<cn+Ah b k
    ·go_wp2_with (at_builtin;refine app1 rfl _ _ rfl wr w.heap.size u5 k out rfl hown (by omega) _ (Ah a k+1000000000-(cn+Ah b k)) (by omega) rfl hsz ?_;intro v1 w1 hown1 hx1)
     go_roundw
     case rel=>exact⟨k+1,_,1,hP.step hk (by omega) (by omega) (by rw [if_pos hkb];omega),by go_num,rfl,hown1,hx1 _ Ac (AmX _)⟩
     case measure=>simp [intOf];omega
    ·go_wp2_with (at_builtin;refine app1 rfl _ _ rfl wr w.heap.size u5 k out rfl hown (by omega) _ (Ah a k-(cn+Ah b k)) (by omega) rfl hsz ?_;intro v1 w1 hown1 hx1)
     go_roundw
     case rel=>exact⟨k+1,_,0,hP.step hk (by omega) (by omega) (by rw [if_pos hkb];omega),by go_num,rfl,hown1,hx1 _ Ac (AmX _)⟩
     case measure=>simp [intOf];omega
   ·by_cases dS:Ah a k<cn
    ·go_wp2_with (at_builtin;refine app1 rfl _ _ rfl wr w.heap.size u5 k out rfl hown (by omega) _ (Ah a k+1000000000-cn) (by omega) rfl hsz ?_;intro v1 w1 hown1 hx1)
     go_roundw
     case rel=>exact⟨k+1,_,1,hP.step hk (by omega) (by omega) (by rw [if_neg hkb];omega),by go_num,rfl,hown1,hx1 _ Ac (AmX _)⟩
     case measure=>simp [intOf];omega
    ·go_wp2_with (at_builtin;refine app1 rfl _ _ rfl wr w.heap.size u5 k out rfl hown (by omega) _ (Ah a k-cn) (by omega) rfl hsz ?_;intro v1 w1 hown1 hx1)
     go_roundw
     case rel=>exact⟨k+1,_,0,hP.step hk (by omega) (by omega) (by rw [if_neg hkb];omega),by go_num,rfl,hown1,hx1 _ Ac (AmX _)⟩
     case measure=>simp [intOf];omega
  ·obtain rfl:k=a.length:=(by omega);have Ic:=hP.len;(go_wp2_with fail);have AO:Rd wr u5 out:=Rd.of_own (by simpa [Ic]using hown) (by omega);refine(pj _ _ _ AO hP.lt).mono ?_;rintro e w2 ⟨v2,rfl,hv2,hx2,ho2⟩;have HO:=AmU ho2;clear ho2;go_wp2;go_ret;exact⟨v2,rfl,by rw [←hP.done hab HL.out];exact hv2,Ac.trans hx2,fun b hb=>fV hown b (by rw [←HO.out];exact hb)⟩
theorem SU(a b:List Nat)(u v:Value)(w:World)(hu:Rd w u a)(hv:Rd w v b)(FT:a.length<50000)(ha:∀x∈a,x<1000000000)(hb:∀x∈b,x<1000000000)
  (hab:b.length<=a.length) (hle:Ag 1000000000 b<=Ag 1000000000 a) :
  Calls Tryz.prog 335 #[u,v] w (Nm (Ag 1000000000 a-Ag 1000000000 b) w):=
 (dw a b u v w hu hv FT ha hb hab hle).mono fun _ _ h=>h.plain
def D9(x y:Nat):Int:=if x<y then -1 else if x=y then 0 else 1
theorem LR{x y:Nat}(h:x<y):D9 x y = -1:=by unfold D9;rw [if_pos h]
theorem Ks{x y:Nat}(h:y<x):D9 x y=1:=by unfold D9;rw [if_neg (by omega),if_neg (by omega)]
theorem OK{x y:Nat}(h:x=y):D9 x y=0:=by unfold D9;rw [if_neg (by omega),if_pos h]
theorem Be{a b:Int}(h:b=a):Ending.returned (.int .i64 a)=.returned (.int .i64 b):=by rw [h]
def AA(n:Int)(w:World)(e:Ending)(w':World):Prop:=e=.returned (.int .i64 n)/\Aa w w'
theorem LU{l:List Nat}{k:Nat}(h:k<l.length):l.drop k=Ah l k::l.drop (k+1):=by
 rw [List.drop_eq_getElem_cons h];simp [Ah,h]
theorem PT(a b:List Nat)(u v:Value)(w:World)(hu:Rd w u a)(hv:Rd w v b)(ha:∀x∈a,x<1000000000)(hb:∀x∈b,x<1000000000)(hta:Hm a)(P5:Hm b) :
  Calls Tryz.prog 333 #[u,v] w (AA (D9 (Ag 1000000000 a) (Ag 1000000000 b)) w):=by
 obtain⟨A,ca,rfl,Cq⟩:=hu;obtain⟨B,cb,rfl,BP⟩:=hv;have Vk:=Cq.cap;have hcb:=BP.cap;have VE:=Cq.max;have Su:=BP.max;have FT:=Cq.len;have FU:=BP.len;by_cases hab:a.length=b.length
 ·have hne:(((a.length:Nat):Int) != (b.length:Nat))=false:=(by simp [hab]);go_enter Tryz.func333,Tryz.ntmps333;have TG:=AmU hab;clear hab;go_wp2
  go_loopw [5] (fun i wr=>∃z:Int,-1<=z/\z<a.length/\a.drop (z+1).toNat=b.drop (z+1).toNat/\i=.int .i64 z/\Aa w wr) (fun i _=>(intOf i+1).toNat)
  case atStart=>exact⟨(a.length:Int)-1,by omega,by omega,by rw [show ((a.length:Int)-1+1).toNat=a.length by omega,List.drop_length,TG.out,List.drop_length],rfl,Aa.refl w⟩
  case round=>
   obtain⟨z,hz1,hz2,hd,rfl,Ac⟩:=hrel;have HD:=AmU hd;clear hd;by_cases h0:z<0
   ·go_wp2;go_ret;have e:a=b:=(by have:=HD.out;rw [show (z+1).toNat=0 by omega]at this;simpa using this);exact⟨Be (by rw [e,OK rfl]),Ac⟩
   ·obtain⟨n,rfl⟩:=Int.eq_ofNat_of_zero_le (show 0<=z by omega);have Ci:n<a.length:=(by omega);have hk2:n<b.length:=(by have:=TG.out;omega);obtain⟨ba,oa,rfl,Gq⟩:=Cq.ad (by omega);have Pq:=Ac.cellS (Gq n Ci);obtain⟨bb,ob,rfl,Gr⟩:=BP.ad (by omega);have hgb:=Ac.cellS (Gr n hk2);have Az:=Cd ha Ci;have hxb:=Cd hb hk2;have Et:a.drop (n+1)=b.drop (n+1):=(by have:=HD.out;rwa [show ((n:Int)+1).toNat=n+1 by omega]at this);have MX:=AmU Et;clear Gq Gr HD Et
    rcases Nat.lt_trichotomy (Ah a n) (Ah b n)with hx|hx|hx
    ·have h1:(((Ah a n:Nat):Int) != (Ah b n:Nat))=true:=(by rw [bne_iff_ne];omega);(go_wp2_with fail)
     go_quiet (fail)
     (go_wp2_with fail)
     go_quiet (fail)
     go_wp2;go_ret;exact⟨Be (LR (fu n ha hb TG.out Ci MX.out hx)),(Ac.drewN _).drewN _⟩
    ·have h1:(((Ah a n:Nat):Int) != (Ah b n:Nat))=false:=(by simp [hx]);have HX:=AmU hx;clear hx;(go_wp2_with fail)
     go_quiet (fail)
     go_wp2;go_roundw
     case rel=>refine⟨(n:Int)-1,by omega,by omega,?_,by go_num,Ac.drewN _⟩;rw [show ((n:Int)-1+1).toNat=n by omega,LU Ci,LU hk2,HX.out,MX.out]
     case measure=>simp [intOf]
    ·have h1:(((Ah a n:Nat):Int) != (Ah b n:Nat))=true:=(by rw [bne_iff_ne];omega);(go_wp2_with fail)
     go_quiet (fail)
     (go_wp2_with fail)
     go_quiet (fail)
     go_wp2;go_ret;exact⟨Be (Ks (fu n hb ha TG.out.symm hk2 MX.out.symm hx)),(Ac.drewN _).drewN _⟩
 ·have hne:(((a.length:Nat):Int) != (b.length:Nat))=true:=(by rw [bne_iff_ne];omega);by_cases hlt:a.length<b.length
  ·go_enter Tryz.func333,Tryz.ntmps333;go_wp2;go_ret;exact⟨Be (LR (gb (by omega) ha P5 hlt)),Aa.refl w⟩
  ·go_enter Tryz.func333,Tryz.ntmps333;go_wp2;go_ret;exact⟨Be (Ks (gb (by omega) hb hta (by omega))),Aa.refl w⟩
theorem Tc{b:Nat} : ∀{l:List Nat} {j:Nat} (y:Nat),j<l.length→Ag b (l.set j y)+b^j*Ah l j=Ag b l+b^j*y
 | x::l,0,y,_=>by simp [Ag,Ah];omega
 | x::l,j+1,y,h=>by have ih:=Tc (b:=b) (l:=l) (j:=j) y (by simpa using h);have e:Ah (x::l) (j+1)=Ah l j:=(by simp [Ah]);rw [List.set_cons_succ,e];simp only [Ag,Nat.pow_succ];generalize Ag b (l.set j y)=p at *;generalize Ag b l=q at *;generalize Ah l j=r at *;have:b*(p+b^j*r)=b*(q+b^j*y):=(by rw [ih]);rw [Nat.mul_add,Nat.mul_add]at this;rw [Nat.mul_comm (b^j) b,Nat.mul_assoc,Nat.mul_assoc];omega
theorem Xf(l:List Nat)(j y:Nat):(AZ l).set j (.int .u64 (y:Nat))=AZ (l.set j y):=by simp [AZ,List.map_set]
theorem Wo{l:List Nat}{j y b:Nat}(h:∀x∈l,x<b)(hy:y<b):∀x∈l.set j y,x<b:=by
 intro x hx
 rcases List.mem_or_eq_of_mem_set hx with h1|h1
 ·exact h x h1
 ·rw [h1];exact hy
theorem SX{x y:Nat}(hx:x<1000000000)(hy:y<1000000000):x*y<=999999998000000001:=by
 have h1:x*y<=999999999*999999999:=Nat.mul_le_mul (by omega) (by omega);omega
structure Yb(n:Nat)(out:List Nat)(v:Nat):Prop where
 len:out.length=n
 lt:∀x∈out,x<1000000000
 sum:Ag 1000000000 out=v
structure Kk(n i k x:Nat)(b out:List Nat)(c v:Nat):Prop where
 len:out.length=n
 lt:∀x∈out,x<1000000000
 le:k<=b.length
 cl:c<1000000000
 sum:Ag 1000000000 out+1000000000^(i+k)*c=v+1000000000^i*(x*Ag 1000000000 (b.take k))
theorem Kk.start{n i x v:Nat}{b out:List Nat}(h:Yb n out v):Kk n i 0 x b out 0 v:=
 ⟨h.len,h.lt,Nat.zero_le _,by omega,by simp [Ag,h.sum]⟩
theorem Kk.step{n i k x c v s:Nat}{b out:List Nat}(h:Kk n i k x b out c v)(hk:k<b.length)(hn:i+k<n)(hx:x<1000000000)(hb:∀y∈b,y<1000000000)
  (hs:s=c+(Ah out (i+k)+x*Ah b k)):Kk n i (k+1) x b (out.set (i+k) (s%1000000000)) (s/1000000000) v:=by
 have h1:=Cd hb hk;have h2:=Cd h.lt (show i+k<out.length by rw [h.len];exact hn);have h3:=SX hx h1;have h4:=h.cl;refine⟨by rw [List.length_set,h.len],Wo h.lt (by omega),hk,by omega,?_⟩;have e:=Tc (b:=1000000000) (l:=out) (j:=i+k) (s%1000000000) (by rw [h.len];exact hn);have Ev:=h.sum;rw [Lz hk,FZ,List.length_take,Nat.min_eq_left h.le,Nat.mul_add,Nat.mul_add];have e1:1000000000^(i+(k+1))=1000000000^(i+k)*1000000000:=by rw [show i+(k+1)=i+k+1 by omega,Nat.pow_succ]
 have e2:1000000000^i*(x*(1000000000^k*Ah b k))=1000000000^(i+k)*(x*Ah b k):=by rw [Nat.pow_add,Nat.mul_left_comm x,Nat.mul_assoc]
 rw [e1,e2];have hm:s%1000000000+1000000000*(s/1000000000)=c+(Ah out (i+k)+x*Ah b k):=(by omega);generalize x*Ah b k=t at *;generalize s%1000000000=r at *;generalize s/1000000000=q at *;generalize 1000000000^(i+k)=p at *;generalize 1000000000^i*(x*Ag 1000000000 (b.take k))=g at *
 have:p*r+p*1000000000*q=p*c+(p*Ah out (i+k)+p*t):=by rw [Nat.mul_assoc,←Nat.mul_add,hm,Nat.mul_add,Nat.mul_add]
 omega
structure Km(n k:Nat)(out:List Nat)(c v:Nat):Prop where
 len:out.length=n
 lt:∀x∈out,x<1000000000
 cl:c<1000000000
 sum:Ag 1000000000 out+1000000000^k*c=v
theorem Kk.up{n i x c v:Nat}{b out:List Nat}(h:Kk n i b.length x b out c v):Km n (i+b.length) out c (v+1000000000^i*(x*Ag 1000000000 b)):=
 ⟨h.len,h.lt,h.cl,by have:=h.sum;rwa [List.take_length]at this⟩
theorem Km.room{n k c v m:Nat}{out:List Nat}(h:Km n k out c v)(hc:0<c)(hv:v<1000000000^m):k<m:=by
 have h1:=h.sum;have h2:1000000000^k*1<=1000000000^k*c:=Nat.mul_le_mul_left _ hc;have:1000000000^k<1000000000^m:=(by omega);exact(Nat.pow_lt_pow_iff_right (by omega)).1 this
theorem Km.step{n k c v s:Nat}{out:List Nat}(h:Km n k out c v)(hk:k<n)(hs:s=c+Ah out k):Km n (k+1) (out.set k (s%1000000000)) (s/1000000000) v:=by
 have h2:=Cd h.lt (show k<out.length by rw [h.len];exact hk);have h4:=h.cl;refine⟨by rw [List.length_set,h.len],Wo h.lt (by omega),by omega,?_⟩;have e:=Tc (b:=1000000000) (l:=out) (j:=k) (s%1000000000) (by rw [h.len];exact hk);have Ev:=h.sum;rw [Nat.pow_succ];have hm:s%1000000000+1000000000*(s/1000000000)=c+Ah out k:=(by omega);generalize s%1000000000=r at *;generalize s/1000000000=q at *;generalize 1000000000^k=p at *
 have:p*r+p*1000000000*q=p*c+p*Ah out k:=by rw [Nat.mul_assoc,←Nat.mul_add,hm,Nat.mul_add]
 omega
theorem Km.done{n k v:Nat}{out:List Nat}(h:Km n k out 0 v):Yb n out v:=⟨h.len,h.lt,by have:=h.sum;simpa using this⟩
theorem Akg{a b:List Nat}{i:Nat}(hi:i<a.length) :
  Ag 1000000000 (a.take i)*Ag 1000000000 b+1000000000^i*(Ah a i*Ag 1000000000 b)=Ag 1000000000 (a.take (i+1))*Ag 1000000000 b:=by
 rw [Lz hi,FZ,List.length_take,Nat.min_eq_left (by omega),Nat.add_mul,Nat.mul_assoc]
theorem Akf{a b:List Nat}{i:Nat}(hi:i<=a.length)(ha:∀x∈a,x<1000000000)(hb:∀x∈b,x<1000000000) :
  Ag 1000000000 (a.take i)*Ag 1000000000 b<1000000000^(i+b.length):=by
 have h1:=Ih (l:=a.take i) (b:=1000000000) fun x hx=>ha x (List.mem_of_mem_take hx);have h2:=Ih hb;rw [List.length_take,Nat.min_eq_left hi]at h1;rw [Nat.pow_add];exact Nat.mul_lt_mul'' h1 h2
theorem oz(a b:List Nat)(u v:Value)(w:World)(hu:Rd w u a)(hv:Rd w v b)(FT:a.length<40000)(FU:b.length<40000)(ha:∀x∈a,x<1000000000)(hb:∀x∈b,x<1000000000) :
  Calls Tryz.prog 226 #[u,v] w (QF (Ag 1000000000 a*Ag 1000000000 b) w):=by
 obtain⟨A,ca,rfl,Cq⟩:=hu;obtain⟨B,cb,rfl,BP⟩:=hv;have Vk:=Cq.cap;have hcb:=BP.cap;have VE:=Cq.max;have Su:=BP.max;have hmk:=eR (a.length+b.length+1) (by omega) ((a.length:Int)+(b.length:Int)+1) (by omega);have how:=fX w w.heap.size (a.length+b.length+1) (AmX _) (by omega);go_enter Tryz.func226,Tryz.ntmps226;go_wp2;clear hmk;obtain⟨N,hN⟩:=AmT (a.length+b.length+1);rw [←hN]at how ⊢;have HN:=AmU hN;clear hN;obtain⟨H,hH⟩:=AmT w.heap.size;rw [←hH]at how;simp only [←hH];have HH:=AmU hH;clear hH
 go_loopw [21] (fun i wr=>∃(k:Nat) (out:List Nat),k<=a.length/\i=.int .i64 k/\Yb N out (Ag 1000000000 (a.take k)*Ag 1000000000 b)/\wr.ownsRow H 195 1 (.slice (some ⟨H,0,none⟩) N N) N (AZ out)/\Aa w wr)
  (fun i _=>a.length-(intOf i).toNat)
 case atStart=>exact⟨0,List.replicate N 0,Nat.zero_le _,rfl,⟨by simp,by intro x hx;rw [List.mem_replicate]at hx;omega,by rw [fH (fun j hj=>by simp at hj;simp [Ah,hj])];simp [Ag]⟩,how,(Aa.refl w).alloc _⟩
 case round=>
  obtain⟨i,out,hi,rfl,hT,hown,Ac⟩:=hrel;obtain⟨wo,rfl⟩:=AmT (wr:World);clear how;by_cases hk:i<a.length
  ·obtain⟨ba,oa,rfl,Gq⟩:=Cq.ad (by omega);have hg:=Ac.cellS (Gq i hk);have Az:=Cd ha hk;clear Gq;go_wp2
   go_loopw [8,28] (fun c k wr=>∃(q cn:Nat) (out:List Nat),k=.int .i64 q/\c=.int .u64 cn/\Kk N i q (Ah a i) b out cn (Ag 1000000000 (a.take i)*Ag 1000000000 b)/\wr.ownsRow H 195 1 (.slice (some ⟨H,0,none⟩) N N) N (AZ out)/\Aa w wr)
    (fun _ k _=>b.length-(intOf k).toNat)
   case atStart=>exact⟨0,0,out,rfl,rfl,Kk.start hT,hown,Ac⟩
   case round=>
    clear hT hown Ac hg;obtain⟨q,cn,out,rfl,rfl,hT,hown,Ac⟩:=hrel;have hq:=hT.le;have DZ:=hT.cl;have hNN:=HN.out;have Az:=Cd ha hk;by_cases hkb:q<b.length
    ·obtain⟨bb,ob,rfl,Gr⟩:=BP.ad (by omega);have hgb:=Ac.cellS (Gr q hkb);have hxb:=Cd hb hkb;clear Gr;have Ic:=hT.len;have hxo:=Cd hT.lt (show i+q<out.length by omega)
     have hgo:wr.cell? ⟨H,i+q,none⟩=some (.int .u64 (Ah out (i+q):Nat)):=by rw [hown.cellAt (i+q) (by omega)];simp [AZ,Ah,show i+q<out.length by omega]
     have Vr:=hown.frozenAt (i+q);have hmu:=SX Az hxb;clear Ic;go_wp2;go_roundw
     case rel=>have hst:=(hown.stored (i+q) (.int .u64 ((cn+(Ah out (i+q)+Ah a i*Ah b q))%1000000000:Nat))).1;rw [Xf]at hst;exact⟨q+1,_,_,by go_num,by go_num,hT.step hkb (by omega) Az hb rfl,by simpa using hst,Ac.setCell (by have:=HH.out;simp;omega) _⟩
     case measure=>simp [intOf];omega
    ·obtain rfl:q=b.length:=(by omega);go_wp2
     go_loopw [8,11] (fun c k wr=>∃(q cn:Nat) (out:List Nat),k=.int .i64 q/\c=.int .u64 cn/\q<=i+b.length+1/\Km N q out cn (Ag 1000000000 (a.take (i+1))*Ag 1000000000 b)/\wr.ownsRow H 195 1 (.slice (some ⟨H,0,none⟩) N N) N (AZ out)/\Aa w wr)
      (fun _ k _=>i+b.length+1-(intOf k).toNat)
     case atStart=>have P7:=hT.up;rw [Akg hk]at P7;exact⟨i+b.length,cn,out,by go_num,rfl,by omega,P7,hown,Ac⟩
     case round=>
      clear hT hown Ac DZ hq;obtain⟨q,cn,out,rfl,rfl,hq,hT,hown,Ac⟩:=hrel;have DZ:=hT.cl;by_cases hc0:0<cn
      ·have hroom:=hT.room hc0 (Akf (i:=i+1) hk ha hb);have Ic:=hT.len;have hxo:=Cd hT.lt (show q<out.length by omega)
       have hgo:wr.cell? ⟨H,q,none⟩=some (.int .u64 (Ah out q:Nat)):=by rw [hown.cellAt q (by omega)];simp [AZ,Ah,show q<out.length by omega]
       have Vr:=hown.frozenAt q;clear Ic;go_wp2;go_roundw
       case rel=>have hst:=(hown.stored q (.int .u64 ((cn+Ah out q)%1000000000:Nat))).1;rw [Xf]at hst;exact⟨q+1,_,_,by go_num,by go_num,by omega,hT.step (by omega) rfl,by simpa using hst,Ac.setCell (by have:=HH.out;simp;omega) _⟩
       case measure=>simp [intOf];omega
      ·obtain rfl:cn=0:=(by omega);go_wp2;go_roundw
       case rel=>exact⟨i+1,out,hk,by go_num,hT.done,hown,Ac⟩
       case measure=>simp [intOf];omega
  ·obtain rfl:i=a.length:=(by omega);have Ic:=hT.len;have Ev:=hT.sum;rw [List.take_length]at Ev;have HS:=AmU Ev;have HO:=AmU Ic;clear Ev Ic;(go_wp2_with fail);have AO:Rd wo (.slice (some ⟨H,0,none⟩) N N) out:=Rd.of_own (by rw [HO.out];exact hown) (by have:=HN.out;have:=HO.out;omega);refine(pj _ _ _ AO hT.lt).mono ?_;rintro e w2 ⟨v2,rfl,hv2,hx2,ho2⟩;have O0:=AmU ho2;clear ho2;go_wp2;go_ret;exact⟨v2,rfl,by rw [←HS.out];exact hv2,Ac.trans hx2,fun b hb=>by have:=fV hown b (by rw [←O0.out];exact hb);have:=HH.out;omega⟩
theorem Ake(a b:List Nat)(u v:Value)(w:World)(hu:Rd w u a)(hv:Rd w v b)(FT:a.length<40000)(FU:b.length<40000)(ha:∀x∈a,x<1000000000)(hb:∀x∈b,x<1000000000) :
  Calls Tryz.prog 226 #[u,v] w (Nm (Ag 1000000000 a*Ag 1000000000 b) w):=
 (oz a b u v w hu hv FT FU ha hb).mono fun _ _ h=>h.plain
end Go.Proofs.YtbejphgbbpplbaaGreatDoor
