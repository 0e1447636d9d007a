/- J01: Num Mag Kit Int1 Int2 Int3 Int4 Int5. -/
import Derived.Lib.ItoaMem
import Derived.Lib.AtoiAll
import Derived.Test.YtnddllipjippnaaGreatDoorProg
import Derived.WalkKit
import Derived.BigQuiet
set_option maxRecDepth 100000
set_option maxHeartbeats 2000000
namespace Kl
open Go
abbrev Bs:=List UInt8
def D(n:Nat):Bs:=Lib.decDigits n
def I(z:Int):Bs:=Lib.itoa z
def dv(c:UInt8):Nat:=c.toNat-48
def DL(a:Nat)(l:Bs):Nat:=l.foldl (fun a c=>a*10+dv c) a
def val(l:Bs):Nat:=DL 0 l
def FS(c:UInt8):Prop:=48<=c.toNat/\c.toNat<=57
instance (c:UInt8):Decidable (FS c):=by unfold FS;infer_instance
def Ch(l:Bs):Prop:=∀c∈l,FS c
def dg(n:Nat):UInt8:=UInt8.ofNat (48+n)
theorem VN{n:Nat}(h:n<10):(dg n).toNat=48+n:=by
 unfold dg;rw [UInt8.toNat_ofNat'];omega
theorem sT{n:Nat}(h:n<10):dv (dg n)=n:=by unfold dv;rw [VN h];omega
theorem iV{n:Nat}(h:n<10):FS (dg n):=by unfold FS;rw [VN h];omega
theorem sM{c:UInt8}(h:FS c):dg (dv c)=c:=by
 have h1:=h.1;have h2:=h.2;apply UInt8.toNat_inj.1;rw [VN (by unfold dv;omega)];unfold dv;omega
theorem ZS{c:UInt8}(h:FS c):dv c<10:=by have:=h.2;unfold dv;omega
theorem mB(a:Nat)(c:UInt8)(l:Bs):DL a (c::l)=DL (a*10+dv c) l:=by unfold DL;rw [List.foldl_cons]
theorem AlB(a:Nat)(l m:Bs):DL a (l++m)=DL (DL a l) m:=by simp [DL,List.foldl_append]
theorem wn(l:Bs):∀a,DL a l=a*10^l.length+DL 0 l:=by
 induction l with
 | nil=>intro a;simp [DL]
 | cons c l ih=>intro a;have h1:=ih (a*10+dv c);have h2:=ih (0*10+dv c);rw [mB,mB,h1,h2,List.length_cons,Nat.pow_succ];generalize 10^l.length=p;generalize dv c=d;generalize DL 0 l=v;rw [Nat.add_mul,Nat.mul_assoc,Nat.mul_comm 10 p,Nat.zero_mul,Nat.zero_add,Nat.add_assoc]
theorem Mp:val []=0:=rfl
theorem val_append(l m:Bs):val (l++m)=val l*10^m.length+val m:=by
 rw [val,AlB,wn];rfl
theorem mC(l:Bs)(c:UInt8):val (l ++ [c])=val l*10+dv c:=by
 rw [val_append];simp [val,DL]
theorem wq(c:UInt8):val [c]=dv c:=by simp [val,DL]
theorem Ro(c:UInt8)(l:Bs):val (c::l)=dv c*10^l.length+val l:=by
 rw [show c::l = [c]++l from rfl,val_append,wq]
theorem PC{l m:Bs} : Ch (l++m)↔Ch l/\Ch m:=by
 simp only [Ch,List.mem_append];constructor
 ·intro h;exact⟨fun c hc=>h c (.inl hc),fun c hc=>h c (.inr hc)⟩
 ·rintro⟨a,b⟩ c (hc|hc)
  ·exact a c hc
  ·exact b c hc
theorem Vw{c:UInt8}{l:Bs} : Ch (c::l)↔FS c/\Ch l:=by simp [Ch]
theorem pG:Ch []:=by simp [Ch]
theorem pH{l:Bs}(h:Ch l)(k:Nat):Ch (l.take k):=fun c hc=>h c (List.mem_of_mem_take hc)
theorem Aby{l:Bs}(h:Ch l)(k:Nat):Ch (l.drop k):=fun c hc=>h c (List.mem_of_mem_drop hc)
theorem Mo{l:Bs}(h:Ch l):val l<10^l.length:=by
 induction l with
 | nil=>simp [val,DL]
 | cons c l ih=>rw [Vw]at h;have h1:=ih h.2;have h2:=ZS h.1;rw [Ro,List.length_cons,Nat.pow_succ];have:dv c*10^l.length<=9*10^l.length:=Nat.mul_le_mul_right _ (by omega);omega
theorem FQ{n:Nat}(h:n<10):D n = [dg n]:=by unfold D;rw [Lib.decDigits,dif_pos h];rfl
theorem Ru{n:Nat}(h:¬n<10):D n=D (n/10) ++ [dg (n%10)]:=by
 unfold D;rw [Lib.decDigits,dif_neg h];rfl
theorem Mt(n:Nat):D n≠[]:=by
 by_cases h:n<10
 ·rw [FQ h];simp
 ·rw [Ru h];simp
theorem IT(n:Nat):val (D n)=n:=by
 induction n using Nat.strongRecOn with
 | _ n ih=>
  by_cases h:n<10
  ·rw [FQ h,wq,sT h]
  ·rw [Ru h,mC,ih _ (by omega),sT (by omega)];omega
theorem Eh(n:Nat):Ch (D n):=by
 induction n using Nat.strongRecOn with
 | _ n ih=>
  by_cases h:n<10
  ·rw [FQ h];intro c hc;simp at hc;subst hc;exact iV h
  ·rw [Ru h,PC];refine⟨ih _ (by omega),?_⟩;intro c hc;simp at hc;subst hc;exact iV (by omega)
theorem UM{a b:Nat}(h:D a=D b):a=b:=by rw [←IT a,←IT b,h]
theorem UN(n:Nat):0<(D n).length:=List.length_pos_iff.2 (Mt n)
theorem kz(n:Nat):n<10^(D n).length:=by
 have:=Mo (Eh n);rwa [IT]at this
theorem UL(n:Nat)(h:0<n):∃c l,D n=c::l/\FS c/\c≠48:=by
 induction n using Nat.strongRecOn with
 | _ n ih=>
  by_cases h10:n<10
  ·refine⟨dg n,[],FQ h10,iV h10,?_⟩;intro e;have:(dg n).toNat=48:=(by rw [e];rfl);rw [VN h10]at this;omega
  ·obtain⟨c,l,e,hc,hn⟩:=ih (n/10) (by omega) (by omega);exact⟨c,l ++ [dg (n%10)],by rw [Ru h10,e];rfl,hc,hn⟩
theorem qi(n:Nat)(h:0<n):10^((D n).length-1)<=n:=by
 obtain⟨c,l,e,hc,hn⟩:=UL n h;have h1:val (D n)=n:=IT n;rw [e,Ro]at h1;rw [e,List.length_cons,Nat.add_sub_cancel]
 have h2:1<=dv c:=by have:=hc.1;have:c.toNat≠48:=fun e=>hn (UInt8.toNat_inj.1 e);unfold dv;omega
 have:1*10^l.length<=dv c*10^l.length:=Nat.mul_le_mul_right _ h2;omega
structure Can(l:Bs):Prop where
 ne:l≠[]
 all:Ch l
 head:∀m,l=48::m→m = []
theorem qV(n:Nat):Can (D n):=by
 refine⟨Mt n,Eh n,fun m e=>?_⟩
 rcases Nat.eq_zero_or_pos n with rfl|h
 ·rw [FQ (by omega)]at e;simp at e;exact e.2
 ·obtain⟨c,l,e2,_,hn⟩:=UL n h;rw [e2]at e;simp at e;exact absurd e.1 hn
theorem GA{n k:Nat}(hk:0<k)(h:n<10^k):(D n).length<=k:=by
 rcases Nat.eq_zero_or_pos n with rfl|h0
 ·rw [FQ (by omega)];simp;omega
 ·have h1:=qi n h0;have h2:=UN n;have:(D n).length-1<k:=(Nat.pow_lt_pow_iff_right (a:=10) (by omega)).1 (Nat.lt_of_le_of_lt h1 h);omega
theorem OV{n k:Nat}(h:(D n).length<=k):n<10^k:=
 Nat.lt_of_lt_of_le (kz n) (Nat.pow_le_pow_right (by omega) h)
theorem YC{l:Bs}(h:Can l):D (val l)=l:=by
 suffices H:∀(k:Nat) (l:Bs),l.length=k→Can l→D (val l)=l from H _ l rfl h
 clear h l;intro k
 induction k with
 | zero=>intro l hl h;exact absurd (List.eq_nil_of_length_eq_zero hl) h.ne
 | succ k ih=>
  intro l hl h;obtain⟨m,c,rfl⟩:∃m c,l=m ++ [c]:=⟨l.dropLast,l.getLast h.ne,(List.dropLast_concat_getLast h.ne).symm⟩;have I9:=PC.1 h.all;have hc:FS c:=I9.2 c (by simp);have hcl:=ZS hc;rw [mC];by_cases hm:m = []
  ·subst hm;rw [Mp,Nat.zero_mul,Nat.zero_add,FQ hcl,sM hc];rfl
  ·have hcm:Can m:=⟨hm,I9.1,fun q e=>by
    have:=h.head (q ++ [c]) (by rw [e];rfl)
    simp at this⟩
   have hvm:0<val m:=by
    match m,hm,hcm with
    | d::q,_,hcm=>
     have hd:=(Vw.1 hcm.all).1
     have hne:d≠48:=fun e=>by have:=h.head (q ++ [c]) (by rw [e];rfl);simp at this
     have:c.toNat≠48∨True:=.inr trivial
     have h1:1<=dv d:=by have:=hd.1;have:d.toNat≠48:=fun e=>hne (UInt8.toNat_inj.1 e);unfold dv;omega
     rw [Ro];have:1*1<=dv d*10^q.length:=Nat.mul_le_mul h1 (Nat.one_le_pow _ _ (by omega));omega
   have e1:(val m*10+dv c)/10=val m:=(by omega);have e2:(val m*10+dv c)%10=dv c:=(by omega);rw [Ru (by omega),e1,e2,ih m (by simpa using hl) hcm,sM hc]
/-! ### Padding -/
def pad(k x:Nat):Bs:=List.replicate (k-(D x).length) 48++D x
theorem AlF(k:Nat):val (List.replicate k 48)=0:=by
 induction k with
 | zero=>rfl
 | succ k ih=>rw [List.replicate_succ,Ro,ih];simp [dv]
theorem Ab0(k:Nat):Ch (List.replicate k 48):=by
 intro c hc;rw [List.mem_replicate]at hc;rw [hc.2];decide +kernel
theorem AlD(k x:Nat):val (pad k x)=x:=by rw [pad,val_append,AlF,IT];simp
theorem Abz(k x:Nat):Ch (pad k x):=PC.2 ⟨Ab0 _,Eh _⟩
theorem kq{k x:Nat}(hk:0<k)(h:x<10^k):(pad k x).length=k:=by
 have:=GA hk h;simp [pad];omega
theorem xx{k h x:Nat}(hk:0<k)(hh:0<h)(hx:x<10^k):D (h*10^k+x)=D h++pad k x:=by
 have hc:Can (D h++pad k x):=by refine⟨by simp [Mt],PC.2 ⟨Eh _,Abz _ _⟩,fun m e=>?_⟩;obtain⟨c,l,e2,_,hn⟩:=UL h hh;rw [e2]at e;simp at e;exact absurd e.1 hn
 have:=YC hc;rw [val_append,IT,AlD,kq hk hx]at this;exact this
/-! ### Pieces, the least first -/
def Ao(b:Nat):List Nat→Nat
 | []=>0
 | x::l=>x+b*Ao b l
def cl(k:Nat):List Nat→Bs
 | []=>[48]
 | [x]=>D x
 | x::l=>cl k l++pad k x
theorem XV(b:Nat)(l m:List Nat):Ao b (l++m)=Ao b l+b^l.length*Ao b m:=by
 induction l with
 | nil=>simp [Ao]
 | cons x l ih=>simp only [List.cons_append,Ao,ih,List.length_cons,Nat.pow_succ,Nat.mul_add];rw [Nat.mul_comm (b^l.length) b,Nat.mul_assoc];omega
theorem Kx(b:Nat)(l:List Nat)(x:Nat):Ao b (l ++ [x])=Ao b l+b^l.length*x:=by
 rw [XV];simp [Ao]
theorem II{b:Nat}{l:List Nat}(h:∀x∈l,x<b):Ao b l<b^l.length:=by
 induction l with
 | nil=>simp [Ao]
 | cons x l ih=>have h1:=ih fun y hy=>h y (List.mem_cons_of_mem _ hy);have h2:=h x (by simp);simp only [Ao,List.length_cons,Nat.pow_succ];have:b*(Ao b l+1)<=b*b^l.length:=Nat.mul_le_mul_left _ h1;rw [Nat.mul_add]at this;rw [Nat.mul_comm (b^l.length)];omega
def Iw(l:List Nat):Prop:=∀h:l≠[],l.getLast h≠0
theorem vu:Iw []:=fun h=>absurd rfl h
theorem UE{x:Nat}{l:List Nat}(hl:l≠[]):Iw (x::l)↔Iw l:=by
 constructor
 ·intro h h';have:=h (by simp);rwa [List.getLast_cons hl]at this
 ·intro h _;rw [List.getLast_cons hl];exact h hl
theorem m7{b:Nat}(hb:0<b){l:List Nat}(h:Iw l)(hne:l≠[]):0<Ao b l:=by
 induction l with
 | nil=>exact absurd rfl hne
 | cons x l ih=>
  by_cases hl:l = []
  ·subst hl;have:=h (by simp);simp at this;simp [Ao];omega
  ·have h1:=ih ((UE hl).1 h) hl;have:0<b*Ao b l:=Nat.mul_pos hb h1;simp only [Ao];omega
theorem AcB{k:Nat}(hk:0<k){l:List Nat}(h:∀x∈l,x<10^k)(ht:Iw l):cl k l=D (Ao (10^k) l):=by
 induction l with
 | nil=>rw [cl,Ao,FQ (by omega)];rfl
 | cons x l ih=>
  cases l with
  | nil=>simp [cl,Ao]
  | cons y l=>have gu:=(UE (x:=x) (l:=y::l) (by simp)).1 ht;have h':∀z∈y::l,z<10^k:=fun z hz=>h z (List.mem_cons_of_mem _ hz);have hp:=m7 (Nat.pow_pos (n:=k) (by omega:0<10)) gu (by simp);rw [cl,ih h' gu,←xx hk hp (h x (by simp)),Nat.mul_comm,Nat.add_comm];rfl;simp
/-! ### Integers -/
theorem EN(n:Nat):I (n:Int)=D n:=by unfold I Lib.itoa D;rw [if_neg (by omega)];simp
theorem Vl(n:Nat)(h:0<n):I (-(n:Int))=45::D n:=by unfold I Lib.itoa D;rw [if_pos (by omega)];simp
theorem E0(z:Int):(∃n:Nat,z=n/\I z=D n)∨(∃n:Nat,0<n/\z = -(n:Int)/\I z=45::D n):=by
 by_cases h:z<0
 ·exact .inr ⟨z.natAbs,by omega,by omega,by have:=Vl z.natAbs (by omega);rwa [show -(z.natAbs:Int)=z by omega]at this⟩
 ·exact .inl ⟨z.toNat,by omega,by have:=EN z.toNat;rwa [show (z.toNat:Int)=z by omega]at this⟩
theorem YB(n:Nat)(m:Bs):D n≠45::m:=by
 intro e;have:=Eh n 45 (by rw [e];simp);exact absurd this (by decide +kernel)
theorem Pz{a b:Int}(h:I a=I b):a=b:=by
 rcases E0 a with⟨n,rfl,e1⟩|⟨n,hn,rfl,e1⟩<;>rcases E0 b with⟨m,rfl,e2⟩|⟨m,hm,rfl,e2⟩
 ·rw [e1,e2]at h;rw [UM h]
 ·rw [e1,e2]at h;exact absurd h (YB _ _)
 ·rw [e1,e2]at h;exact absurd h.symm (YB _ _)
 ·rw [e1,e2]at h;simp at h;rw [UM h]
theorem Zj(z:Int):(47:UInt8)∉I z:=by
 rcases E0 z with⟨n,_,e⟩|⟨n,_,_,e⟩<;>rw [e]
 ·intro h;exact absurd (Eh n _ h) (by decide +kernel)
 ·intro h
  rcases List.mem_cons.1 h with h|h
  ·exact absurd h (by decide +kernel)
  ·exact absurd (Eh n _ h) (by decide +kernel)
/-! ### Fractions -/
def R(q:Rat):Bs:=if q.den=1 then I q.num else I q.num++47::D q.den
theorem Aba(z:Int):R (z:Rat)=I z:=by unfold R;rw [if_pos (by simp)];simp
end Kl
namespace Kl
def pc(b:Nat)(n:Nat):List Nat:=
 if _h:2<=b/\0<n then (n%b)::pc b (n/b)else []
 termination_by n
 decreasing_by exact Nat.div_lt_self _h.2 _h.1
theorem IL{b:Nat} : pc b 0 = []:=by rw [pc,dif_neg (by simp)]
theorem U5{b:Nat}(hb:2<=b){n:Nat}(h:0<n):pc b n=(n%b)::pc b (n/b):=by rw [pc,dif_pos ⟨hb,h⟩]
theorem Bn{b:Nat}(hb:2<=b)(n:Nat):Ao b (pc b n)=n:=by
 induction n using Nat.strongRecOn with
 | _ n ih=>
  rcases Nat.eq_zero_or_pos n with rfl|h
  ·rw [IL];rfl
  ·rw [U5 hb h,Ao,ih _ (Nat.div_lt_self h hb)];exact Nat.mod_add_div n b
theorem B8{b:Nat}(hb:2<=b)(n:Nat):∀x∈pc b n,x<b:=by
 induction n using Nat.strongRecOn with
 | _ n ih=>
  rcases Nat.eq_zero_or_pos n with rfl|h
  ·rw [IL];simp
  ·rw [U5 hb h];intro x hx
   rcases List.mem_cons.1 hx with rfl|hx
   ·exact Nat.mod_lt _ (by omega)
   ·exact ih _ (Nat.div_lt_self h hb) x hx
theorem QT{b:Nat}(hb:2<=b){n:Nat} : pc b n = []↔n=0:=by
 constructor
 ·intro h;have:=Bn hb n;rw [h]at this;exact this.symm
 ·rintro rfl;exact IL
theorem G8{b:Nat}(hb:2<=b)(n:Nat):Iw (pc b n):=by
 induction n using Nat.strongRecOn with
 | _ n ih=>
  rcases Nat.eq_zero_or_pos n with rfl|h
  ·rw [IL];exact vu
  ·rw [U5 hb h];by_cases hl:pc b (n/b) = []
   ·rw [hl];intro _;have:=(QT hb).1 hl;have h2:=Nat.mod_add_div n b;rw [this]at h2;simp at h2 ⊢;omega
   ·exact(UE hl).2 (ih _ (Nat.div_lt_self h hb))
theorem pu{b:Nat}(hb:2<=b):∀{l:List Nat},(∀x∈l,x<b)→Iw l→pc b (Ao b l)=l
 | [],_,_=>IL
 | x::l,h,ht=>by
  have hx:=h x (by simp);have Cl:=m7 (by omega:0<b) ht (by simp);have e1:(x+b*Ao b l)%b=x:=(by rw [Nat.add_mul_mod_self_left];exact Nat.mod_eq_of_lt hx);have e2:(x+b*Ao b l)/b=Ao b l:=by rw [Nat.add_mul_div_left _ _ (by omega),Nat.div_eq_of_lt hx,Nat.zero_add]
  have Ko:Iw l:=by
   by_cases hl:l = []
   ·subst hl;exact vu
   ·exact(UE hl).1 ht
  rw [Ao]at Cl ⊢;rw [U5 hb Cl,e1,e2,pu hb (fun y hy=>h y (List.mem_cons_of_mem _ hy)) Ko]
theorem kT{b:Nat}{l:List Nat}(ht:Iw l)(hne:l≠[]):b^(l.length-1)<=Ao b l:=by
 induction l with
 | nil=>exact absurd rfl hne
 | cons x l ih=>
  by_cases hl:l = []
  ·subst hl;have:=ht (by simp);simp at this;simp [Ao];omega
  ·have h1:=ih ((UE hl).1 ht) hl;have hlen:0<l.length:=List.length_pos_iff.2 hl;rw [Ao,List.length_cons,Nat.add_sub_cancel,show l.length=l.length-1+1 by omega,Nat.pow_succ,Nat.mul_comm];have:=Nat.mul_le_mul_left b h1;omega
theorem OZ{b:Nat}(hb:2<=b){n k:Nat}(h:n<b^k):(pc b n).length<=k:=by
 by_cases hn:pc b n = []
 ·rw [hn];simp
 ·have h1:=kT (b:=b) (G8 hb n) hn;rw [Bn hb]at h1;have:(pc b n).length-1<k:=(Nat.pow_lt_pow_iff_right (a:=b) (by omega)).1 (Nat.lt_of_le_of_lt h1 h);omega
theorem kN{b:Nat}(hb:2<=b){n:Nat}(h0:0<n)(h:n<b):pc b n = [n]:=by
 rw [U5 hb h0,Nat.mod_eq_of_lt h,Nat.div_eq_of_lt h,IL]
theorem my{b:Nat} : ∀{l m:List Nat} (i:Nat),(∀x∈l,x<b)→(∀x∈m,x<b)→l.length=m.length→i<l.length→
  l.drop (i+1)=m.drop (i+1)→l.getD i 0<m.getD i 0→Ao b l<Ao b m:=by
 intro l m i hl hm hlen hi hd hlt
 have e1:l=l.take i++l.getD i 0::l.drop (i+1):=by
  conv=>lhs;rw [←List.take_append_drop i l]
  rw [List.drop_eq_getElem_cons hi];simp [List.getD,hi]
 have L8:i<m.length:=by omega
 have e2:m=m.take i++m.getD i 0::m.drop (i+1):=by
  conv=>lhs;rw [←List.take_append_drop i m]
  rw [List.drop_eq_getElem_cons L8];simp [List.getD,L8]
 rw [e1,e2,XV,XV,hd]
 have h1:Ao b (l.take i)<b^i:=by
  have:=II (l:=l.take i) (b:=b) fun x hx=>hl x (List.mem_of_mem_take hx)
  rwa [List.length_take,Nat.min_eq_left (by omega)]at this
 have el:(l.take i).length=i:=(by rw [List.length_take];omega);have em:(m.take i).length=i:=(by rw [List.length_take];omega);rw [el,em];simp only [Ao];generalize Ao b (m.drop (i+1))=T;generalize l.getD i 0=x at *;generalize m.getD i 0=y at *;generalize b^i=p at *;have:p*(x+1)<=p*y:=Nat.mul_le_mul_left _ hlt;rw [Nat.mul_add,Nat.mul_add];rw [Nat.mul_add]at this;omega
theorem mz{b:Nat}(hb:2<=b){l m:List Nat}(hl:∀x∈l,x<b)(ht:Iw m)(h:l.length<m.length):Ao b l<Ao b m:=by
 have hne:m≠[]:=fun e=>(by rw [e]at h;simp at h);have h1:=II hl;have h2:=kT (b:=b) ht hne;have:b^l.length<=b^(m.length-1):=Nat.pow_le_pow_right (by omega) (by omega);omega
end Kl
namespace Go.Proofs.YtnddllipjippnaaGreatDoor
open Go.RowKit Kl
def Ab(w w':World):Prop:=Below w.heap.size w w'
theorem Ab.refl(w:World):Ab w w:=Below.refl _ _
theorem Ab.trans{a b c:World}(h:Ab a b)(k:Ab b c):Ab a c:=Below.trans h (Below.mono k h.size)
theorem Ab.drew{a b:World}(h:Ab a b):Ab a b.drew:=Below.drew h
theorem Ab.drewN{a b:World}(h:Ab a b)(n:Nat):Ab a (b.drewN n):=⟨h.os,h.tape,h.output,h.size,h.block⟩
theorem Ab.alloc{a b:World}(h:Ab a b)(o:Obj):Ab a (b.alloc o):=Below.alloc h h.size o
theorem Ab.setCell{a b:World}(h:Ab a b){p:Addr}(hp:a.heap.size<=p.block)(u:Value):Ab a (b.setCell p u):=Below.setCell h hp u
theorem Ab.size{a b:World}(h:Ab a b):a.heap.size<=b.heap.size:=Below.size h
theorem Ab.cell{w w':World}(h:Ab w w'){p:Addr}(hp:p.block<w.heap.size):w'.cell? p=w.cell? p:=Below.cell h hp
theorem Ab.cellS{w w':World}(h:Ab w w'){p:Addr}{v:Value}(hp:w.cell? p=some v):w'.cell? p=some v:=
 (h.cell (World.block_lt_of_cell? w p hp)).trans hp
theorem Ab.frozen{w w':World}(h:Ab w w'){p:Addr}(hp:p.block<w.heap.size):w'.frozen? p=w.frozen? p:=Below.frozen h hp
theorem Ab.grown{a w w':World}{row:Option Nat}(h:Ab a w)(hg:w.grownBy w' row)(hr:∀k,row=some k→a.heap.size<=k):Ab a w':=
 Below.grown h hg h.size hr
theorem Ab.grownOwn{a w w':World}{B:Nat}{e:TypeId}{s n:Nat}{v:Value}{xs:List Value}(h:Ab a w)(hg:w.grownBy w' v.ownBlock)(ho:w.ownsRow B e s v n xs)(hB:a.heap.size<=B):Ab a w':=
 h.grown hg fun k hk=>Nat.le_trans hB (ho.lt k hk).1
theorem Ab.cells{W w1:World}(h:Ab W w1):(∀b o,b<W.heap.size→w1.cell? ⟨b,o,none⟩=W.cell? ⟨b,o,none⟩)/\(∀b o,b<W.heap.size→w1.frozen? ⟨b,o,none⟩=W.frozen? ⟨b,o,none⟩):=
 ⟨fun b o hb=>h.cell (p:=⟨b,o,none⟩) hb,fun b o hb=>h.frozen (p:=⟨b,o,none⟩) hb⟩
def VB:Nat:=4000
def Big:Nat:=10^VB
abbrev S(l:Bs):Value:=.string ⟨l.toArray⟩
def Ap(l:List Nat)(i:Nat):Nat:=l.getD i 0
theorem CQ{l:List Nat}{b i:Nat}(h:∀x∈l,x<b)(hi:i<l.length):Ap l i<b:=by
 unfold Ap;rw [List.getD_eq_getElem?_getD,List.getElem?_eq_getElem hi];exact h _ (List.getElem_mem hi)
theorem Rk{l:List Nat}{k:Nat}(h:k<l.length):l.take (k+1)=l.take k ++ [Ap l k]:=by
 rw [List.take_succ_eq_append_getElem h];simp [Ap,h]
structure BX(w:World)(A:Option Addr)(c:Nat)(l:List Nat):Prop where
 cap:l.length<=c
 max:c<=9223372036854775807
 len:l.length<=100000
 ad:0<l.length→∃b o,A=some ⟨b,o,none⟩/\∀j,j<l.length→w.cell? ⟨b,o+j,none⟩=some (.int .u64 (Ap l j:Nat))
def Rd(w:World)(v:Value)(l:List Nat):Prop:=∃A c,v=.slice A l.length c/\BX w A c l
theorem BX.ext{w w':World}{A:Option Addr}{c:Nat}{l:List Nat}(h:BX w A c l)(hx:Ab w w'):BX w' A c l:=
 ⟨h.cap,h.max,h.len,fun h0=>by
  obtain⟨b,o,e,hc⟩:=h.ad h0
  exact⟨b,o,e,fun j hj=>hx.cellS (hc j hj)⟩⟩
theorem Rd.ext{w w':World}{v:Value}{l:List Nat}(h:Rd w v l)(hx:Ab w w'):Rd w' v l:=by
 obtain⟨A,c,e,h⟩:=h;exact⟨A,c,e,h.ext hx⟩
def Bw(l:List Nat):List Value:=l.map fun x=>.int .u64 (x:Nat)
theorem Rd.of_own{w:World}{base:Nat}{e:TypeId}{v:Value}{l:List Nat}(h:w.ownsRow base e 1 v l.length (Bw l))(hl:l.length<=100000):Rd w v l:=by
 rcases h.2 with⟨rfl,h0⟩|⟨g,cap,cur,rfl,_,_,hn,hm,_,_⟩
 ·exact⟨none,0,by rw [h0],by omega,by omega,hl,fun h=>by omega⟩
 ·refine⟨some ⟨g,0,none⟩,cap,rfl,hn,hm,hl,fun _=>⟨g,0,rfl,fun j hj=>?_⟩⟩;have hj':(Bw l)[j]?=some (.int .u64 (Ap l j:Nat)):=(by simp [Bw,Ap,hj]);have:=h.cells (g:=g) rfl j _ hj'
  rwa [Addr.add_lit]at this
theorem Tryz.infoU:(Tryz.prog.info? 179).map (fun i=>(i.zero,i.size,i.bytes))=some (some (.int .u64 0),1,8):=by kernel_rfl
def Od(n:Nat)(w:World)(e:Ending)(w':World):Prop:=∃v,e=.returned v/\Rd w' v (pc 1000000000 n)/\Ab w w'
def RO(n:Nat)(w:World)(e:Ending)(w':World):Prop:=∃v,e=.returned v/\Rd w' v (pc 1000000000 n)/\Ab w w'/\∀b,v.ownBlock=some b→w.heap.size<=b
theorem RO.plain{n:Nat}{w:World}{e:Ending}{w':World}(h:RO n w e w'):Od n w e w':=by
 obtain⟨v,h1,h2,h3,_⟩:=h;exact⟨v,h1,h2,h3⟩
theorem XH(n:Nat)(hn:n<=200000)(c:Int)(hc:c=(n:Int))(W:World) :
  (Instr.makeSlice 270 (.int .i64 0) (.int .i64 c)).run Tryz.prog W=.ok (.slice (some ⟨W.heap.size,0,none⟩) 0 n) (W.alloc (.cells (madeCells #[.int .u64 0] n) 179)):=by
 subst hc;obtain⟨i0,hi,hz0,hz1,hz2⟩:=info_parts Tryz.infoU;have h:=run_make (P:=Tryz.prog) W 270 179 i0 (.int .u64 0) Tryz.underlying270 hi hz0 .i64 .i64 0 n (Int.le_refl _) (by omega) (by rw [hz2];omega) (by omega);rw [hz1,Nat.mul_one]at h;simp only [Int.toNat_zero,Int.toNat_natCast]at h;exact h
theorem Ye(W:World)(base n:Nat)(hb:base<=W.heap.size)(hn:n<=200000) :
  (W.alloc (.cells (madeCells #[.int .u64 0] n) 179)).ownsRow base 179 1 (.slice (some ⟨W.heap.size,0,none⟩) 0 n) 0 []:=
 World.ownsRow_made W _ n hb (by unfold maxLen;omega) (by rw [size_madeCells];omega)
theorem jJ(n:Nat)(hn:n<=200000)(c:Int)(hc:c=(n:Int))(W:World) :
  (Instr.makeSlice 270 (.int .i64 c) (.int .i64 c)).run Tryz.prog W=.ok (.slice (some ⟨W.heap.size,0,none⟩) n n) (W.alloc (.cells (madeCells #[.int .u64 0] n) 179)):=by
 subst hc;obtain⟨i0,hi,hz0,hz1,hz2⟩:=info_parts Tryz.infoU;have h:=run_make (P:=Tryz.prog) W 270 179 i0 (.int .u64 0) Tryz.underlying270 hi hz0 .i64 .i64 n n (by omega) (by omega) (by rw [hz2];omega) (by omega);rw [hz1,Nat.mul_one]at h;simp only [Int.toNat_natCast]at h;exact h
theorem kK(W:World)(base n:Nat)(hb:base<=W.heap.size)(hn:n<=200000) :
  (W.alloc (.cells (madeCells #[.int .u64 0] n) 179)).ownsRow base 179 1 (.slice (some ⟨W.heap.size,0,none⟩) n n) n (Bw (List.replicate n 0)):=by
 have h:=World.ownsRow_lit (w:=W) (base:=base) (e:=179) (size:=1) (madeCells #[.int .u64 0] n) n hb (by unfold maxLen;omega) (by rw [size_madeCells];omega);rw [toList_madeCells_one]at h
 simpa [Bw]using h
section
variable {P : Program} {ops : Array Oper} {rest : List Oper} {o : Oper} {a : Act} {Q : Exit → Act → World → Prop}
theorem xj{K:Act→World→Prop}(s x:Operand)(ho:o.op=.call {callee:=.builtin .append,args:=#[s,x],argTypes:=#[270,270]})
  (wr:World) (base:Nat) (v:Value) (n:Nat) (xs:List Nat) (hs:a.eval s=v) (hown:wr.ownsRow base 179 1 v n (Bw xs)) (hn:n<200000) (z:Int) (y:Nat) (hz:z=(y:Int))
  (hx:a.eval x=.slice (some ⟨wr.heap.size,0,none⟩) 1 1) (hbase:base<=wr.heap.size)
  (h:∀v' w',w'.ownsRow base 179 1 v' (n+1) (Bw (xs ++ [y]))→(∀w0,Ab w0 wr→w0.heap.size<=base→Ab w0 w')→K (a.put o.dst v') w') :
  o.wp Tryz.prog a (wr.alloc (.cells #[.int .u64 z] 179)) K Q:=by
 obtain⟨i0,hi,hz0,hz1,hz2⟩:=info_parts Tryz.infoU;subst hz;refine wp_append_own _ s x 270 ho base 179 i0 (.int .u64 0) 1 8 Tryz.underlying270 hi hz0 hz1 hz2 rfl (by omega) v n (Bw xs) hs (hown.alloc _) ⟨wr.heap.size,0,none⟩ 1 1 [.int .u64 (y:Nat)] hx rfl ?_ ?_ ?_ ?_ ?_ ?_
 ·intro j u hu
  match j,hu with
  | 0,hu=>
   simp only [List.getElem?_cons_zero,Option.some.injEq]at hu;subst hu;rw [Addr.add_lit,World.cell?_alloc_at _ _ _ _ (by simp)]
   rfl
  | j+1,hu=>simp at hu
 ·intro u hu;simp only [List.mem_singleton]at hu;subst hu;rfl
 ·unfold maxLen;omega
 ·omega
 ·simp;omega
 ·intro v' w' h2 h3 _;refine h v' w' (by simpa [Bw]using h2) fun w0 he hb=>?_;exact(he.alloc _).grownOwn h3 (hown.alloc _) hb
theorem app1(hgd:o.guard=none)(s x:Operand)(ho:o.op=.call {callee:=.builtin .append,args:=#[s,x],argTypes:=#[270,270]})
  (wr:World) (base:Nat) (v:Value) (n:Nat) (xs:List Nat) (hs:a.eval s=v) (hown:wr.ownsRow base 179 1 v n (Bw xs)) (hn:n<200000) (z:Int) (y:Nat) (hz:z=(y:Int))
  (hx:a.eval x=.slice (some ⟨wr.heap.size,0,none⟩) 1 1) (hbase:base<=wr.heap.size)
  (h:∀v' w',w'.ownsRow base 179 1 v' (n+1) (Bw (xs ++ [y]))→(∀w0,Ab w0 wr→w0.heap.size<=base→Ab w0 w')→wpList Tryz.prog ops Q rest (a.put o.dst v') w') :
  wpList Tryz.prog ops Q (o::rest) a (wr.alloc (.cells #[.int .u64 z] 179)):=
 wpList_plain hgd fun _ hK=>xj s x ho wr base v n xs hs hown hn z y hz hx hbase fun v' w' h2 h3=>hK _ _ (h v' w' h2 h3)
theorem vd{K:Act→World→Prop}{E:Prop}(hgd:o.guard=none)(s x:Operand)(ho:o.op=.call {callee:=.builtin .append,args:=#[s,x],argTypes:=#[270,270]})
  (wr:World) (base:Nat) (v:Value) (n:Nat) (xs:List Nat) (hs:a.eval s=v) (hown:wr.ownsRow base 179 1 v n (Bw xs)) (hn:n<200000) (z:Int) (y:Nat) (hz:z=(y:Int))
  (hx:a.eval x=.slice (some ⟨wr.heap.size,0,none⟩) 1 1) (hbase:base<=wr.heap.size)
  (h:∀v' w',w'.ownsRow base 179 1 v' (n+1) (Bw (xs ++ [y]))→(∀w0,Ab w0 wr→w0.heap.size<=base→Ab w0 w')→K (a.put o.dst v') w') :
  if Region.wanted o (yielded ops a.tmps)=true then Oper.wp Tryz.prog o a (wr.alloc (.cells #[.int .u64 z] 179)) K Q else E:=by
 have hw:Region.wanted o (yielded ops a.tmps)=true:=(by simp [Region.wanted,hgd]);rw [if_pos hw];exact xj s x ho wr base v n xs hs hown hn z y hz hx hbase h
end
theorem AL{w w':World}{base:Nat}{e:TypeId}{size:Nat}{v:Value}{n:Nat}{xs:List Value}(h:w.ownsRow base e size v n xs)(hx:Ab w w'):w'.ownsRow base e size v n xs:=
 h.kept (row:=none) ⟨hx.os,hx.tape,hx.output,hx.size,fun k hk _=>hx.block k hk⟩ (by cases v.ownBlock<;>simp)
theorem Yc{w:World}{base:Nat}{e:TypeId}{size:Nat}{v:Value}{n:Nat}{xs:List Value}(h:w.ownsRow base e size v n xs):w.drew.ownsRow base e size v n xs:=h
theorem S1(l:Bs)(i j:Nat):(⟨l.toArray⟩:ByteArray).extract i j=⟨((l.drop i).take (j-i)).toArray⟩:=by
 apply ByteArray.ext;rw [ByteArray.data_extract];simp
theorem tL(l:Bs)(k:Nat):(⟨l.toArray⟩:ByteArray).extract k l.length=⟨(l.drop k).toArray⟩:=by
 rw [S1,List.take_of_length_le (by simp)]
theorem AdE(l:Bs)(k:Nat):(⟨l.toArray⟩:ByteArray).extract 0 k=⟨(l.take k).toArray⟩:=by
 rw [S1];simp
theorem IO{a:ByteArray}{b:Bs}(h:a=⟨b.toArray⟩):Ending.returned (.string a)=.returned (S b):=by rw [h]
theorem Ao3{α:Sort _}(a:α):∃x,x=a:=⟨a,rfl⟩
theorem Ao4{p:Prop}(h:p):Hid p:=Lib.hid h
theorem Ao5{w:World}{b:Nat}{o:Obj}(h:w.heap[b]?=some o):b<w.heap.size:=lt_of_block h
theorem Ao6(w:World)(o:Obj):(w.alloc o).heap[w.heap.size]?=some o:=heap_alloc_new w o
theorem Ao7(n:Nat):n<=n:=Nat.le_refl n
theorem Ao8{α:Type _}{l:List α}{n:Nat}(h:n<l.length):l[n]∈l:=List.getElem_mem h
theorem Ao9(n:Nat):(n:Int).natAbs=n:=Int.natAbs_natCast n
theorem AoA{α:Type _}{i:Nat}{l:List α}(h:i<l.length):List.take (i+1) l=List.take i l ++ [l[i]]:=List.take_succ_eq_append_getElem h
theorem AoB{α:Type _}(a b:α):(some a=some b)=(a=b):=Option.some.injEq a b
theorem AoC{α:Type _}{l:List α}{i:Nat}(h:i<l.length):l[i]?=some l[i]:=List.getElem?_eq_getElem h
theorem AoD(n:Int)(h:-9223372036854775808<=n/\n<=9223372036854775807):IntKind.i64.wrap n=n:=IntWalk.i64_in n h
theorem AoE(w:World)(o:Obj):(w.alloc o).heap.size=w.heap.size+1:=World.size_alloc w o
theorem AoF{α:Type _}{i:Nat}{l:List α}(h:l.length<=i):List.take i l=l:=List.take_of_length_le h
theorem AoG{n m k:Nat}(h:n<m)(g:m<=k):n<k:=Nat.lt_of_lt_of_le h g
theorem AoH{n m k:Nat}(h:n<=m)(g:m<=k):n<=k:=Nat.le_trans h g
theorem AoI{α:Type _}{a:α} : ¬a∈[]:=List.not_mem_nil
theorem AoJ{α:Type _}{a b:α} : a∈[b]↔a=b:=List.mem_singleton
theorem AoK{α:Type _}{l:List α}{i:Nat}{a:α} : l[i]?=some a↔∃h,l[i]=a:=List.getElem?_eq_some_iff
theorem AoL{α:Type _}{i:Nat}{b:α}{xs:Array α} : xs[i]?=some b↔∃h,xs[i]=b:=Array.getElem?_eq_some_iff
/-! ### trim -/
def Fw(l:List Nat)(k:Nat):Prop:=k<=l.length/\∀j,k<=j→j<l.length→Ap l j=0
theorem Fw.start(l:List Nat):Fw l l.length:=⟨Ao7 _,fun j h1 h2=>by omega⟩
theorem Fw.step{l:List Nat}{k:Nat}(h:Fw l k)(_h0:k≠0)(hx:Ap l (k-1)=0):Fw l (k-1):=
 ⟨by have:=h.1;omega,fun j h1 h2=>by
  by_cases e:j=k-1
  ·rw [e];exact hx
  ·exact h.2 j (by omega) h2⟩
theorem jX{b:Nat} : ∀{l:List Nat},(∀j,j<l.length→Ap l j=0)→Ao b l=0
 | [],_=>rfl
 | x::l,h=>by have hx:x=0:=h 0 (by simp);have:=jX (b:=b) (l:=l) fun j hj=>(by have:=h (j+1) (by simpa using hj);simpa [Ap]using this);rw [Ao,this,hx];simp
theorem Fw.sum{l:List Nat}{k b:Nat}(h:Fw l k):Ao b (l.take k)=Ao b l:=by
 conv=>rhs;rw [←List.take_append_drop k l,XV]
 rw [jX (l:=l.drop k)]
 ·simp
 ·intro j hj;have:=h.2 (k+j) (by omega) (by simp at hj;omega)
  simpa [Ap]using this
theorem Fw.done{l:List Nat}{k:Nat}(h:Fw l k)(hl:∀x∈l,x<1000000000)(hx:k=0∨Ap l (k-1)≠0):l.take k=pc 1000000000 (Ao 1000000000 l):=by
 rw [←h.sum (b:=1000000000)];refine(pu (by omega) (fun x hm=>hl x (List.mem_of_mem_take hm)) ?_).symm;intro hne
 rcases hx with rfl|hx
 ·simp at hne
 ·have hk:=h.1
  have h0:0<k:=by
   rcases Nat.eq_zero_or_pos k with rfl|h0
   ·simp at hne
   ·exact h0
  rw [List.getLast_take];have e:l[k-1]?=some (l[k-1]'(by omega)):=AoC (by omega);rw [e];simp [Ap,List.getD,e]at hx ⊢;exact hx
theorem Rd.take{w:World}{A:Option Addr}{c:Nat}{l:List Nat}(h:BX w A c l){k:Nat}(hk:k<=l.length):Rd w (.slice A k c) (l.take k):=by
 have e:(l.take k).length=k:=(by rw [List.length_take];omega);refine⟨A,c,by rw [e],by have:=h.cap;omega,h.max,by have:=h.len;omega,fun h0=>?_⟩;obtain⟨b,o,e1,hc⟩:=h.ad (by omega);refine⟨b,o,e1,fun j hj=>?_⟩
 have:Ap (l.take k) j=Ap l j:=by rw [e]at hj;simp [Ap,hj]
 rw [this];exact hc j (by omega)
theorem trim_c(l:List Nat)(v:Value)(w:World)(hv:Rd w v l)(hl:∀x∈l,x<1000000000) :
  Calls Tryz.prog 256 #[v] w (Od (Ao 1000000000 l) w):=by
 obtain⟨A,c,rfl,hr⟩:=hv;have AP:=hr.cap;have hmax:=hr.max;have hlen:=hr.len;go_enter Tryz.func256,Tryz.ntmps256;go_wp2
 go_loop [0] (fun v=>∃k:Nat,Fw l k/\v=.slice A k c) (fun v=>match v with | .slice _ n _=>n|_=>0)
 case atStart=>exact⟨l.length,Fw.start l,rfl⟩
 case round=>
  obtain⟨k,hk,rfl⟩:=hrel;have Ce:=hk.1;by_cases h0:k=0
  ·subst h0;go_wp2;go_ret;exact⟨_,rfl,by rw [←hk.done hl (.inl rfl)];exact Rd.take hr (by omega),Ab.refl _⟩
  ·obtain⟨b,o,rfl,hc⟩:=hr.ad (by omega);have hg:=hc (k-1) (by omega);clear hc;by_cases hx:Ap l (k-1)=0
   ·rw [hx]at hg;go_wp2
    go_round
    case rel=>exact⟨k-1,hk.step h0 hx,rfl⟩
    case measure=>simp;omega
   ·have hx':(((Ap l (k-1):Nat):Int) == 0)=false:=(by simpa using hx);go_wp2;go_ret;exact⟨_,rfl,by rw [←hk.done hl (.inr hx)];exact Rd.take hr (by omega),Ab.refl _⟩
theorem Rn(l:List Nat)(A:Option Addr)(c:Nat)(w:World)(hr:BX w A c l)(hl:∀x∈l,x<1000000000) :
  Calls Tryz.prog 256 #[.slice A l.length c] w (fun e w'=>e=.returned (.slice A (pc 1000000000 (Ao 1000000000 l)).length c)/\w'=w):=by
 have AP:=hr.cap;have hmax:=hr.max;have hlen:=hr.len;go_enter Tryz.func256,Tryz.ntmps256;go_wp2
 go_loop [0] (fun v=>∃k:Nat,Fw l k/\v=.slice A k c) (fun v=>match v with | .slice _ n _=>n|_=>0)
 case atStart=>exact⟨l.length,Fw.start l,rfl⟩
 case round=>
  obtain⟨k,hk,rfl⟩:=hrel;have Ce:=hk.1;by_cases h0:k=0
  ·subst h0;go_wp2;go_ret;exact⟨by rw [←hk.done hl (.inl rfl)];simp,rfl⟩
  ·obtain⟨b,o,rfl,hc⟩:=hr.ad (by omega);have hg:=hc (k-1) (by omega);clear hc;by_cases hx:Ap l (k-1)=0
   ·rw [hx]at hg;go_wp2
    go_round
    case rel=>exact⟨k-1,hk.step h0 hx,rfl⟩
    case measure=>simp;omega
   ·have hx':(((Ap l (k-1):Nat):Int) == 0)=false:=(by simpa using hx);go_wp2;go_ret;exact⟨by rw [←hk.done hl (.inr hx)];show Ending.returned (.slice _ k c)=.returned (.slice _ (l.take k).length c);rw [List.length_take,Nat.min_eq_left Ce],rfl⟩
theorem AiX{l:List Nat}(hl:∀x∈l,x<1000000000):∃k,k<=l.length/\pc 1000000000 (Ao 1000000000 l)=l.take k:=by
 obtain⟨k,hk,hx⟩:∃k,Fw l k/\(k=0∨Ap l (k-1)≠0):=by
  have:∀n k,k<=n→Fw l k→∃k,Fw l k/\(k=0∨Ap l (k-1)≠0):=by
   intro n
   induction n with
   | zero=>intro k hk h;exact⟨k,h,.inl (by omega)⟩
   | succ n ih=>
    intro k hk h;by_cases h0:k=0
    ·exact⟨k,h,.inl h0⟩
    ·by_cases hx:Ap l (k-1)=0
     ·exact ih (k-1) (by omega) (h.step h0 hx)
     ·exact⟨k,h,.inr hx⟩
  exact this l.length l.length (Ao7 _) (Fw.start l)
 exact⟨k,hk.1,(hk.done hl hx).symm⟩
theorem BX.pc{w:World}{A:Option Addr}{c:Nat}{l:List Nat}(h:BX w A c l)(hl:∀x∈l,x<1000000000):BX w A c (pc 1000000000 (Ao 1000000000 l)):=by
 obtain⟨k,hk,e⟩:=AiX hl;obtain⟨A',c',e1,h1⟩:=Rd.take h hk;simp only [Value.slice.injEq]at e1;obtain⟨rfl,_,rfl⟩:=e1;rw [e];exact h1
theorem vt(l:List Nat)(v:Value)(w:World)(hv:Rd w v l)(hl:∀x∈l,x<1000000000) :
  Calls Tryz.prog 256 #[v] w (fun e w'=>∃v',e=.returned v'/\Rd w' v' (pc 1000000000 (Ao 1000000000 l))/\Ab w w'/\v'.ownBlock=v.ownBlock):=by
 obtain⟨A,c,rfl,hr⟩:=hv;refine(Rn l A c w hr hl).mono ?_;rintro e w' ⟨rfl,rfl⟩;exact⟨_,rfl,⟨A,c,rfl,hr.pc hl⟩,Ab.refl _,by cases A<;>rfl⟩
theorem kH{w:World}{base:Nat}{e:TypeId}{size:Nat}{v:Value}{n:Nat}{xs:List Value}(h:w.ownsRow base e size v n xs)(b:Nat)(hb:v.ownBlock=some b):base<=b:=by
 rcases h.2 with⟨rfl,_⟩|⟨g,cap,cur,rfl,hg,_⟩
 ·cases hb
 ·simp only [Value.ownBlock,AoB]at hb;omega
/-! ### plus -/
structure Ja(a b out:List Nat)(k c:Nat):Prop where
 le:k<=a.length
 len:out.length=k
 lt:∀x∈out,x<1000000000
 c1:c<=1
 sum:Ao 1000000000 out+1000000000^k*c=Ao 1000000000 (a.take k)+Ao 1000000000 (b.take k)
theorem Ja.start(a b:List Nat):Ja a b [] 0 0:=⟨Nat.zero_le _,rfl,by simp,by omega,by simp [Ao]⟩
theorem Ja.step{a b out:List Nat}{k c s:Nat}(h:Ja a b out k c)(hk:k<a.length)(ha:∀x∈a,x<1000000000)(hb:∀x∈b,x<1000000000)
  (hs:s=c+Ap a k+(if k<b.length then Ap b k else 0)):Ja a b (out ++ [s%1000000000]) (k+1) (s/1000000000):=by
 have h1:=CQ ha hk
 have hs2:s<=1999999999:=by
  have:=h.c1
  split at hs
  ·have:=CQ hb ‹k<b.length›;omega
  ·omega
 refine⟨hk,by simp [h.len],?_,by omega,?_⟩
 ·intro x hx
  rcases List.mem_append.1 hx with hx|hx
  ·exact h.lt x hx
  ·simp at hx;subst hx;omega
 ·rw [Kx,h.len,Nat.pow_succ,Rk hk,Kx,List.length_take,Nat.min_eq_left h.le]
  have e:Ao 1000000000 (b.take (k+1))=Ao 1000000000 (b.take k)+1000000000^k*(if k<b.length then Ap b k else 0):=by
   by_cases hkb:k<b.length
   ·rw [if_pos hkb,Rk hkb,Kx,List.length_take,Nat.min_eq_left (by omega)]
   ·rw [if_neg hkb,AoF (by omega),AoF (by omega)];simp
  rw [e];have hm:s%1000000000+1000000000*(s/1000000000)=c+Ap a k+(if k<b.length then Ap b k else 0):=(by omega);have Ge:=h.sum;generalize (if k<b.length then Ap b k else 0)=y at *;generalize s%1000000000=r at *;generalize s/1000000000=q at *;generalize 1000000000^k=p at *
  have:p*r+p*1000000000*q=p*c+p*Ap a k+p*y:=by rw [Nat.mul_assoc,←Nat.mul_add,hm,Nat.mul_add,Nat.mul_add]
  omega
theorem Ja.done{a b out:List Nat}{c:Nat}(h:Ja a b out a.length c)(hab:b.length<=a.length) :
  Ao 1000000000 (out ++ [c])=Ao 1000000000 a+Ao 1000000000 b/\∀x∈out ++ [c],x<1000000000:=by
 have hs:=h.sum;rw [List.take_length,AoF hab]at hs;refine⟨by rw [Kx,h.len,hs],fun x hx=>?_⟩
 rcases List.mem_append.1 hx with hx|hx
 ·exact h.lt x hx
 ·simp at hx;subst hx;have:=h.c1;omega
theorem Aji(a b:List Nat)(u v:Value)(w:World)(hu:Rd w u a)(hv:Rd w v b)(Gz:a.length<50000)(ha:∀x∈a,x<1000000000)(hb:∀x∈b,x<1000000000)(hlt:¬a.length<b.length) :
  Calls Tryz.prog 266 #[u,v] w (Od (Ao 1000000000 a+Ao 1000000000 b) w):=by
 obtain⟨A,ca,rfl,CG⟩:=hu;obtain⟨B,cb,rfl,Ct⟩:=hv;have WI:=CG.cap;have hcb:=Ct.cap;have Xg:=CG.max;have TK:=Ct.max;have hmk:=XH (a.length+1) (by omega) ((a.length:Int)+1) (by omega);have how:=Ye w w.heap.size (a.length+1) (Ao7 _) (by omega);go_enter Tryz.func266,Tryz.ntmps266;go_wp2;clear hmk
 go_loopw [5,6,22] (fun v c i wr=>∃(k:Nat) (out:List Nat) (cn:Nat),Ja a b out k cn/\i=.int .i64 k/\c=.int .u64 cn/\wr.ownsRow w.heap.size 179 1 v k (Bw out)/\Ab w wr)
  (fun _ _ i _=>a.length-(intOf i).toNat)
 case atStart=>exact⟨0,[],0,Ja.start a b,rfl,rfl,how,(Ab.refl w).alloc _⟩
 case round=>
  obtain⟨k,out,cn,hP,rfl,rfl,hown,Ac⟩:=hrel;clear how;have Ce:=hP.le;have hc1:=hP.c1;have hsz:=Ac.size;by_cases hk:k<a.length
  ·obtain⟨ba,oa,rfl,GQ⟩:=CG.ad (by omega);have hg:=Ac.cellS (GQ k hk);have AQ:=CQ ha hk;clear GQ;by_cases hkb:k<b.length
   ·obtain⟨bb,ob,rfl,GR⟩:=Ct.ad (by omega);have hgb:=Ac.cellS (GR k hkb);have hxb:=CQ hb hkb;clear GR
    go_wp2_with (at_builtin;refine app1 rfl _ _ rfl wr w.heap.size u5 k out rfl hown (by omega) _ ((cn+Ap a k+Ap b k)%1000000000) (by omega) rfl hsz ?_;intro v1 w1 hown1 hx1)
    go_roundw
    case rel=>exact⟨k+1,_,_,hP.step hk ha hb (by rw [if_pos hkb]),by go_num,by go_num,hown1,hx1 _ Ac (Ao7 _)⟩
    case measure=>simp [intOf];omega
   ·go_wp2_with (at_builtin;refine app1 rfl _ _ rfl wr w.heap.size u5 k out rfl hown (by omega) _ ((cn+Ap a k)%1000000000) (by omega) rfl hsz ?_;intro v1 w1 hown1 hx1)
    go_roundw
    case rel=>exact⟨k+1,_,_,hP.step (s:=cn+Ap a k) hk ha hb (by rw [if_neg hkb];rfl),by go_num,by go_num,hown1,hx1 _ Ac (Ao7 _)⟩
    case measure=>simp [intOf];omega
  ·obtain rfl:k=a.length:=(by omega);have hd:=hP.done (by omega);have FB:=hP.len
   go_wp2_with (at_builtin;refine app1 rfl _ _ rfl wr w.heap.size u5 _ out rfl hown (by omega) _ cn rfl rfl hsz ?_;intro v1 w1 hown1 hx1)
   have Bf:Rd w1 v1 (out ++ [cn]):=Rd.of_own (by simpa [FB]using hown1) (by simp;omega);refine(trim_c _ _ _ Bf hd.2).mono ?_;rintro e w2 ⟨v2,rfl,hv2,hx2⟩;go_wp2;go_ret;exact⟨v2,rfl,by rw [←hd.1];exact hv2,(hx1 _ Ac (Ao7 _)).trans hx2⟩
theorem Ajj(a b:List Nat)(u v:Value)(w:World)(hu:Rd w u a)(hv:Rd w v b)(Gz:a.length<50000)(ha:∀x∈a,x<1000000000)(hb:∀x∈b,x<1000000000)(hlt:b.length<a.length) :
  Calls Tryz.prog 266 #[v,u] w (Od (Ao 1000000000 a+Ao 1000000000 b) w):=by
 obtain⟨A,ca,rfl,CG⟩:=hu;obtain⟨B,cb,rfl,Ct⟩:=hv;have WI:=CG.cap;have hcb:=Ct.cap;have Xg:=CG.max;have TK:=Ct.max;have hmk:=XH (a.length+1) (by omega) ((a.length:Int)+1) (by omega);have how:=Ye w w.heap.size (a.length+1) (Ao7 _) (by omega);go_enter Tryz.func266,Tryz.ntmps266;go_wp2;clear hmk
 go_loopw [5,6,22] (fun v c i wr=>∃(k:Nat) (out:List Nat) (cn:Nat),Ja a b out k cn/\i=.int .i64 k/\c=.int .u64 cn/\wr.ownsRow w.heap.size 179 1 v k (Bw out)/\Ab w wr)
  (fun _ _ i _=>a.length-(intOf i).toNat)
 case atStart=>exact⟨0,[],0,Ja.start a b,rfl,rfl,how,(Ab.refl w).alloc _⟩
 case round=>
  obtain⟨k,out,cn,hP,rfl,rfl,hown,Ac⟩:=hrel;clear how;have Ce:=hP.le;have hc1:=hP.c1;have hsz:=Ac.size;by_cases hk:k<a.length
  ·obtain⟨ba,oa,rfl,GQ⟩:=CG.ad (by omega);have hg:=Ac.cellS (GQ k hk);have AQ:=CQ ha hk;clear GQ;by_cases hkb:k<b.length
   ·obtain⟨bb,ob,rfl,GR⟩:=Ct.ad (by omega);have hgb:=Ac.cellS (GR k hkb);have hxb:=CQ hb hkb;clear GR
    go_wp2_with (at_builtin;refine app1 rfl _ _ rfl wr w.heap.size u5 k out rfl hown (by omega) _ ((cn+Ap a k+Ap b k)%1000000000) (by omega) rfl hsz ?_;intro v1 w1 hown1 hx1)
    go_roundw
    case rel=>exact⟨k+1,_,_,hP.step hk ha hb (by rw [if_pos hkb]),by go_num,by go_num,hown1,hx1 _ Ac (Ao7 _)⟩
    case measure=>simp [intOf];omega
   ·go_wp2_with (at_builtin;refine app1 rfl _ _ rfl wr w.heap.size u5 k out rfl hown (by omega) _ ((cn+Ap a k)%1000000000) (by omega) rfl hsz ?_;intro v1 w1 hown1 hx1)
    go_roundw
    case rel=>exact⟨k+1,_,_,hP.step (s:=cn+Ap a k) hk ha hb (by rw [if_neg hkb];rfl),by go_num,by go_num,hown1,hx1 _ Ac (Ao7 _)⟩
    case measure=>simp [intOf];omega
  ·obtain rfl:k=a.length:=(by omega);have hd:=hP.done (by omega);have FB:=hP.len
   go_wp2_with (at_builtin;refine app1 rfl _ _ rfl wr w.heap.size u5 _ out rfl hown (by omega) _ cn rfl rfl hsz ?_;intro v1 w1 hown1 hx1)
   have Bf:Rd w1 v1 (out ++ [cn]):=Rd.of_own (by simpa [FB]using hown1) (by simp;omega);refine(trim_c _ _ _ Bf hd.2).mono ?_;rintro e w2 ⟨v2,rfl,hv2,hx2⟩;go_wp2;go_ret;exact⟨v2,rfl,by rw [←hd.1];exact hv2,(hx1 _ Ac (Ao7 _)).trans hx2⟩
theorem kP(a b:List Nat)(u v:Value)(w:World)(hu:Rd w u a)(hv:Rd w v b)(Gz:a.length<50000)(G0:b.length<50000)(ha:∀x∈a,x<1000000000)(hb:∀x∈b,x<1000000000) :
  Calls Tryz.prog 266 #[u,v] w (Od (Ao 1000000000 a+Ao 1000000000 b) w):=by
 by_cases h:a.length<b.length
 ·rw [Nat.add_comm];exact Ajj b a v u w hv hu G0 hb ha h
 ·exact Aji a b u v w hu hv Gz ha hb h
structure KQ(a b out:List Nat)(k c:Nat):Prop where
 le:k<=a.length
 len:out.length=k
 lt:∀x∈out,x<1000000000
 c1:c<=1
 sum:Ao 1000000000 out+Ao 1000000000 (b.take k)=Ao 1000000000 (a.take k)+1000000000^k*c
theorem KQ.start(a b:List Nat):KQ a b [] 0 0:=⟨Nat.zero_le _,rfl,by simp,by omega,by simp [Ao]⟩
theorem KQ.step{a b out:List Nat}{k c d c2:Nat}(h:KQ a b out k c)(hk:k<a.length)(hd:d<1000000000)(hc2:c2<=1)
  (he:d+(c+(if k<b.length then Ap b k else 0))=Ap a k+1000000000*c2):KQ a b (out ++ [d]) (k+1) c2:=by
 refine⟨hk,by simp [h.len],?_,hc2,?_⟩
 ·intro x hx
  rcases List.mem_append.1 hx with hx|hx
  ·exact h.lt x hx
  ·simp at hx;subst hx;exact hd
 ·rw [Kx,h.len,Nat.pow_succ,Rk hk,Kx,List.length_take,Nat.min_eq_left h.le]
  have e:Ao 1000000000 (b.take (k+1))=Ao 1000000000 (b.take k)+1000000000^k*(if k<b.length then Ap b k else 0):=by
   by_cases hkb:k<b.length
   ·rw [if_pos hkb,Rk hkb,Kx,List.length_take,Nat.min_eq_left (by omega)]
   ·rw [if_neg hkb,AoF (by omega),AoF (by omega)];simp
  rw [e];have Ge:=h.sum;generalize (if k<b.length then Ap b k else 0)=y at *;generalize 1000000000^k=p at *
  have:p*d+(p*c+p*y)=p*Ap a k+p*1000000000*c2:=by rw [Nat.mul_assoc,←Nat.mul_add,←Nat.mul_add,←Nat.mul_add,he]
  omega
theorem KQ.done{a b out:List Nat}{c:Nat}(h:KQ a b out a.length c)(hab:b.length<=a.length)(hle:Ao 1000000000 b<=Ao 1000000000 a) :
  Ao 1000000000 out=Ao 1000000000 a-Ao 1000000000 b:=by
 have hs:=h.sum;rw [List.take_length,AoF hab]at hs;have hlt:=II h.lt;rw [h.len]at hlt
 have hc:c=0:=by
  rcases Nat.eq_zero_or_pos c with e|e
  ·exact e
  ·have e1:c=1:=(by have:=h.c1;omega);rw [e1]at hs;omega
 rw [hc]at hs;omega
theorem lj(a b:List Nat)(u v:Value)(w:World)(hu:Rd w u a)(hv:Rd w v b)(Gz:a.length<50000)(ha:∀x∈a,x<1000000000)(hb:∀x∈b,x<1000000000)
  (hab:b.length<=a.length) (hle:Ao 1000000000 b<=Ao 1000000000 a) :
  Calls Tryz.prog 260 #[u,v] w (RO (Ao 1000000000 a-Ao 1000000000 b) w):=by
 obtain⟨A,ca,rfl,CG⟩:=hu;obtain⟨B,cb,rfl,Ct⟩:=hv;have WI:=CG.cap;have hcb:=Ct.cap;have Xg:=CG.max;have TK:=Ct.max;have HL:=Ao4 hle;clear hle;have hmk:=XH a.length (by omega) (a.length:Int) rfl;have how:=Ye w w.heap.size a.length (Ao7 _) (by omega);go_enter Tryz.func260,Tryz.ntmps260;go_wp2;clear hmk
 go_loopw [5,6,15] (fun v c i wr=>∃(k:Nat) (out:List Nat) (cn:Nat),KQ a b out k cn/\i=.int .i64 k/\c=.int .u64 cn/\wr.ownsRow w.heap.size 179 1 v k (Bw out)/\Ab w wr)
  (fun _ _ i _=>a.length-(intOf i).toNat)
 case atStart=>exact⟨0,[],0,KQ.start a b,rfl,rfl,how,(Ab.refl w).alloc _⟩
 case round=>
  obtain⟨k,out,cn,hP,rfl,rfl,hown,Ac⟩:=hrel;clear how;have Ce:=hP.le;have hc1:=hP.c1;have hsz:=Ac.size;by_cases hk:k<a.length
  ·obtain⟨ba,oa,rfl,GQ⟩:=CG.ad (by omega);have hg:=Ac.cellS (GQ k hk);have AQ:=CQ ha hk;clear GQ;by_cases hkb:k<b.length
   ·obtain⟨bb,ob,rfl,GR⟩:=Ct.ad (by omega);have hgb:=Ac.cellS (GR k hkb);have hxb:=CQ hb hkb;clear GR;by_cases iK:Ap a k<cn+Ap b k
    ·go_wp2_with (at_builtin;refine app1 rfl _ _ rfl wr w.heap.size u5 k out rfl hown (by omega) _ (Ap a k+1000000000-(cn+Ap b k)) (by omega) rfl hsz ?_;intro v1 w1 hown1 hx1)
     go_roundw
     case rel=>exact⟨k+1,_,1,hP.step hk (by omega) (by omega) (by rw [if_pos hkb];omega),by go_num,rfl,hown1,hx1 _ Ac (Ao7 _)⟩
     case measure=>simp [intOf];omega
    ·go_wp2_with (at_builtin;refine app1 rfl _ _ rfl wr w.heap.size u5 k out rfl hown (by omega) _ (Ap a k-(cn+Ap b k)) (by omega) rfl hsz ?_;intro v1 w1 hown1 hx1)
     go_roundw
     case rel=>exact⟨k+1,_,0,hP.step hk (by omega) (by omega) (by rw [if_pos hkb];omega),by go_num,rfl,hown1,hx1 _ Ac (Ao7 _)⟩
     case measure=>simp [intOf];omega
   ·by_cases iK:Ap a k<cn
    ·go_wp2_with (at_builtin;refine app1 rfl _ _ rfl wr w.heap.size u5 k out rfl hown (by omega) _ (Ap a k+1000000000-cn) (by omega) rfl hsz ?_;intro v1 w1 hown1 hx1)
     go_roundw
     case rel=>exact⟨k+1,_,1,hP.step hk (by omega) (by omega) (by rw [if_neg hkb];omega),by go_num,rfl,hown1,hx1 _ Ac (Ao7 _)⟩
     case measure=>simp [intOf];omega
    ·go_wp2_with (at_builtin;refine app1 rfl _ _ rfl wr w.heap.size u5 k out rfl hown (by omega) _ (Ap a k-cn) (by omega) rfl hsz ?_;intro v1 w1 hown1 hx1)
     go_roundw
     case rel=>exact⟨k+1,_,0,hP.step hk (by omega) (by omega) (by rw [if_neg hkb];omega),by go_num,rfl,hown1,hx1 _ Ac (Ao7 _)⟩
     case measure=>simp [intOf];omega
  ·obtain rfl:k=a.length:=(by omega);have FB:=hP.len;(go_wp2_with fail);have Bf:Rd wr u5 out:=Rd.of_own (by simpa [FB]using hown) (by omega);refine(vt _ _ _ Bf hP.lt).mono ?_;rintro e w2 ⟨v2,rfl,hv2,hx2,ho2⟩;have HO:=Ao4 ho2;clear ho2;go_wp2;go_ret;exact⟨v2,rfl,by rw [←hP.done hab HL.out];exact hv2,Ac.trans hx2,fun b hb=>kH hown b (by rw [←HO.out];exact hb)⟩
theorem Ur(a b:List Nat)(u v:Value)(w:World)(hu:Rd w u a)(hv:Rd w v b)(Gz:a.length<50000)(ha:∀x∈a,x<1000000000)(hb:∀x∈b,x<1000000000)
  (hab:b.length<=a.length) (hle:Ao 1000000000 b<=Ao 1000000000 a) :
  Calls Tryz.prog 260 #[u,v] w (Od (Ao 1000000000 a-Ao 1000000000 b) w):=
 (lj a b u v w hu hv Gz ha hb hab hle).mono fun _ _ h=>h.plain
def El(x y:Nat):Int:=if x<y then -1 else if x=y then 0 else 1
theorem ML{x y:Nat}(h:x<y):El x y = -1:=by unfold El;rw [if_pos h]
theorem Lb{x y:Nat}(h:y<x):El x y=1:=by unfold El;rw [if_neg (by omega),if_neg (by omega)]
theorem PI{x y:Nat}(h:x=y):El x y=0:=by unfold El;rw [if_neg (by omega),if_pos h]
theorem DJ{a b:Int}(h:b=a):Ending.returned (.int .i64 a)=.returned (.int .i64 b):=by rw [h]
def AI(n:Int)(w:World)(e:Ending)(w':World):Prop:=e=.returned (.int .i64 n)/\Ab w w'
theorem MM{l:List Nat}{k:Nat}(h:k<l.length):l.drop k=Ap l k::l.drop (k+1):=by
 rw [List.drop_eq_getElem_cons h];simp [Ap,h]
theorem QP(a b:List Nat)(u v:Value)(w:World)(hu:Rd w u a)(hv:Rd w v b)(ha:∀x∈a,x<1000000000)(hb:∀x∈b,x<1000000000)(hta:Iw a)(Q0:Iw b) :
  Calls Tryz.prog 257 #[u,v] w (AI (El (Ao 1000000000 a) (Ao 1000000000 b)) w):=by
 obtain⟨A,ca,rfl,CG⟩:=hu;obtain⟨B,cb,rfl,Ct⟩:=hv;have WI:=CG.cap;have hcb:=Ct.cap;have Xg:=CG.max;have TK:=Ct.max;have Gz:=CG.len;have G0:=Ct.len;by_cases hab:a.length=b.length
 ·have hne:(((a.length:Nat):Int) != (b.length:Nat))=false:=(by simp [hab]);go_enter Tryz.func257,Tryz.ntmps257;have US:=Ao4 hab;clear hab;go_wp2
  go_loopw [5] (fun i wr=>∃z:Int,-1<=z/\z<a.length/\a.drop (z+1).toNat=b.drop (z+1).toNat/\i=.int .i64 z/\Ab w wr) (fun i _=>(intOf i+1).toNat)
  case atStart=>exact⟨(a.length:Int)-1,by omega,by omega,by rw [show ((a.length:Int)-1+1).toNat=a.length by omega,List.drop_length,US.out,List.drop_length],rfl,Ab.refl w⟩
  case round=>
   obtain⟨z,hz1,hz2,hd,rfl,Ac⟩:=hrel;have HD:=Ao4 hd;clear hd;by_cases h0:z<0
   ·go_wp2;go_ret;have e:a=b:=(by have:=HD.out;rw [show (z+1).toNat=0 by omega]at this;simpa using this);exact⟨DJ (by rw [e,PI rfl]),Ac⟩
   ·obtain⟨n,rfl⟩:=Int.eq_ofNat_of_zero_le (show 0<=z by omega);have DX:n<a.length:=(by omega);have hk2:n<b.length:=(by have:=US.out;omega);obtain⟨ba,oa,rfl,GQ⟩:=CG.ad (by omega);have L1:=Ac.cellS (GQ n DX);obtain⟨bb,ob,rfl,GR⟩:=Ct.ad (by omega);have hgb:=Ac.cellS (GR n hk2);have AQ:=CQ ha DX;have hxb:=CQ hb hk2;have Fa:a.drop (n+1)=b.drop (n+1):=(by have:=HD.out;rwa [show ((n:Int)+1).toNat=n+1 by omega]at this);have NS:=Ao4 Fa;clear GQ GR HD Fa
    rcases Nat.lt_trichotomy (Ap a n) (Ap b n)with hx|hx|hx
    ·have h1:(((Ap a n:Nat):Int) != (Ap b n:Nat))=true:=(by rw [bne_iff_ne];omega);(go_wp2_with fail)
     go_quiet (fail)
     (go_wp2_with fail)
     go_quiet (fail)
     go_wp2;go_ret;exact⟨DJ (ML (my n ha hb US.out DX NS.out hx)),(Ac.drewN _).drewN _⟩
    ·have h1:(((Ap a n:Nat):Int) != (Ap b n:Nat))=false:=(by simp [hx]);have HX:=Ao4 hx;clear hx;(go_wp2_with fail)
     go_quiet (fail)
     go_wp2;go_roundw
     case rel=>refine⟨(n:Int)-1,by omega,by omega,?_,by go_num,Ac.drewN _⟩;rw [show ((n:Int)-1+1).toNat=n by omega,MM DX,MM hk2,HX.out,NS.out]
     case measure=>simp [intOf]
    ·have h1:(((Ap a n:Nat):Int) != (Ap b n:Nat))=true:=(by rw [bne_iff_ne];omega);(go_wp2_with fail)
     go_quiet (fail)
     (go_wp2_with fail)
     go_quiet (fail)
     go_wp2;go_ret;exact⟨DJ (Lb (my n hb ha US.out.symm hk2 NS.out.symm hx)),(Ac.drewN _).drewN _⟩
 ·have hne:(((a.length:Nat):Int) != (b.length:Nat))=true:=(by rw [bne_iff_ne];omega);by_cases hlt:a.length<b.length
  ·go_enter Tryz.func257,Tryz.ntmps257;go_wp2;go_ret;exact⟨DJ (ML (mz (by omega) ha Q0 hlt)),Ab.refl w⟩
  ·go_enter Tryz.func257,Tryz.ntmps257;go_wp2;go_ret;exact⟨DJ (Lb (mz (by omega) hb hta (by omega))),Ab.refl w⟩
theorem jW{b:Nat} : ∀{l:List Nat} {j:Nat} (y:Nat),j<l.length→Ao b (l.set j y)+b^j*Ap l j=Ao b l+b^j*y
 | x::l,0,y,_=>by simp [Ao,Ap];omega
 | x::l,j+1,y,h=>by have ih:=jW (b:=b) (l:=l) (j:=j) y (by simpa using h);have e:Ap (x::l) (j+1)=Ap l j:=(by simp [Ap]);rw [List.set_cons_succ,e];simp only [Ao,Nat.pow_succ];generalize Ao b (l.set j y)=p at *;generalize Ao b l=q at *;generalize Ap l j=r at *;have:b*(p+b^j*r)=b*(q+b^j*y):=(by rw [ih]);rw [Nat.mul_add,Nat.mul_add]at this;rw [Nat.mul_comm (b^j) b,Nat.mul_assoc,Nat.mul_assoc];omega
theorem Y5(l:List Nat)(j y:Nat):(Bw l).set j (.int .u64 (y:Nat))=Bw (l.set j y):=by simp [Bw,List.map_set]
theorem jH{l:List Nat}{j y b:Nat}(h:∀x∈l,x<b)(hy:y<b):∀x∈l.set j y,x<b:=by
 intro x hx
 rcases List.mem_or_eq_of_mem_set hx with h1|h1
 ·exact h x h1
 ·rw [h1];exact hy
theorem Ut{x y:Nat}(hx:x<1000000000)(hy:y<1000000000):x*y<=999999998000000001:=by
 have h1:x*y<=999999999*999999999:=Nat.mul_le_mul (by omega) (by omega);omega
structure Zp(n:Nat)(out:List Nat)(v:Nat):Prop where
 len:out.length=n
 lt:∀x∈out,x<1000000000
 sum:Ao 1000000000 out=v
structure KU(n i k x:Nat)(b out:List Nat)(c v:Nat):Prop where
 len:out.length=n
 lt:∀x∈out,x<1000000000
 le:k<=b.length
 cl:c<1000000000
 sum:Ao 1000000000 out+1000000000^(i+k)*c=v+1000000000^i*(x*Ao 1000000000 (b.take k))
theorem KU.start{n i x v:Nat}{b out:List Nat}(h:Zp n out v):KU n i 0 x b out 0 v:=
 ⟨h.len,h.lt,Nat.zero_le _,by omega,by simp [Ao,h.sum]⟩
theorem KU.step{n i k x c v s:Nat}{b out:List Nat}(h:KU n i k x b out c v)(hk:k<b.length)(hn:i+k<n)(hx:x<1000000000)(hb:∀y∈b,y<1000000000)
  (hs:s=c+(Ap out (i+k)+x*Ap b k)):KU n i (k+1) x b (out.set (i+k) (s%1000000000)) (s/1000000000) v:=by
 have h1:=CQ hb hk;have h2:=CQ h.lt (show i+k<out.length by rw [h.len];exact hn);have h3:=Ut hx h1;have h4:=h.cl;refine⟨by rw [List.length_set,h.len],jH h.lt (by omega),hk,by omega,?_⟩;have e:=jW (b:=1000000000) (l:=out) (j:=i+k) (s%1000000000) (by rw [h.len];exact hn);have Ge:=h.sum;rw [Rk hk,Kx,List.length_take,Nat.min_eq_left h.le,Nat.mul_add,Nat.mul_add];have e1:1000000000^(i+(k+1))=1000000000^(i+k)*1000000000:=by rw [show i+(k+1)=i+k+1 by omega,Nat.pow_succ]
 have e2:1000000000^i*(x*(1000000000^k*Ap b k))=1000000000^(i+k)*(x*Ap b k):=by rw [Nat.pow_add,Nat.mul_left_comm x,Nat.mul_assoc]
 rw [e1,e2];have hm:s%1000000000+1000000000*(s/1000000000)=c+(Ap out (i+k)+x*Ap b k):=(by omega);generalize x*Ap b k=t at *;generalize s%1000000000=r at *;generalize s/1000000000=q at *;generalize 1000000000^(i+k)=p at *;generalize 1000000000^i*(x*Ao 1000000000 (b.take k))=g at *
 have:p*r+p*1000000000*q=p*c+(p*Ap out (i+k)+p*t):=by rw [Nat.mul_assoc,←Nat.mul_add,hm,Nat.mul_add,Nat.mul_add]
 omega
structure KV(n k:Nat)(out:List Nat)(c v:Nat):Prop where
 len:out.length=n
 lt:∀x∈out,x<1000000000
 cl:c<1000000000
 sum:Ao 1000000000 out+1000000000^k*c=v
theorem KU.up{n i x c v:Nat}{b out:List Nat}(h:KU n i b.length x b out c v):KV n (i+b.length) out c (v+1000000000^i*(x*Ao 1000000000 b)):=
 ⟨h.len,h.lt,h.cl,by have:=h.sum;rwa [List.take_length]at this⟩
theorem KV.room{n k c v m:Nat}{out:List Nat}(h:KV n k out c v)(hc:0<c)(hv:v<1000000000^m):k<m:=by
 have h1:=h.sum;have h2:1000000000^k*1<=1000000000^k*c:=Nat.mul_le_mul_left _ hc;have:1000000000^k<1000000000^m:=(by omega);exact(Nat.pow_lt_pow_iff_right (by omega)).1 this
theorem KV.step{n k c v s:Nat}{out:List Nat}(h:KV n k out c v)(hk:k<n)(hs:s=c+Ap out k):KV n (k+1) (out.set k (s%1000000000)) (s/1000000000) v:=by
 have h2:=CQ h.lt (show k<out.length by rw [h.len];exact hk);have h4:=h.cl;refine⟨by rw [List.length_set,h.len],jH h.lt (by omega),by omega,?_⟩;have e:=jW (b:=1000000000) (l:=out) (j:=k) (s%1000000000) (by rw [h.len];exact hk);have Ge:=h.sum;rw [Nat.pow_succ];have hm:s%1000000000+1000000000*(s/1000000000)=c+Ap out k:=(by omega);generalize s%1000000000=r at *;generalize s/1000000000=q at *;generalize 1000000000^k=p at *
 have:p*r+p*1000000000*q=p*c+p*Ap out k:=by rw [Nat.mul_assoc,←Nat.mul_add,hm,Nat.mul_add]
 omega
theorem KV.done{n k v:Nat}{out:List Nat}(h:KV n k out 0 v):Zp n out v:=⟨h.len,h.lt,by have:=h.sum;simpa using this⟩
theorem Alw{a b:List Nat}{i:Nat}(hi:i<a.length) :
  Ao 1000000000 (a.take i)*Ao 1000000000 b+1000000000^i*(Ap a i*Ao 1000000000 b)=Ao 1000000000 (a.take (i+1))*Ao 1000000000 b:=by
 rw [Rk hi,Kx,List.length_take,Nat.min_eq_left (by omega),Nat.add_mul,Nat.mul_assoc]
theorem Alv{a b:List Nat}{i:Nat}(hi:i<=a.length)(ha:∀x∈a,x<1000000000)(hb:∀x∈b,x<1000000000) :
  Ao 1000000000 (a.take i)*Ao 1000000000 b<1000000000^(i+b.length):=by
 have h1:=II (l:=a.take i) (b:=1000000000) fun x hx=>ha x (List.mem_of_mem_take hx);have h2:=II hb;rw [List.length_take,Nat.min_eq_left hi]at h1;rw [Nat.pow_add];exact Nat.mul_lt_mul'' h1 h2
theorem vo(a b:List Nat)(u v:Value)(w:World)(hu:Rd w u a)(hv:Rd w v b)(Gz:a.length<40000)(G0:b.length<40000)(ha:∀x∈a,x<1000000000)(hb:∀x∈b,x<1000000000) :
  Calls Tryz.prog 241 #[u,v] w (RO (Ao 1000000000 a*Ao 1000000000 b) w):=by
 obtain⟨A,ca,rfl,CG⟩:=hu;obtain⟨B,cb,rfl,Ct⟩:=hv;have WI:=CG.cap;have hcb:=Ct.cap;have Xg:=CG.max;have TK:=Ct.max;have hmk:=jJ (a.length+b.length+1) (by omega) ((a.length:Int)+(b.length:Int)+1) (by omega);have how:=kK w w.heap.size (a.length+b.length+1) (Ao7 _) (by omega);go_enter Tryz.func241,Tryz.ntmps241;go_wp2;clear hmk;obtain⟨N,hN⟩:=Ao3 (a.length+b.length+1);rw [←hN]at how ⊢;have HN:=Ao4 hN;clear hN;obtain⟨H,hH⟩:=Ao3 w.heap.size;rw [←hH]at how;simp only [←hH];have HH:=Ao4 hH;clear hH
 go_loopw [21] (fun i wr=>∃(k:Nat) (out:List Nat),k<=a.length/\i=.int .i64 k/\Zp N out (Ao 1000000000 (a.take k)*Ao 1000000000 b)/\wr.ownsRow H 179 1 (.slice (some ⟨H,0,none⟩) N N) N (Bw out)/\Ab w wr)
  (fun i _=>a.length-(intOf i).toNat)
 case atStart=>exact⟨0,List.replicate N 0,Nat.zero_le _,rfl,⟨by simp,by intro x hx;rw [List.mem_replicate]at hx;omega,by rw [jX (fun j hj=>by simp at hj;simp [Ap,hj])];simp [Ao]⟩,how,(Ab.refl w).alloc _⟩
 case round=>
  obtain⟨i,out,hi,rfl,hT,hown,Ac⟩:=hrel;obtain⟨wo,rfl⟩:=Ao3 (wr:World);clear how;by_cases hk:i<a.length
  ·obtain⟨ba,oa,rfl,GQ⟩:=CG.ad (by omega);have hg:=Ac.cellS (GQ i hk);have AQ:=CQ ha hk;clear GQ;go_wp2
   go_loopw [8,28] (fun c k wr=>∃(q cn:Nat) (out:List Nat),k=.int .i64 q/\c=.int .u64 cn/\KU N i q (Ap a i) b out cn (Ao 1000000000 (a.take i)*Ao 1000000000 b)/\wr.ownsRow H 179 1 (.slice (some ⟨H,0,none⟩) N N) N (Bw out)/\Ab w wr)
    (fun _ k _=>b.length-(intOf k).toNat)
   case atStart=>exact⟨0,0,out,rfl,rfl,KU.start hT,hown,Ac⟩
   case round=>
    clear hT hown Ac hg;obtain⟨q,cn,out,rfl,rfl,hT,hown,Ac⟩:=hrel;have hq:=hT.le;have Tt:=hT.cl;have hNN:=HN.out;have AQ:=CQ ha hk;by_cases hkb:q<b.length
    ·obtain⟨bb,ob,rfl,GR⟩:=Ct.ad (by omega);have hgb:=Ac.cellS (GR q hkb);have hxb:=CQ hb hkb;clear GR;have FB:=hT.len;have Uh:=CQ hT.lt (show i+q<out.length by omega)
     have hgo:wr.cell? ⟨H,i+q,none⟩=some (.int .u64 (Ap out (i+q):Nat)):=by rw [hown.cellAt (i+q) (by omega)];simp [Bw,Ap,show i+q<out.length by omega]
     have Gx:=hown.frozenAt (i+q);have hmu:=Ut AQ hxb;clear FB;go_wp2;go_roundw
     case rel=>have hst:=(hown.stored (i+q) (.int .u64 ((cn+(Ap out (i+q)+Ap a i*Ap b q))%1000000000:Nat))).1;rw [Y5]at hst;exact⟨q+1,_,_,by go_num,by go_num,hT.step hkb (by omega) AQ hb rfl,by simpa using hst,Ac.setCell (by have:=HH.out;simp;omega) _⟩
     case measure=>simp [intOf];omega
    ·obtain rfl:q=b.length:=(by omega);go_wp2
     go_loopw [8,11] (fun c k wr=>∃(q cn:Nat) (out:List Nat),k=.int .i64 q/\c=.int .u64 cn/\q<=i+b.length+1/\KV N q out cn (Ao 1000000000 (a.take (i+1))*Ao 1000000000 b)/\wr.ownsRow H 179 1 (.slice (some ⟨H,0,none⟩) N N) N (Bw out)/\Ab w wr)
      (fun _ k _=>i+b.length+1-(intOf k).toNat)
     case atStart=>have Q3:=hT.up;rw [Alw hk]at Q3;exact⟨i+b.length,cn,out,by go_num,rfl,by omega,Q3,hown,Ac⟩
     case round=>
      clear hT hown Ac Tt hq;obtain⟨q,cn,out,rfl,rfl,hq,hT,hown,Ac⟩:=hrel;have Tt:=hT.cl;by_cases hc0:0<cn
      ·have hroom:=hT.room hc0 (Alv (i:=i+1) hk ha hb);have FB:=hT.len;have Uh:=CQ hT.lt (show q<out.length by omega)
       have hgo:wr.cell? ⟨H,q,none⟩=some (.int .u64 (Ap out q:Nat)):=by rw [hown.cellAt q (by omega)];simp [Bw,Ap,show q<out.length by omega]
       have Gx:=hown.frozenAt q;clear FB;go_wp2;go_roundw
       case rel=>have hst:=(hown.stored q (.int .u64 ((cn+Ap out q)%1000000000:Nat))).1;rw [Y5]at hst;exact⟨q+1,_,_,by go_num,by go_num,by omega,hT.step (by omega) rfl,by simpa using hst,Ac.setCell (by have:=HH.out;simp;omega) _⟩
       case measure=>simp [intOf];omega
      ·obtain rfl:cn=0:=(by omega);go_wp2;go_roundw
       case rel=>exact⟨i+1,out,hk,by go_num,hT.done,hown,Ac⟩
       case measure=>simp [intOf];omega
  ·obtain rfl:i=a.length:=(by omega);have FB:=hT.len;have Ge:=hT.sum;rw [List.take_length]at Ge;have HS:=Ao4 Ge;have HO:=Ao4 FB;clear Ge FB;(go_wp2_with fail);have Bf:Rd wo (.slice (some ⟨H,0,none⟩) N N) out:=Rd.of_own (by rw [HO.out];exact hown) (by have:=HN.out;have:=HO.out;omega);refine(vt _ _ _ Bf hT.lt).mono ?_;rintro e w2 ⟨v2,rfl,hv2,hx2,ho2⟩;have Pv:=Ao4 ho2;clear ho2;go_wp2;go_ret;exact⟨v2,rfl,by rw [←HS.out];exact hv2,Ac.trans hx2,fun b hb=>by have:=kH hown b (by rw [←Pv.out];exact hb);have:=HH.out;omega⟩
theorem Alu(a b:List Nat)(u v:Value)(w:World)(hu:Rd w u a)(hv:Rd w v b)(Gz:a.length<40000)(G0:b.length<40000)(ha:∀x∈a,x<1000000000)(hb:∀x∈b,x<1000000000) :
  Calls Tryz.prog 241 #[u,v] w (Od (Ao 1000000000 a*Ao 1000000000 b) w):=
 (vo a b u v w hu hv Gz G0 ha hb).mono fun _ _ h=>h.plain
end Go.Proofs.YtnddllipjippnaaGreatDoor
