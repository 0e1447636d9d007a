/- U01: Num Mag Kit Int1 Int2 Int3 Int4 Int5. -/
import Derived.Lib.ItoaMem
import Derived.Lib.AtoiAll
import Derived.Test.YtbejphgbbpplbaaGreatDoorProg
import Derived.WalkKit
import Derived.BigQuiet
namespace Kl
open Go
abbrev Bs:=List UInt8
def D(n:Nat):Bs:=Lib.decDigits n
def I(z:Int):Bs:=Lib.itoa z
def dv(c:UInt8):Nat:=c.toNat-48
def DN(a:Nat)(l:Bs):Nat:=l.foldl (fun a c=>a*10+dv c) a
def val(l:Bs):Nat:=DN 0 l
def FN(c:UInt8):Prop:=48<=c.toNat/\c.toNat<=57
instance (c:UInt8):Decidable (FN c):=by unfold FN;infer_instance
def Cb(l:Bs):Prop:=∀c∈l,FN c
def dg(n:Nat):UInt8:=UInt8.ofNat (48+n)
theorem VU{n:Nat}(h:n<10):(dg n).toNat=48+n:=by
 unfold dg;rw [UInt8.toNat_ofNat'];omega
theorem vV{n:Nat}(h:n<10):dv (dg n)=n:=by unfold dv;rw [VU h];omega
theorem kU{n:Nat}(h:n<10):FN (dg n):=by unfold FN;rw [VU h];omega
theorem vP{c:UInt8}(h:FN c):dg (dv c)=c:=by
 have h1:=h.1;have h2:=h.2;apply UInt8.toNat_inj.1;rw [VU (by unfold dv;omega)];unfold dv;omega
theorem bV{c:UInt8}(h:FN c):dv c<10:=by have:=h.2;unfold dv;omega
theorem oQ(a:Nat)(c:UInt8)(l:Bs):DN a (c::l)=DN (a*10+dv c) l:=by unfold DN;rw [List.foldl_cons]
theorem Apg(a:Nat)(l m:Bs):DN a (l++m)=DN (DN a l) m:=by simp [DN,List.foldl_append]
theorem Ab5(l:Bs):∀a,DN a l=a*10^l.length+DN 0 l:=by
 induction l with
 | nil=>intro a;simp [DN]
 | cons c l ih=>intro a;have h1:=ih (a*10+dv c);have h2:=ih (0*10+dv c);rw [oQ,oQ,h1,h2,List.length_cons,Nat.pow_succ];generalize 10^l.length=p;generalize dv c=d;generalize DN 0 l=v;rw [Nat.add_mul,Nat.mul_assoc,Nat.mul_comm 10 p,Nat.zero_mul,Nat.zero_add,Nat.add_assoc]
theorem Mw:val []=0:=rfl
theorem val_append(l m:Bs):val (l++m)=val l*10^m.length+val m:=by
 rw [val,Apg,Ab5];rfl
theorem oR(l:Bs)(c:UInt8):val (l ++ [c])=val l*10+dv c:=by
 rw [val_append];simp [val,DN]
theorem Ab6(c:UInt8):val [c]=dv c:=by simp [val,DN]
theorem UT(c:UInt8)(l:Bs):val (c::l)=dv c*10^l.length+val l:=by
 rw [show c::l = [c]++l from rfl,val_append,Ab6]
theorem VD{l m:Bs} : Cb (l++m)↔Cb l/\Cb m:=by
 simp only [Cb,List.mem_append];constructor
 ·intro h;exact⟨fun c hc=>h c (.inl hc),fun c hc=>h c (.inr hc)⟩
 ·rintro⟨a,b⟩ c (hc|hc)
  ·exact a c hc
  ·exact b c hc
theorem VE{c:UInt8}{l:Bs} : Cb (c::l)↔FN c/\Cb l:=by simp [Cb]
theorem sL:Cb []:=by simp [Cb]
theorem ZX{l:Bs}(h:Cb l)(k:Nat):Cb (l.take k):=fun c hc=>h c (List.mem_of_mem_take hc)
theorem sK{l:Bs}(h:Cb l)(k:Nat):Cb (l.drop k):=fun c hc=>h c (List.mem_of_mem_drop hc)
theorem KQ{l:Bs}(h:Cb l):val l<10^l.length:=by
 induction l with
 | nil=>simp [val,DN]
 | cons c l ih=>rw [VE]at h;have h1:=ih h.2;have h2:=bV h.1;rw [UT,List.length_cons,Nat.pow_succ];have:dv c*10^l.length<=9*10^l.length:=Nat.mul_le_mul_right _ (by omega);omega
theorem FI{n:Nat}(h:n<10):D n = [dg n]:=by unfold D;rw [Lib.decDigits,dif_pos h];rfl
theorem RR{n:Nat}(h:¬n<10):D n=D (n/10) ++ [dg (n%10)]:=by
 unfold D;rw [Lib.decDigits,dif_neg h];rfl
theorem Ob(n:Nat):D n≠[]:=by
 by_cases h:n<10
 ·rw [FI h];simp
 ·rw [RR h];simp
theorem KO(n:Nat):val (D n)=n:=by
 induction n using Nat.strongRecOn with
 | _ n ih=>
  by_cases h:n<10
  ·rw [FI h,Ab6,vV h]
  ·rw [RR h,oR,ih _ (by omega),vV (by omega)];omega
theorem ES(n:Nat):Cb (D n):=by
 induction n using Nat.strongRecOn with
 | _ n ih=>
  by_cases h:n<10
  ·rw [FI h];intro c hc;simp at hc;subst hc;exact kU h
  ·rw [RR h,VD];refine⟨ih _ (by omega),?_⟩;intro c hc;simp at hc;subst hc;exact kU (by omega)
theorem UX{a b:Nat}(h:D a=D b):a=b:=by rw [←KO a,←KO b,h]
theorem UY(n:Nat):0<(D n).length:=List.length_pos_iff.2 (Ob n)
theorem uw(n:Nat):n<10^(D n).length:=by
 have:=KQ (ES n);rwa [KO]at this
theorem Zi(n:Nat)(h:0<n):∃c l,D n=c::l/\FN c/\c≠48:=by
 induction n using Nat.strongRecOn with
 | _ n ih=>
  by_cases h10:n<10
  ·refine⟨dg n,[],FI h10,kU h10,?_⟩;intro e;have:(dg n).toNat=48:=(by rw [e];rfl);rw [VU h10]at this;omega
  ·obtain⟨c,l,e,hc,hn⟩:=ih (n/10) (by omega) (by omega);exact⟨c,l ++ [dg (n%10)],by rw [RR h10,e];rfl,hc,hn⟩
theorem zj(n:Nat)(h:0<n):10^((D n).length-1)<=n:=by
 obtain⟨c,l,e,hc,hn⟩:=Zi n h;have h1:val (D n)=n:=KO n;rw [e,UT]at h1;rw [e,List.length_cons,Nat.add_sub_cancel]
 have h2:1<=dv c:=by have:=hc.1;have:c.toNat≠48:=fun e=>hn (UInt8.toNat_inj.1 e);unfold dv;omega
 have:1*10^l.length<=dv c*10^l.length:=Nat.mul_le_mul_right _ h2;omega
structure Can(l:Bs):Prop where
 ne:l≠[]
 all:Cb l
 head:∀m,l=48::m→m = []
theorem tV(n:Nat):Can (D n):=by
 refine⟨Ob n,ES n,fun m e=>?_⟩
 rcases Nat.eq_zero_or_pos n with rfl|h
 ·rw [FI (by omega)]at e;simp at e;exact e.2
 ·obtain⟨c,l,e2,_,hn⟩:=Zi n h;rw [e2]at e;simp at e;exact absurd e.1 hn
theorem Io{n k:Nat}(hk:0<k)(h:n<10^k):(D n).length<=k:=by
 rcases Nat.eq_zero_or_pos n with rfl|h0
 ·rw [FI (by omega)];simp;omega
 ·have h1:=zj n h0;have h2:=UY n;have:(D n).length-1<k:=(Nat.pow_lt_pow_iff_right (a:=10) (by omega)).1 (Nat.lt_of_le_of_lt h1 h);omega
theorem K1{n k:Nat}(h:(D n).length<=k):n<10^k:=
 Nat.lt_of_lt_of_le (uw n) (Nat.pow_le_pow_right (by omega) h)
theorem pI{l:Bs}(h:Can l):D (val l)=l:=by
 suffices H:∀(k:Nat) (l:Bs),l.length=k→Can l→D (val l)=l from H _ l rfl h
 clear h l;intro k
 induction k with
 | zero=>intro l hl h;exact absurd (List.eq_nil_of_length_eq_zero hl) h.ne
 | succ k ih=>
  intro l hl h;obtain⟨m,c,rfl⟩:∃m c,l=m ++ [c]:=⟨l.dropLast,l.getLast h.ne,(List.dropLast_concat_getLast h.ne).symm⟩;have Fv:=VD.1 h.all;have hc:FN c:=Fv.2 c (by simp);have hcl:=bV hc;rw [oR];by_cases hm:m = []
  ·subst hm;rw [Mw,Nat.zero_mul,Nat.zero_add,FI hcl,vP hc];rfl
  ·have hcm:Can m:=⟨hm,Fv.1,fun q e=>by
    have:=h.head (q ++ [c]) (by rw [e];rfl)
    simp at this⟩
   have hvm:0<val m:=by
    match m,hm,hcm with
    | d::q,_,hcm=>
     have hd:=(VE.1 hcm.all).1
     have hne:d≠48:=fun e=>by have:=h.head (q ++ [c]) (by rw [e];rfl);simp at this
     have:c.toNat≠48∨True:=.inr trivial
     have h1:1<=dv d:=by have:=hd.1;have:d.toNat≠48:=fun e=>hne (UInt8.toNat_inj.1 e);unfold dv;omega
     rw [UT];have:1*1<=dv d*10^q.length:=Nat.mul_le_mul h1 (Nat.one_le_pow _ _ (by omega));omega
   have e1:(val m*10+dv c)/10=val m:=(by omega);have e2:(val m*10+dv c)%10=dv c:=(by omega);rw [RR (by omega),e1,e2,ih m (by simpa using hl) hcm,vP hc]
/-! ### Padding -/
def pad(k x:Nat):Bs:=List.replicate (k-(D x).length) 48++D x
/-! ### Pieces, the least first -/
def AE(b:Nat):List Nat→Nat
 | []=>0
 | x::l=>x+b*AE b l
def wr(k:Nat):List Nat→Bs
 | []=>[]
 | x::l=>wr k l++pad k x
def cl(k:Nat):List Nat→Bs
 | []=>[48]
 | [x]=>D x
 | x::l=>cl k l++pad k x
theorem xh(b:Nat)(l m:List Nat):AE b (l++m)=AE b l+b^l.length*AE b m:=by
 induction l with
 | nil=>simp [AE]
 | cons x l ih=>simp only [List.cons_append,AE,ih,List.length_cons,Nat.pow_succ,Nat.mul_add];rw [Nat.mul_comm (b^l.length) b,Nat.mul_assoc];omega
theorem He(b:Nat)(l:List Nat)(x:Nat):AE b (l ++ [x])=AE b l+b^l.length*x:=by
 rw [xh];simp [AE]
theorem Alu{b:Nat}{l:List Nat}(h:∀x∈l,x<b):AE b l<b^l.length:=by
 induction l with
 | nil=>simp [AE]
 | cons x l ih=>have h1:=ih fun y hy=>h y (List.mem_cons_of_mem _ hy);have h2:=h x (by simp);simp only [AE,List.length_cons,Nat.pow_succ];have:b*(AE b l+1)<=b*b^l.length:=Nat.mul_le_mul_left _ h1;rw [Nat.mul_add]at this;rw [Nat.mul_comm (b^l.length)];omega
def PS(l:List Nat):Prop:=∀h:l≠[],l.getLast h≠0
theorem AoQ:PS []:=fun h=>absurd rfl h
theorem Abx{x:Nat}{l:List Nat}(hl:l≠[]):PS (x::l)↔PS l:=by
 constructor
 ·intro h h';have:=h (by simp);rwa [List.getLast_cons hl]at this
 ·intro h _;rw [List.getLast_cons hl];exact h hl
theorem Alv{b:Nat}(hb:0<b){l:List Nat}(h:PS l)(hne:l≠[]):0<AE b l:=by
 induction l with
 | nil=>exact absurd rfl hne
 | cons x l ih=>
  by_cases hl:l = []
  ·subst hl;have:=h (by simp);simp at this;simp [AE];omega
  ·have h1:=ih ((Abx hl).1 h) hl;have:0<b*AE b l:=Nat.mul_pos hb h1;simp only [AE];omega
/-! ### Integers -/
theorem FM(n:Nat):I (n:Int)=D n:=by unfold I Lib.itoa D;rw [if_neg (by omega)];simp
theorem ZJ(n:Nat)(h:0<n):I (-(n:Int))=45::D n:=by unfold I Lib.itoa D;rw [if_pos (by omega)];simp
theorem Ei(z:Int):(∃n:Nat,z=n/\I z=D n)∨(∃n:Nat,0<n/\z = -(n:Int)/\I z=45::D n):=by
 by_cases h:z<0
 ·exact .inr ⟨z.natAbs,by omega,by omega,by have:=ZJ z.natAbs (by omega);rwa [show -(z.natAbs:Int)=z by omega]at this⟩
 ·exact .inl ⟨z.toNat,by omega,by have:=FM z.toNat;rwa [show (z.toNat:Int)=z by omega]at this⟩
theorem Zk(n:Nat)(m:Bs):D n≠45::m:=by
 intro e;have:=ES n 45 (by rw [e];simp);exact absurd this (by decide +kernel)
theorem PL{a b:Int}(h:I a=I b):a=b:=by
 rcases Ei a with⟨n,rfl,e1⟩|⟨n,hn,rfl,e1⟩<;>rcases Ei b with⟨m,rfl,e2⟩|⟨m,hm,rfl,e2⟩
 ·rw [e1,e2]at h;rw [UX h]
 ·rw [e1,e2]at h;exact absurd h (Zk _ _)
 ·rw [e1,e2]at h;exact absurd h.symm (Zk _ _)
 ·rw [e1,e2]at h;simp at h;rw [UX h]
theorem ZK(z:Int):(47:UInt8)∉I z:=by
 rcases Ei z with⟨n,_,e⟩|⟨n,_,_,e⟩<;>rw [e]
 ·intro h;exact absurd (ES n _ h) (by decide +kernel)
 ·intro h
  rcases List.mem_cons.1 h with h|h
  ·exact absurd h (by decide +kernel)
  ·exact absurd (ES n _ h) (by decide +kernel)
/-! ### Fractions -/
def R(q:Rat):Bs:=if q.den=1 then I q.num else I q.num++47::D q.den
theorem rH(z:Int):R (z:Rat)=I z:=by unfold R;rw [if_pos (by simp)];simp
end Kl
namespace Kl
def pc(b:Nat)(n:Nat):List Nat:=
 if _h:2<=b/\0<n then (n%b)::pc b (n/b)else []
 termination_by n
 decreasing_by exact Nat.div_lt_self _h.2 _h.1
theorem Amk{b:Nat} : pc b 0 = []:=by rw [pc,dif_neg (by simp)]
theorem Ami{b:Nat}(hb:2<=b){n:Nat}(h:0<n):pc b n=(n%b)::pc b (n/b):=by rw [pc,dif_pos ⟨hb,h⟩]
theorem yu{b:Nat}(hb:2<=b):∀{l:List Nat},(∀x∈l,x<b)→PS l→pc b (AE b l)=l
 | [],_,_=>Amk
 | x::l,h,ht=>by
  have hx:=h x (by simp);have Cp:=Alv (by omega:0<b) ht (by simp);have e1:(x+b*AE b l)%b=x:=(by rw [Nat.add_mul_mod_self_left];exact Nat.mod_eq_of_lt hx);have e2:(x+b*AE b l)/b=AE b l:=by rw [Nat.add_mul_div_left _ _ (by omega),Nat.div_eq_of_lt hx,Nat.zero_add]
  have FZ:PS l:=by
   by_cases hl:l = []
   ·subst hl;exact AoQ
   ·exact(Abx hl).1 ht
  rw [AE]at Cp ⊢;rw [Ami hb Cp,e1,e2,yu hb (fun y hy=>h y (List.mem_cons_of_mem _ hy)) FZ]
end Kl
namespace Go.Proofs.YtbejphgbbpplbaaGreatDoor
open Go.RowKit Kl
def Aa(w w':World):Prop:=Below w.heap.size w w'
theorem Aa.refl(w:World):Aa w w:=Below.refl _ _
theorem Aa.trans{a b c:World}(h:Aa a b)(k:Aa b c):Aa a c:=Below.trans h (Below.mono k h.size)
theorem Aa.drew{a b:World}(h:Aa a b):Aa a b.drew:=Below.drew h
theorem Aa.drewN{a b:World}(h:Aa a b)(n:Nat):Aa a (b.drewN n):=⟨h.os,h.tape,h.output,h.size,h.block⟩
theorem Aa.alloc{a b:World}(h:Aa a b)(o:Obj):Aa a (b.alloc o):=Below.alloc h h.size o
theorem Aa.setCell{a b:World}(h:Aa a b){p:Addr}(hp:a.heap.size<=p.block)(u:Value):Aa a (b.setCell p u):=Below.setCell h hp u
theorem Aa.size{a b:World}(h:Aa a b):a.heap.size<=b.heap.size:=Below.size h
theorem Aa.cell{w w':World}(h:Aa w w'){p:Addr}(hp:p.block<w.heap.size):w'.cell? p=w.cell? p:=Below.cell h hp
theorem Aa.cellS{w w':World}(h:Aa w w'){p:Addr}{v:Value}(hp:w.cell? p=some v):w'.cell? p=some v:=
 (h.cell (World.block_lt_of_cell? w p hp)).trans hp
theorem Aa.frozen{w w':World}(h:Aa w w'){p:Addr}(hp:p.block<w.heap.size):w'.frozen? p=w.frozen? p:=Below.frozen h hp
theorem Aa.grown{a w w':World}{row:Option Nat}(h:Aa a w)(hg:w.grownBy w' row)(hr:∀k,row=some k→a.heap.size<=k):Aa a w':=
 Below.grown h hg h.size hr
theorem Aa.grownOwn{a w w':World}{B:Nat}{e:TypeId}{s n:Nat}{v:Value}{xs:List Value}(h:Aa a w)(hg:w.grownBy w' v.ownBlock)(ho:w.ownsRow B e s v n xs)(hB:a.heap.size<=B):Aa a w':=
 h.grown hg fun k hk=>Nat.le_trans hB (ho.lt k hk).1
theorem Aa.cells{W w1:World}(h:Aa W w1):(∀b o,b<W.heap.size→w1.cell? ⟨b,o,none⟩=W.cell? ⟨b,o,none⟩)/\(∀b o,b<W.heap.size→w1.frozen? ⟨b,o,none⟩=W.frozen? ⟨b,o,none⟩):=
 ⟨fun b o hb=>h.cell (p:=⟨b,o,none⟩) hb,fun b o hb=>h.frozen (p:=⟨b,o,none⟩) hb⟩
def aL:Nat:=4000
def Big:Nat:=10^aL
abbrev S(l:Bs):Value:=.string ⟨l.toArray⟩
def AM(l:List Nat)(i:Nat):Nat:=l.getD i 0
theorem MJ{l:List Nat}{b i:Nat}(h:∀x∈l,x<b)(hi:i<l.length):AM l i<b:=by
 unfold AM;rw [List.getD_eq_getElem?_getD,List.getElem?_eq_getElem hi];exact h _ (List.getElem_mem hi)
theorem NX{l:List Nat}{k:Nat}(h:k<l.length):l.take (k+1)=l.take k ++ [AM l k]:=by
 rw [List.take_succ_eq_append_getElem h];simp [AM,h]
structure Jb(w:World)(A:Option Addr)(c:Nat)(l:List Nat):Prop where
 cap:l.length<=c
 max:c<=9223372036854775807
 len:l.length<=100000
 ad:0<l.length→∃b o,A=some ⟨b,o,none⟩/\∀j,j<l.length→w.cell? ⟨b,o+j,none⟩=some (.int .u64 (AM l j:Nat))
def Rd(w:World)(v:Value)(l:List Nat):Prop:=∃A c,v=.slice A l.length c/\Jb w A c l
theorem Jb.ext{w w':World}{A:Option Addr}{c:Nat}{l:List Nat}(h:Jb w A c l)(hx:Aa w w'):Jb w' A c l:=
 ⟨h.cap,h.max,h.len,fun h0=>by
  obtain⟨b,o,e,hc⟩:=h.ad h0
  exact⟨b,o,e,fun j hj=>hx.cellS (hc j hj)⟩⟩
theorem Rd.ext{w w':World}{v:Value}{l:List Nat}(h:Rd w v l)(hx:Aa w w'):Rd w' v l:=by
 obtain⟨A,c,e,h⟩:=h;exact⟨A,c,e,h.ext hx⟩
def Adu(n:Nat)(w:World)(e:Ending)(w':World):Prop:=∃v,e=.returned v/\Rd w' v (pc 1000000000 n)/\Aa w w'
def rM(n:Nat)(w:World)(e:Ending)(w':World):Prop:=∃v,e=.returned v/\Rd w' v (pc 1000000000 n)/\Aa w w'/\∀b,v.ownBlock=some b→w.heap.size<=b
theorem rM.plain{n:Nat}{w:World}{e:Ending}{w':World}(h:rM n w e w'):Adu n w e w':=by
 obtain⟨v,h1,h2,h3,_⟩:=h;exact⟨v,h1,h2,h3⟩
section
variable {P : Program} {ops : Array Oper} {rest : List Oper} {o : Oper} {a : Act} {Q : Exit → Act → World → Prop}
end
theorem Ao{w w':World}{base:Nat}{e:TypeId}{size:Nat}{v:Value}{n:Nat}{xs:List Value}(h:w.ownsRow base e size v n xs)(hx:Aa w w'):w'.ownsRow base e size v n xs:=
 h.kept (row:=none) ⟨hx.os,hx.tape,hx.output,hx.size,fun k hk _=>hx.block k hk⟩ (by cases v.ownBlock<;>simp)
theorem VX(l:Bs)(i j:Nat):(⟨l.toArray⟩:ByteArray).extract i j=⟨((l.drop i).take (j-i)).toArray⟩:=by
 apply ByteArray.ext;rw [ByteArray.data_extract];simp
theorem wQ(l:Bs)(k:Nat):(⟨l.toArray⟩:ByteArray).extract k l.length=⟨(l.drop k).toArray⟩:=by
 rw [VX,List.take_of_length_le (by simp)]
theorem Agq(l:Bs)(k:Nat):(⟨l.toArray⟩:ByteArray).extract 0 k=⟨(l.take k).toArray⟩:=by
 rw [VX];simp
theorem Hh{a:ByteArray}{b:Bs}(h:a=⟨b.toArray⟩):Ending.returned (.string a)=.returned (S b):=by rw [h]
theorem ArV{α:Sort _}(a:α):∃x,x=a:=⟨a,rfl⟩
theorem ArW{p:Prop}(h:p):Hid p:=Lib.hid h
theorem ArX{w:World}{b:Nat}{o:Obj}(h:w.heap[b]?=some o):b<w.heap.size:=lt_of_block h
theorem ArY(w:World)(o:Obj):(w.alloc o).heap[w.heap.size]?=some o:=heap_alloc_new w o
theorem ArZ(n:Nat):n<=n:=Nat.le_refl n
theorem Asa{α:Type _}{l:List α}{n:Nat}(h:n<l.length):l[n]∈l:=List.getElem_mem h
theorem Asb(n:Nat):(n:Int).natAbs=n:=Int.natAbs_natCast n
theorem Asd{α:Type _}{i:Nat}{l:List α}(h:i<l.length):List.take (i+1) l=List.take i l ++ [l[i]]:=List.take_succ_eq_append_getElem h
theorem Ase{α:Type _}(a b:α):(some a=some b)=(a=b):=Option.some.injEq a b
theorem Asf{α:Type _}{l:List α}{i:Nat}(h:i<l.length):l[i]?=some l[i]:=List.getElem?_eq_getElem h
theorem Asg(n:Int)(h:-9223372036854775808<=n/\n<=9223372036854775807):IntKind.i64.wrap n=n:=IntWalk.i64_in n h
theorem Ash(w:World)(o:Obj):(w.alloc o).heap.size=w.heap.size+1:=World.size_alloc w o
theorem Asi{α:Type _}{i:Nat}{l:List α}(h:l.length<=i):List.take i l=l:=List.take_of_length_le h
theorem Asj{n m k:Nat}(h:n<m)(g:m<=k):n<k:=Nat.lt_of_lt_of_le h g
theorem Asl{n m k:Nat}(h:n<=m)(g:m<=k):n<=k:=Nat.le_trans h g
theorem Asm{α:Type _}{a:α} : ¬a∈[]:=List.not_mem_nil
theorem Asn{α:Type _}{a b:α} : a∈[b]↔a=b:=List.mem_singleton
theorem Aso{α:Type _}{l:List α}{i:Nat}{a:α} : l[i]?=some a↔∃h,l[i]=a:=List.getElem?_eq_some_iff
theorem Asp{α:Type _}{i:Nat}{b:α}{xs:Array α} : xs[i]?=some b↔∃h,xs[i]=b:=Array.getElem?_eq_some_iff
/-! ### trim -/
def Hp(l:List Nat)(k:Nat):Prop:=k<=l.length/\∀j,k<=j→j<l.length→AM l j=0
theorem Hp.start(l:List Nat):Hp l l.length:=⟨ArZ _,fun j h1 h2=>by omega⟩
theorem Hp.step{l:List Nat}{k:Nat}(h:Hp l k)(_h0:k≠0)(hx:AM l (k-1)=0):Hp l (k-1):=
 ⟨by have:=h.1;omega,fun j h1 h2=>by
  by_cases e:j=k-1
  ·rw [e];exact hx
  ·exact h.2 j (by omega) h2⟩
theorem xi{b:Nat} : ∀{l:List Nat},(∀j,j<l.length→AM l j=0)→AE b l=0
 | [],_=>rfl
 | x::l,h=>by have hx:x=0:=h 0 (by simp);have:=xi (b:=b) (l:=l) fun j hj=>(by have:=h (j+1) (by simpa using hj);simpa [AM]using this);rw [AE,this,hx];simp
theorem Hp.sum{l:List Nat}{k b:Nat}(h:Hp l k):AE b (l.take k)=AE b l:=by
 conv=>rhs;rw [←List.take_append_drop k l,xh]
 rw [xi (l:=l.drop k)]
 ·simp
 ·intro j hj;have:=h.2 (k+j) (by omega) (by simp at hj;omega)
  simpa [AM]using this
theorem Hp.done{l:List Nat}{k:Nat}(h:Hp l k)(hl:∀x∈l,x<1000000000)(hx:k=0∨AM l (k-1)≠0):l.take k=pc 1000000000 (AE 1000000000 l):=by
 rw [←h.sum (b:=1000000000)];refine(yu (by omega) (fun x hm=>hl x (List.mem_of_mem_take hm)) ?_).symm;intro hne
 rcases hx with rfl|hx
 ·simp at hne
 ·have hk:=h.1
  have h0:0<k:=by
   rcases Nat.eq_zero_or_pos k with rfl|h0
   ·simp at hne
   ·exact h0
  rw [List.getLast_take];have e:l[k-1]?=some (l[k-1]'(by omega)):=Asf (by omega);rw [e];simp [AM,List.getD,e]at hx ⊢;exact hx
theorem Rd.take{w:World}{A:Option Addr}{c:Nat}{l:List Nat}(h:Jb w A c l){k:Nat}(hk:k<=l.length):Rd w (.slice A k c) (l.take k):=by
 have e:(l.take k).length=k:=(by rw [List.length_take];omega);refine⟨A,c,by rw [e],by have:=h.cap;omega,h.max,by have:=h.len;omega,fun h0=>?_⟩;obtain⟨b,o,e1,hc⟩:=h.ad (by omega);refine⟨b,o,e1,fun j hj=>?_⟩
 have:AM (l.take k) j=AM l j:=by rw [e]at hj;simp [AM,hj]
 rw [this];exact hc j (by omega)
theorem Amj{l:List Nat}(hl:∀x∈l,x<1000000000):∃k,k<=l.length/\pc 1000000000 (AE 1000000000 l)=l.take k:=by
 obtain⟨k,hk,hx⟩:∃k,Hp l k/\(k=0∨AM l (k-1)≠0):=by
  have:∀n k,k<=n→Hp l k→∃k,Hp l k/\(k=0∨AM l (k-1)≠0):=by
   intro n
   induction n with
   | zero=>intro k hk h;exact⟨k,h,.inl (by omega)⟩
   | succ n ih=>
    intro k hk h;by_cases h0:k=0
    ·exact⟨k,h,.inl h0⟩
    ·by_cases hx:AM l (k-1)=0
     ·exact ih (k-1) (by omega) (h.step h0 hx)
     ·exact⟨k,h,.inr hx⟩
  exact this l.length l.length (ArZ _) (Hp.start l)
 exact⟨k,hk.1,(hk.done hl hx).symm⟩
theorem Jb.pc{w:World}{A:Option Addr}{c:Nat}{l:List Nat}(h:Jb w A c l)(hl:∀x∈l,x<1000000000):Jb w A c (pc 1000000000 (AE 1000000000 l)):=by
 obtain⟨k,hk,e⟩:=Amj hl;obtain⟨A',c',e1,h1⟩:=Rd.take h hk;simp only [Value.slice.injEq]at e1;obtain⟨rfl,_,rfl⟩:=e1;rw [e];exact h1
theorem AlZ{w:World}{base:Nat}{e:TypeId}{size:Nat}{v:Value}{n:Nat}{xs:List Value}(h:w.ownsRow base e size v n xs)(b:Nat)(hb:v.ownBlock=some b):base<=b:=by
 rcases h.2 with⟨rfl,_⟩|⟨g,cap,cur,rfl,hg,_⟩
 ·cases hb
 ·simp only [Value.ownBlock,Ase]at hb;omega
/-! ### plus -/
structure Oo(a b out:List Nat)(k c:Nat):Prop where
 le:k<=a.length
 len:out.length=k
 lt:∀x∈out,x<1000000000
 c1:c<=1
 sum:AE 1000000000 out+1000000000^k*c=AE 1000000000 (a.take k)+AE 1000000000 (b.take k)
theorem Oo.start(a b:List Nat):Oo a b [] 0 0:=⟨Nat.zero_le _,rfl,by simp,by omega,by simp [AE]⟩
theorem Oo.step{a b out:List Nat}{k c s:Nat}(h:Oo a b out k c)(hk:k<a.length)(ha:∀x∈a,x<1000000000)(hb:∀x∈b,x<1000000000)
  (hs:s=c+AM a k+(if k<b.length then AM b k else 0)):Oo a b (out ++ [s%1000000000]) (k+1) (s/1000000000):=by
 have h1:=MJ ha hk
 have hs2:s<=1999999999:=by
  have:=h.c1
  split at hs
  ·have:=MJ hb ‹k<b.length›;omega
  ·omega
 refine⟨hk,by simp [h.len],?_,by omega,?_⟩
 ·intro x hx
  rcases List.mem_append.1 hx with hx|hx
  ·exact h.lt x hx
  ·simp at hx;subst hx;omega
 ·rw [He,h.len,Nat.pow_succ,NX hk,He,List.length_take,Nat.min_eq_left h.le]
  have e:AE 1000000000 (b.take (k+1))=AE 1000000000 (b.take k)+1000000000^k*(if k<b.length then AM b k else 0):=by
   by_cases hkb:k<b.length
   ·rw [if_pos hkb,NX hkb,He,List.length_take,Nat.min_eq_left (by omega)]
   ·rw [if_neg hkb,Asi (by omega),Asi (by omega)];simp
  rw [e];have hm:s%1000000000+1000000000*(s/1000000000)=c+AM a k+(if k<b.length then AM b k else 0):=(by omega);have LQ:=h.sum;generalize (if k<b.length then AM b k else 0)=y at *;generalize s%1000000000=r at *;generalize s/1000000000=q at *;generalize 1000000000^k=p at *
  have:p*r+p*1000000000*q=p*c+p*AM a k+p*y:=by rw [Nat.mul_assoc,←Nat.mul_add,hm,Nat.mul_add,Nat.mul_add]
  omega
theorem Oo.done{a b out:List Nat}{c:Nat}(h:Oo a b out a.length c)(hab:b.length<=a.length) :
  AE 1000000000 (out ++ [c])=AE 1000000000 a+AE 1000000000 b/\∀x∈out ++ [c],x<1000000000:=by
 have hs:=h.sum;rw [List.take_length,Asi hab]at hs;refine⟨by rw [He,h.len,hs],fun x hx=>?_⟩
 rcases List.mem_append.1 hx with hx|hx
 ·exact h.lt x hx
 ·simp at hx;subst hx;have:=h.c1;omega
structure On(a b out:List Nat)(k c:Nat):Prop where
 le:k<=a.length
 len:out.length=k
 lt:∀x∈out,x<1000000000
 c1:c<=1
 sum:AE 1000000000 out+AE 1000000000 (b.take k)=AE 1000000000 (a.take k)+1000000000^k*c
theorem On.start(a b:List Nat):On a b [] 0 0:=⟨Nat.zero_le _,rfl,by simp,by omega,by simp [AE]⟩
theorem On.step{a b out:List Nat}{k c d c2:Nat}(h:On a b out k c)(hk:k<a.length)(hd:d<1000000000)(hc2:c2<=1)
  (he:d+(c+(if k<b.length then AM b k else 0))=AM a k+1000000000*c2):On a b (out ++ [d]) (k+1) c2:=by
 refine⟨hk,by simp [h.len],?_,hc2,?_⟩
 ·intro x hx
  rcases List.mem_append.1 hx with hx|hx
  ·exact h.lt x hx
  ·simp at hx;subst hx;exact hd
 ·rw [He,h.len,Nat.pow_succ,NX hk,He,List.length_take,Nat.min_eq_left h.le]
  have e:AE 1000000000 (b.take (k+1))=AE 1000000000 (b.take k)+1000000000^k*(if k<b.length then AM b k else 0):=by
   by_cases hkb:k<b.length
   ·rw [if_pos hkb,NX hkb,He,List.length_take,Nat.min_eq_left (by omega)]
   ·rw [if_neg hkb,Asi (by omega),Asi (by omega)];simp
  rw [e];have LQ:=h.sum;generalize (if k<b.length then AM b k else 0)=y at *;generalize 1000000000^k=p at *
  have:p*d+(p*c+p*y)=p*AM a k+p*1000000000*c2:=by rw [Nat.mul_assoc,←Nat.mul_add,←Nat.mul_add,←Nat.mul_add,he]
  omega
theorem On.done{a b out:List Nat}{c:Nat}(h:On a b out a.length c)(hab:b.length<=a.length)(hle:AE 1000000000 b<=AE 1000000000 a) :
  AE 1000000000 out=AE 1000000000 a-AE 1000000000 b:=by
 have hs:=h.sum;rw [List.take_length,Asi hab]at hs;have hlt:=Alu h.lt;rw [h.len]at hlt
 have hc:c=0:=by
  rcases Nat.eq_zero_or_pos c with e|e
  ·exact e
  ·have e1:c=1:=(by have:=h.c1;omega);rw [e1]at hs;omega
 rw [hc]at hs;omega
def I1(x y:Nat):Int:=if x<y then -1 else if x=y then 0 else 1
theorem uP{x y:Nat}(h:x<y):I1 x y = -1:=by unfold I1;rw [if_pos h]
theorem uO{x y:Nat}(h:y<x):I1 x y=1:=by unfold I1;rw [if_neg (by omega),if_neg (by omega)]
theorem BA{a b:Int}(h:b=a):Ending.returned (.int .i64 a)=.returned (.int .i64 b):=by rw [h]
def Av(n:Int)(w:World)(e:Ending)(w':World):Prop:=e=.returned (.int .i64 n)/\Aa w w'
theorem UB{b:Nat} : ∀{l:List Nat} {j:Nat} (y:Nat),j<l.length→AE b (l.set j y)+b^j*AM l j=AE b l+b^j*y
 | x::l,0,y,_=>by simp [AE,AM];omega
 | x::l,j+1,y,h=>by have ih:=UB (b:=b) (l:=l) (j:=j) y (by simpa using h);have e:AM (x::l) (j+1)=AM l j:=(by simp [AM]);rw [List.set_cons_succ,e];simp only [AE,Nat.pow_succ];generalize AE b (l.set j y)=p at *;generalize AE b l=q at *;generalize AM l j=r at *;have:b*(p+b^j*r)=b*(q+b^j*y):=(by rw [ih]);rw [Nat.mul_add,Nat.mul_add]at this;rw [Nat.mul_comm (b^j) b,Nat.mul_assoc,Nat.mul_assoc];omega
theorem lJ{l:List Nat}{j y b:Nat}(h:∀x∈l,x<b)(hy:y<b):∀x∈l.set j y,x<b:=by
 intro x hx
 rcases List.mem_or_eq_of_mem_set hx with h1|h1
 ·exact h x h1
 ·rw [h1];exact hy
theorem lM{x y:Nat}(hx:x<1000000000)(hy:y<1000000000):x*y<=999999998000000001:=by
 have h1:x*y<=999999999*999999999:=Nat.mul_le_mul (by omega) (by omega);omega
structure rU(n:Nat)(out:List Nat)(v:Nat):Prop where
 len:out.length=n
 lt:∀x∈out,x<1000000000
 sum:AE 1000000000 out=v
structure S8(n i k x:Nat)(b out:List Nat)(c v:Nat):Prop where
 len:out.length=n
 lt:∀x∈out,x<1000000000
 le:k<=b.length
 cl:c<1000000000
 sum:AE 1000000000 out+1000000000^(i+k)*c=v+1000000000^i*(x*AE 1000000000 (b.take k))
theorem S8.start{n i x v:Nat}{b out:List Nat}(h:rU n out v):S8 n i 0 x b out 0 v:=
 ⟨h.len,h.lt,Nat.zero_le _,by omega,by simp [AE,h.sum]⟩
theorem S8.step{n i k x c v s:Nat}{b out:List Nat}(h:S8 n i k x b out c v)(hk:k<b.length)(hn:i+k<n)(hx:x<1000000000)(hb:∀y∈b,y<1000000000)
  (hs:s=c+(AM out (i+k)+x*AM b k)):S8 n i (k+1) x b (out.set (i+k) (s%1000000000)) (s/1000000000) v:=by
 have h1:=MJ hb hk;have h2:=MJ h.lt (show i+k<out.length by rw [h.len];exact hn);have h3:=lM hx h1;have h4:=h.cl;refine⟨by rw [List.length_set,h.len],lJ h.lt (by omega),hk,by omega,?_⟩;have e:=UB (b:=1000000000) (l:=out) (j:=i+k) (s%1000000000) (by rw [h.len];exact hn);have LQ:=h.sum;rw [NX hk,He,List.length_take,Nat.min_eq_left h.le,Nat.mul_add,Nat.mul_add];have e1:1000000000^(i+(k+1))=1000000000^(i+k)*1000000000:=by rw [show i+(k+1)=i+k+1 by omega,Nat.pow_succ]
 have e2:1000000000^i*(x*(1000000000^k*AM b k))=1000000000^(i+k)*(x*AM b k):=by rw [Nat.pow_add,Nat.mul_left_comm x,Nat.mul_assoc]
 rw [e1,e2];have hm:s%1000000000+1000000000*(s/1000000000)=c+(AM out (i+k)+x*AM b k):=(by omega);generalize x*AM b k=t at *;generalize s%1000000000=r at *;generalize s/1000000000=q at *;generalize 1000000000^(i+k)=p at *;generalize 1000000000^i*(x*AE 1000000000 (b.take k))=g at *
 have:p*r+p*1000000000*q=p*c+(p*AM out (i+k)+p*t):=by rw [Nat.mul_assoc,←Nat.mul_add,hm,Nat.mul_add,Nat.mul_add]
 omega
structure S9(n k:Nat)(out:List Nat)(c v:Nat):Prop where
 len:out.length=n
 lt:∀x∈out,x<1000000000
 cl:c<1000000000
 sum:AE 1000000000 out+1000000000^k*c=v
theorem S9.step{n k c v s:Nat}{out:List Nat}(h:S9 n k out c v)(hk:k<n)(hs:s=c+AM out k):S9 n (k+1) (out.set k (s%1000000000)) (s/1000000000) v:=by
 have h2:=MJ h.lt (show k<out.length by rw [h.len];exact hk);have h4:=h.cl;refine⟨by rw [List.length_set,h.len],lJ h.lt (by omega),by omega,?_⟩;have e:=UB (b:=1000000000) (l:=out) (j:=k) (s%1000000000) (by rw [h.len];exact hk);have LQ:=h.sum;rw [Nat.pow_succ];have hm:s%1000000000+1000000000*(s/1000000000)=c+AM out k:=(by omega);generalize s%1000000000=r at *;generalize s/1000000000=q at *;generalize 1000000000^k=p at *
 have:p*r+p*1000000000*q=p*c+p*AM out k:=by rw [Nat.mul_assoc,←Nat.mul_add,hm,Nat.mul_add]
 omega
theorem S9.done{n k v:Nat}{out:List Nat}(h:S9 n k out 0 v):rU n out v:=⟨h.len,h.lt,by have:=h.sum;simpa using this⟩
end Go.Proofs.YtbejphgbbpplbaaGreatDoor
