/- I02: Num Mag Kit Int1 Int2 Int3 Int4 Int5 Lib Bld Fmt Int6. -/
import Derived.BigQuiet
import Derived.Test.YtnddllipjippnaaGreatDoorI01
import Derived.Lib.SmallJoins
import Derived.Lib.AppendIntMem
set_option maxHeartbeats 400000
namespace Kl
open Go
abbrev Bs:=List UInt8
def D(n:Nat):Bs:=Lib.decDigits n
def I(z:Int):Bs:=Lib.itoa z
def dv(c:UInt8):Nat:=c.toNat-48
def Eh(a:Nat)(l:Bs):Nat:=l.foldl (fun a c=>a*10+dv c) a
def val(l:Bs):Nat:=Eh 0 l
def Ge(c:UInt8):Prop:=48<=c.toNat/\c.toNat<=57
instance (c:UInt8):Decidable (Ge c):=by unfold Ge;infer_instance
def Da(l:Bs):Prop:=∀c∈l,Ge c
def dg(n:Nat):UInt8:=UInt8.ofNat (48+n)
theorem Xr{n:Nat}(h:n<10):(dg n).toNat=48+n:=by
 unfold dg;rw [UInt8.toNat_ofNat'];omega
theorem yF{n:Nat}(h:n<10):dv (dg n)=n:=by unfold dv;rw [Xr h];omega
theorem nI{n:Nat}(h:n<10):Ge (dg n):=by unfold Ge;rw [Xr h];omega
theorem xX{c:UInt8}(h:Ge c):dg (dv c)=c:=by
 have h1:=h.1;have h2:=h.2;apply UInt8.toNat_inj.1;rw [Xr (by unfold dv;omega)];unfold dv;omega
theorem eI{c:UInt8}(h:Ge c):dv c<10:=by have:=h.2;unfold dv;omega
theorem qS(a:Nat)(c:UInt8)(l:Bs):Eh a (c::l)=Eh (a*10+dv c) l:=by unfold Eh;rw [List.foldl_cons]
theorem Apu(a:Nat)(l m:Bs):Eh a (l++m)=Eh (Eh a l) m:=by simp [Eh,List.foldl_append]
theorem Ac9(l:Bs):∀a,Eh a l=a*10^l.length+Eh 0 l:=by
 induction l with
 | nil=>intro a;simp [Eh]
 | cons c l ih=>intro a;have h1:=ih (a*10+dv c);have h2:=ih (0*10+dv c);rw [qS,qS,h1,h2,List.length_cons,Nat.pow_succ];generalize 10^l.length=p;generalize dv c=d;generalize Eh 0 l=v;rw [Nat.add_mul,Nat.mul_assoc,Nat.mul_comm 10 p,Nat.zero_mul,Nat.zero_add,Nat.add_assoc]
theorem Qa:val []=0:=rfl
theorem val_append(l m:Bs):val (l++m)=val l*10^m.length+val m:=by
 rw [val,Apu,Ac9];rfl
theorem qT(l:Bs)(c:UInt8):val (l ++ [c])=val l*10+dv c:=by
 rw [val_append];simp [val,Eh]
theorem AcA(c:UInt8):val [c]=dv c:=by simp [val,Eh]
theorem VX(c:UInt8)(l:Bs):val (c::l)=dv c*10^l.length+val l:=by
 rw [show c::l = [c]++l from rfl,val_append,AcA]
theorem WY{l m:Bs} : Da (l++m)↔Da l/\Da m:=by
 simp only [Da,List.mem_append];constructor
 ·intro h;exact⟨fun c hc=>h c (.inl hc),fun c hc=>h c (.inr hc)⟩
 ·rintro⟨a,b⟩ c (hc|hc)
  ·exact a c hc
  ·exact b c hc
theorem WZ{c:UInt8}{l:Bs} : Da (c::l)↔Ge c/\Da l:=by simp [Da]
theorem uM:Da []:=by simp [Da]
theorem Afa{l:Bs}(h:Da l)(k:Nat):Da (l.take k):=fun c hc=>h c (List.mem_of_mem_take hc)
theorem O4{l:Bs}(h:Da l):val l<10^l.length:=by
 induction l with
 | nil=>simp [val,Eh]
 | cons c l ih=>rw [WZ]at h;have h1:=ih h.2;have h2:=eI h.1;rw [VX,List.length_cons,Nat.pow_succ];have:dv c*10^l.length<=9*10^l.length:=Nat.mul_le_mul_right _ (by omega);omega
theorem Gc{n:Nat}(h:n<10):D n = [dg n]:=by unfold D;rw [Lib.decDigits,dif_pos h];rfl
theorem S4{n:Nat}(h:¬n<10):D n=D (n/10) ++ [dg (n%10)]:=by
 unfold D;rw [Lib.decDigits,dif_neg h];rfl
theorem O7(n:Nat):D n≠[]:=by
 by_cases h:n<10
 ·rw [Gc h];simp
 ·rw [S4 h];simp
theorem MQ(n:Nat):val (D n)=n:=by
 induction n using Nat.strongRecOn with
 | _ n ih=>
  by_cases h:n<10
  ·rw [Gc h,AcA,yF h]
  ·rw [S4 h,qT,ih _ (by omega),yF (by omega)];omega
theorem FP(n:Nat):Da (D n):=by
 induction n using Nat.strongRecOn with
 | _ n ih=>
  by_cases h:n<10
  ·rw [Gc h];intro c hc;simp at hc;subst hc;exact nI h
  ·rw [S4 h,WY];refine⟨ih _ (by omega),?_⟩;intro c hc;simp at hc;subst hc;exact nI (by omega)
theorem Wd{a b:Nat}(h:D a=D b):a=b:=by rw [←MQ a,←MQ b,h]
theorem We(n:Nat):0<(D n).length:=List.length_pos_iff.2 (O7 n)
theorem Aac(n:Nat):n<10^(D n).length:=by
 have:=O4 (FP n);rwa [MQ]at this
theorem ZZ(n:Nat)(h:0<n):∃c l,D n=c::l/\Ge c/\c≠48:=by
 induction n using Nat.strongRecOn with
 | _ n ih=>
  by_cases h10:n<10
  ·refine⟨dg n,[],Gc h10,nI h10,?_⟩;intro e;have:(dg n).toNat=48:=(by rw [e];rfl);rw [Xr h10]at this;omega
  ·obtain⟨c,l,e,hc,hn⟩:=ih (n/10) (by omega) (by omega);exact⟨c,l ++ [dg (n%10)],by rw [S4 h10,e];rfl,hc,hn⟩
theorem Abd(n:Nat)(h:0<n):10^((D n).length-1)<=n:=by
 obtain⟨c,l,e,hc,hn⟩:=ZZ n h;have h1:val (D n)=n:=MQ n;rw [e,VX]at h1;rw [e,List.length_cons,Nat.add_sub_cancel]
 have h2:1<=dv c:=by have:=hc.1;have:c.toNat≠48:=fun e=>hn (UInt8.toNat_inj.1 e);unfold dv;omega
 have:1*10^l.length<=dv c*10^l.length:=Nat.mul_le_mul_right _ h2;omega
structure Can(l:Bs):Prop where
 ne:l≠[]
 all:Da l
 head:∀m,l=48::m→m = []
theorem wB(n:Nat):Can (D n):=by
 refine⟨O7 n,FP n,fun m e=>?_⟩
 rcases Nat.eq_zero_or_pos n with rfl|h
 ·rw [Gc (by omega)]at e;simp at e;exact e.2
 ·obtain⟨c,l,e2,_,hn⟩:=ZZ n h;rw [e2]at e;simp at e;exact absurd e.1 hn
theorem II{n k:Nat}(hk:0<k)(h:n<10^k):(D n).length<=k:=by
 rcases Nat.eq_zero_or_pos n with rfl|h0
 ·rw [Gc (by omega)];simp;omega
 ·have h1:=Abd n h0;have h2:=We n;have:(D n).length-1<k:=(Nat.pow_lt_pow_iff_right (a:=10) (by omega)).1 (Nat.lt_of_le_of_lt h1 h);omega
theorem PO{n k:Nat}(h:(D n).length<=k):n<10^k:=
 Nat.lt_of_lt_of_le (Aac n) (Nat.pow_le_pow_right (by omega) h)
theorem rK{l:Bs}(h:Can l):D (val l)=l:=by
 suffices H:∀(k:Nat) (l:Bs),l.length=k→Can l→D (val l)=l from H _ l rfl h
 clear h l;intro k
 induction k with
 | zero=>intro l hl h;exact absurd (List.eq_nil_of_length_eq_zero hl) h.ne
 | succ k ih=>
  intro l hl h;obtain⟨m,c,rfl⟩:∃m c,l=m ++ [c]:=⟨l.dropLast,l.getLast h.ne,(List.dropLast_concat_getLast h.ne).symm⟩;have QV:=WY.1 h.all;have hc:Ge c:=QV.2 c (by simp);have hcl:=eI hc;rw [qT];by_cases hm:m = []
  ·subst hm;rw [Qa,Nat.zero_mul,Nat.zero_add,Gc hcl,xX hc];rfl
  ·have hcm:Can m:=⟨hm,QV.1,fun q e=>by
    have:=h.head (q ++ [c]) (by rw [e];rfl)
    simp at this⟩
   have hvm:0<val m:=by
    match m,hm,hcm with
    | d::q,_,hcm=>
     have hd:=(WZ.1 hcm.all).1
     have hne:d≠48:=fun e=>by have:=h.head (q ++ [c]) (by rw [e];rfl);simp at this
     have:c.toNat≠48∨True:=.inr trivial
     have h1:1<=dv d:=by have:=hd.1;have:d.toNat≠48:=fun e=>hne (UInt8.toNat_inj.1 e);unfold dv;omega
     rw [VX];have:1*1<=dv d*10^q.length:=Nat.mul_le_mul h1 (Nat.one_le_pow _ _ (by omega));omega
   have e1:(val m*10+dv c)/10=val m:=(by omega);have e2:(val m*10+dv c)%10=dv c:=(by omega);rw [S4 (by omega),e1,e2,ih m (by simpa using hl) hcm,xX hc]
/-! ### Padding -/
/-! ### Pieces, the least first -/
/-! ### Integers -/
theorem Gd(n:Nat):I (n:Int)=D n:=by unfold I Lib.itoa D;rw [if_neg (by omega)];simp
theorem bV(n:Nat)(h:0<n):I (-(n:Int))=45::D n:=by unfold I Lib.itoa D;rw [if_pos (by omega)];simp
theorem Ev(z:Int):(∃n:Nat,z=n/\I z=D n)∨(∃n:Nat,0<n/\z = -(n:Int)/\I z=45::D n):=by
 by_cases h:z<0
 ·exact .inr ⟨z.natAbs,by omega,by omega,by have:=bV z.natAbs (by omega);rwa [show -(z.natAbs:Int)=z by omega]at this⟩
 ·exact .inl ⟨z.toNat,by omega,by have:=Gd z.toNat;rwa [show (z.toNat:Int)=z by omega]at this⟩
theorem aA(n:Nat)(m:Bs):D n≠45::m:=by
 intro e;have:=FP n 45 (by rw [e];simp);exact absurd this (by decide +kernel)
theorem OI{a b:Int}(h:I a=I b):a=b:=by
 rcases Ev a with⟨n,rfl,e1⟩|⟨n,hn,rfl,e1⟩<;>rcases Ev b with⟨m,rfl,e2⟩|⟨m,hm,rfl,e2⟩
 ·rw [e1,e2]at h;rw [Wd h]
 ·rw [e1,e2]at h;exact absurd h (aA _ _)
 ·rw [e1,e2]at h;exact absurd h.symm (aA _ _)
 ·rw [e1,e2]at h;simp at h;rw [Wd h]
theorem bW(z:Int):(47:UInt8)∉I z:=by
 rcases Ev z with⟨n,_,e⟩|⟨n,_,_,e⟩<;>rw [e]
 ·intro h;exact absurd (FP n _ h) (by decide +kernel)
 ·intro h
  rcases List.mem_cons.1 h with h|h
  ·exact absurd h (by decide +kernel)
  ·exact absurd (FP n _ h) (by decide +kernel)
/-! ### Fractions -/
def R(q:Rat):Bs:=if q.den=1 then I q.num else I q.num++47::D q.den
theorem tV(z:Int):R (z:Rat)=I z:=by unfold R;rw [if_pos (by simp)];simp
end Kl
namespace Go.Proofs.YtnddllipjippnaaGreatDoor
open Go.RowKit Kl
def Ab(w w':World):Prop:=Below w.heap.size w w'
theorem Ab.refl(w:World):Ab w w:=Below.refl _ _
theorem Ab.trans{a b c:World}(h:Ab a b)(k:Ab b c):Ab a c:=Below.trans h (Below.mono k h.size)
theorem Ab.drew{a b:World}(h:Ab a b):Ab a b.drew:=Below.drew h
theorem Ab.drewN{a b:World}(h:Ab a b)(n:Nat):Ab a (b.drewN n):=⟨h.os,h.tape,h.output,h.size,h.block⟩
theorem Ab.alloc{a b:World}(h:Ab a b)(o:Obj):Ab a (b.alloc o):=Below.alloc h h.size o
theorem Ab.setCell{a b:World}(h:Ab a b){p:Addr}(hp:a.heap.size<=p.block)(u:Value):Ab a (b.setCell p u):=Below.setCell h hp u
theorem Ab.size{a b:World}(h:Ab a b):a.heap.size<=b.heap.size:=Below.size h
theorem Ab.cell{w w':World}(h:Ab w w'){p:Addr}(hp:p.block<w.heap.size):w'.cell? p=w.cell? p:=Below.cell h hp
theorem Ab.cellS{w w':World}(h:Ab w w'){p:Addr}{v:Value}(hp:w.cell? p=some v):w'.cell? p=some v:=
 (h.cell (World.block_lt_of_cell? w p hp)).trans hp
theorem Ab.frozen{w w':World}(h:Ab w w'){p:Addr}(hp:p.block<w.heap.size):w'.frozen? p=w.frozen? p:=Below.frozen h hp
theorem Ab.grown{a w w':World}{row:Option Nat}(h:Ab a w)(hg:w.grownBy w' row)(hr:∀k,row=some k→a.heap.size<=k):Ab a w':=
 Below.grown h hg h.size hr
theorem Ab.grownOwn{a w w':World}{B:Nat}{e:TypeId}{s n:Nat}{v:Value}{xs:List Value}(h:Ab a w)(hg:w.grownBy w' v.ownBlock)(ho:w.ownsRow B e s v n xs)(hB:a.heap.size<=B):Ab a w':=
 h.grown hg fun k hk=>Nat.le_trans hB (ho.lt k hk).1
def dL:Nat:=4000
def Big:Nat:=10^dL
abbrev S(l:Bs):Value:=.string ⟨l.toArray⟩
theorem An{w w':World}{base:Nat}{e:TypeId}{size:Nat}{v:Value}{n:Nat}{xs:List Value}(h:w.ownsRow base e size v n xs)(hx:Ab w w'):w'.ownsRow base e size v n xs:=
 h.kept (row:=none) ⟨hx.os,hx.tape,hx.output,hx.size,fun k hk _=>hx.block k hk⟩ (by cases v.ownBlock<;>simp)
theorem Xv(l:Bs)(i j:Nat):(⟨l.toArray⟩:ByteArray).extract i j=⟨((l.drop i).take (j-i)).toArray⟩:=by
 apply ByteArray.ext;rw [ByteArray.data_extract];simp
theorem Ahv(l:Bs)(k:Nat):(⟨l.toArray⟩:ByteArray).extract k l.length=⟨(l.drop k).toArray⟩:=by
 rw [Xv,List.take_of_length_le (by simp)]
theorem Aqg(l:Bs)(k:Nat):(⟨l.toArray⟩:ByteArray).extract 0 k=⟨(l.take k).toArray⟩:=by
 rw [Xv];simp
theorem Ie{a:ByteArray}{b:Bs}(h:a=⟨b.toArray⟩):Ending.returned (.string a)=.returned (S b):=by rw [h]
theorem Asw{α:Sort _}(a:α):∃x,x=a:=⟨a,rfl⟩
theorem Asx{p:Prop}(h:p):Hid p:=Lib.hid h
theorem Asy{w:World}{b:Nat}{o:Obj}(h:w.heap[b]?=some o):b<w.heap.size:=lt_of_block h
theorem Asz(w:World)(o:Obj):(w.alloc o).heap[w.heap.size]?=some o:=heap_alloc_new w o
theorem As0(n:Nat):n<=n:=Nat.le_refl n
theorem As1{α:Type _}{l:List α}{n:Nat}(h:n<l.length):l[n]∈l:=List.getElem_mem h
theorem As2(n:Nat):(n:Int).natAbs=n:=Int.natAbs_natCast n
theorem As3{α:Type _}{i:Nat}{l:List α}(h:i<l.length):List.take (i+1) l=List.take i l ++ [l[i]]:=List.take_succ_eq_append_getElem h
theorem As4{α:Type _}(a b:α):(some a=some b)=(a=b):=Option.some.injEq a b
theorem As5{α:Type _}{l:List α}{i:Nat}(h:i<l.length):l[i]?=some l[i]:=List.getElem?_eq_getElem h
theorem As6(n:Int)(h:-9223372036854775808<=n/\n<=9223372036854775807):IntKind.i64.wrap n=n:=IntWalk.i64_in n h
theorem As7(w:World)(o:Obj):(w.alloc o).heap.size=w.heap.size+1:=World.size_alloc w o
theorem As8{α:Type _}{i:Nat}{l:List α}(h:l.length<=i):List.take i l=l:=List.take_of_length_le h
theorem As9{n m k:Nat}(h:n<m)(g:m<=k):n<k:=Nat.lt_of_lt_of_le h g
theorem AsA{n m k:Nat}(h:n<=m)(g:m<=k):n<=k:=Nat.le_trans h g
theorem AsB{α:Type _}{a:α} : ¬a∈[]:=List.not_mem_nil
theorem AsC{α:Type _}{a b:α} : a∈[b]↔a=b:=List.mem_singleton
theorem AsD{α:Type _}{l:List α}{i:Nat}{a:α} : l[i]?=some a↔∃h,l[i]=a:=List.getElem?_eq_some_iff
theorem AsE{α:Type _}{i:Nat}{b:α}{xs:Array α} : xs[i]?=some b↔∃h,xs[i]=b:=Array.getElem?_eq_some_iff
/-! ### trim -/
theorem AmE{w:World}{base:Nat}{e:TypeId}{size:Nat}{v:Value}{n:Nat}{xs:List Value}(h:w.ownsRow base e size v n xs)(b:Nat)(hb:v.ownBlock=some b):base<=b:=by
 rcases h.2 with⟨rfl,_⟩|⟨g,cap,cur,rfl,hg,_⟩
 ·cases hb
 ·simp only [Value.ownBlock,As4]at hb;omega
end Go.Proofs.YtnddllipjippnaaGreatDoor
namespace Go.Proofs.YtnddllipjippnaaGreatDoor
/-! ### plus -/
end Go.Proofs.YtnddllipjippnaaGreatDoor
namespace Go.Proofs.YtnddllipjippnaaGreatDoor
open Go.RowKit Kl
def IX(x y:Nat):Int:=if x<y then -1 else if x=y then 0 else 1
theorem wV{x y:Nat}(h:x<y):IX x y = -1:=by unfold IX;rw [if_pos h]
theorem wU{x y:Nat}(h:y<x):IX x y=1:=by unfold IX;rw [if_neg (by omega),if_neg (by omega)]
theorem FZ{a b:Int}(h:b=a):Ending.returned (.int .i64 a)=.returned (.int .i64 b):=by rw [h]
def AI(n:Int)(w:World)(e:Ending)(w':World):Prop:=e=.returned (.int .i64 n)/\Ab w w'
theorem Aan{x y:Nat}(hx:x<1000000000)(hy:y<1000000000):x*y<=999999998000000001:=by
 have h1:x*y<=999999999*999999999:=Nat.mul_le_mul (by omega) (by omega);omega
structure Aj(w:World):Prop where
 shaped:w.ShapedOpen Tryz.prog
 pow:Lib.TabIs Tryz.prog w "internal/strconv.uint64pow10" .u64 Lib.pow10Tab
 syn:∃tp p,w.var? Tryz.prog "strconv.ErrSyntax" = some #[.iface tp p]
 rng:∃tp p,w.var? Tryz.prog "strconv.ErrRange" = some #[.iface tp p]
theorem qU{w w':World}{n:String}{cs:Array Value}(h:w.var? Tryz.prog n=some cs)(hx:Ab w w'):w'.var? Tryz.prog n=some cs:=by
 unfold World.var? at h ⊢
 cases hg:Tryz.prog.globalNamed n with
 | none=>rw [hg]at h;exact h
 | some g=>
  rw [hg]at h;simp only [Option.bind_some]at h ⊢
  have hlt:g<w.heap.size:=by
   by_cases hlt:g<w.heap.size
   ·exact hlt
   ·rw [Array.getElem?_eq_none (by omega)]at h;cases h
  rw [hx.block g hlt];exact h
theorem Aj.ext{w w':World}(h:Aj w)(hx:Ab w w'):Aj w':=by
 obtain⟨a,b,h1⟩:=h.syn;obtain⟨c,d,h2⟩:=h.rng;exact⟨h.shaped.keptBut (Below.frame hx fun _=>False) (fun _ h=>h.elim),qU h.pow hx,⟨a,b,qU h1 hx⟩,⟨c,d,qU h2 hx⟩⟩
def BW(l:Bs)(w:World)(e:Ending)(w':World):Prop:=e=.returned (S l)/\Ab w w'
def BP(b:Bool)(w:World)(e:Ending)(w':World):Prop:=e=.returned (.bool b)/\Ab w w'
def BA(v:Value)(w:World)(e:Ending)(w':World):Prop:=e=.returned v/\Ab w w'
theorem ext_eq{w w':World}(h:w'=w):Ab w w':=h▸Ab.refl w
theorem gh(s p:Bs)(w:World):Calls Tryz.prog 252 #[S s,S p] w (BP (p.isPrefixOf s) w):=
 (Tryz.strings_HasPrefix _ _ w).mono fun _ _ ⟨h1,h2⟩=>⟨h1,ext_eq h2⟩
theorem qO(s p:Bs)(w:World):Calls Tryz.prog 203 #[S s,S p] w (BW (Lib.trimPrefix s p) w):=
 (Tryz.strings_TrimPrefix _ _ w).mono fun _ _ ⟨h1,h2⟩=>⟨h1,ext_eq h2⟩
theorem Xp(s p:Bs)(w:World):Calls Tryz.prog 201 #[S s,S p] w (BA (.tuple #[S (Lib.trimPrefix s p),.bool (p.isPrefixOf s)]) w):=
 (Tryz.strings_CutPrefix _ _ w).mono fun _ _ ⟨h1,h2⟩=>⟨h1,ext_eq h2⟩
theorem Agx(s p:Bs)(w:World):Calls Tryz.prog 204 #[S s,S p] w (AI (Lib.compareBytes s p) w):=
 (Tryz.strings_Compare _ _ w).mono fun _ _ ⟨h1,h2⟩=>⟨h1,ext_eq h2⟩
theorem AbY(l:Bs):(⟨l.toArray⟩:ByteArray).size=l.length:=by simp [ByteArray.size]
theorem cut_c(s p:Bs)(w:World)(hw:Aj w)(hs:s.length<4294967281) :
  Calls Tryz.prog 163 #[S s,S p] w (BA (.tuple #[S (Lib.cut s p).1,S (Lib.cut s p).2.1,.bool (Lib.cut s p).2.2]) w):=
 (Tryz.strings_Cut_shaped _ _ w hw.shaped (by rw [AbY];exact hs)).mono fun _ _ ⟨h1,n,h2⟩=>⟨h1,h2▸(Ab.refl w).drewN n⟩
theorem Ahu(w:World)(k:Nat)(os:Array Obj):Ab w (Go.Sort.grow (w.drewN k) os):=
 ⟨rfl,rfl,rfl,by simp [Go.Sort.grow],fun i hi=>by simp only [Go.Sort.grow,World.heap_drewN];rw [Array.getElem?_append_left hi]⟩
theorem RJ(n:Int)(h0:-9223372036854775808<=n)(h1:n<=9223372036854775807)(w:World)(hw:Aj w):Calls Tryz.prog 161 #[.int .i64 n] w (BW (I n) w):=
 (Tryz.strconv_Itoa n h0 h1 w hw.pow).mono fun _ _ ⟨h1,k,os,h2⟩=>⟨h1,h2▸Ahu w k os⟩
theorem Aht(w:World)(t:ByteArray):Ab w (Lib.bytesWorld w 5 t):=Go.Joins.below_bytesWorld _ w 5 t (As0 _)
end Go.Proofs.YtnddllipjippnaaGreatDoor
namespace Go.Proofs.YtnddllipjippnaaGreatDoor
end Go.Proofs.YtnddllipjippnaaGreatDoor
namespace Go.Proofs.YtnddllipjippnaaGreatDoor
open Go.RowKit Kl Go.Lib Go.Sort
/-! ### Parsing -/
theorem Apv(a:Nat)(r:Bs):a<=Eh a r:=by
 rw [Ac9];have:a*1<=a*10^r.length:=Nat.mul_le_mul_left _ (Nat.one_le_pow _ _ (by omega));omega
theorem AaS(m:Nat)(hm:m<18446744073709551616):∀(l:Bs) (acc:Nat),Da l→Lib.parseUintM m acc l=if l = []∨Eh acc l<=m then .ok (Eh acc l)else .range
 | [],acc,_=>by simp [Lib.parseUintM,Eh]
 | c::r,acc,h=>by
  rw [WZ]at h;have hc:48<=c.toNat/\c.toNat<=57:=h.1;have hd:=eI h.1;rw [qS];have h1:=Apv (acc*10+dv c) r;have ih:=AaS m hm r (acc*10+dv c) h.2;have e:c.toNat-48=dv c:=rfl;rw [Lib.parseUintM,if_pos hc,e];by_cases h2:1844674407370955162<=acc
  ·rw [if_pos h2,if_neg (by simp;omega)]
  ·rw [if_neg h2];by_cases h3:m<acc*10+dv c
   ·rw [if_pos h3,if_neg (by simp;omega)]
   ·rw [if_neg h3,ih];by_cases h4:Eh (acc*10+dv c) r<=m
    ·rw [if_pos (.inr h4),if_pos (.inr h4)]
    ·rw [if_neg (by simp;exact⟨fun e=>h4 (by rw [e];simpa [Eh]using h3),by omega⟩),if_neg (by simp;omega)]
theorem AaR:∀(l:Bs) (acc:Nat),Lib.parseUint10 acc l=Lib.parseUintM 18446744073709551615 acc l
 | [],acc=>rfl
 | c::r,acc=>by
  rw [Lib.parseUint10,Lib.parseUintM,AaR r];by_cases h:48<=c.toNat/\c.toNat<=57
  ·rw [if_pos h,if_pos h];by_cases h2:1844674407370955162<=acc
   ·rw [if_pos h2,if_pos h2]
   ·rw [if_neg h2,if_neg h2];by_cases h3:18446744073709551616<=acc*10+(c.toNat-48)
    ·rw [if_pos h3,if_pos (by omega)]
    ·rw [if_neg h3,if_neg (by omega)]
  ·rw [if_neg h,if_neg h]
theorem AcS(n:Nat):∃c r,D n=c::r/\¬(c.toNat=43∨c.toNat=45)/\c.toNat≠45:=by
 match hd:D n,O7 n with
 | c::r,_=>have:=FP n c (by rw [hd];simp);have h1:=this.1;exact⟨c,r,rfl,by omega,by omega⟩
theorem AaT(n:Nat):Lib.parseMag (D n)=if n<18446744073709551616 then .ok n else .range:=by
 unfold Lib.parseMag;rw [if_neg (O7 n),AaR,AaS _ (by omega) _ 0 (FP n)];have e:Eh 0 (D n)=n:=MQ n;rw [e];by_cases h:n<18446744073709551616
 ·rw [if_pos h,if_pos (.inr (by omega))]
 ·rw [if_neg h,if_neg (by simp;exact⟨O7 n,by omega⟩)]
theorem Af3(z:Int):Lib.atoiAll (I z)=if -9223372036854775808<=z/\z<=9223372036854775807 then .ok z else .range:=by
 rcases Ev z with⟨n,rfl,e⟩|⟨n,hn,rfl,e⟩
 ·obtain⟨c,r,hd,h1,h2⟩:=AcS n;have hp:=AaT n;rw [e];rw [hd]at hp ⊢;unfold Lib.atoiAll;simp only [if_neg h1,hp];by_cases h:n<18446744073709551616
  ·rw [if_pos h];simp only [h2,not_false_eq_true,true_and,false_and,if_false];by_cases h3:9223372036854775808<=n
   ·rw [if_pos h3,if_neg (by omega)]
   ·rw [if_neg h3,if_pos (by omega)]
  ·rw [if_neg h];rw [if_neg (by omega)]
 ·have hp:=AaT n;rw [e];unfold Lib.atoiAll;have h45:(45:UInt8).toNat=45:=rfl;simp only [h45,or_true,if_true,hp];by_cases h:n<18446744073709551616
  ·rw [if_pos h];simp only [not_true_eq_false,true_and,false_and,if_false];by_cases h3:9223372036854775808<n
   ·rw [if_pos h3,if_neg (by omega)]
   ·rw [if_neg h3,if_pos (by omega)]
  ·rw [if_neg h];rw [if_neg (by omega)]
theorem OJ{z:Int}{k:Nat}(hk:0<k)(h:z.natAbs<10^k):(I z).length<=k+1:=by
 rcases Ev z with⟨n,rfl,e⟩|⟨n,hn,rfl,e⟩
 ·rw [e];have:=II hk (n:=n) (by simpa using h);omega
 ·rw [e,List.length_cons];have:=II hk (n:=n) (by simpa using h);omega
theorem Ahs{w w':World}(h:w'=w∨∃t,w'=Lib.bytesWorld w 5 t):Ab w w':=by
 rcases h with rfl|⟨t,rfl⟩
 ·exact Ab.refl _
 ·exact Aht w _
theorem dI(z:Int)(h0:-9223372036854775808<=z)(h1:z<=9223372036854775807)(w:World) :
  Calls Tryz.prog 191 #[S (I z)] w (BA (.tuple #[.int .i64 z,.nilIface]) w):=
 (Tryz.strconv_Atoi_ok _ (by have:=OJ (z:=z) (k:=20) (by omega) (by omega);rw [AbY];omega) z (by show Lib.atoiAll (I z)=_;rw [Af3,if_pos ⟨h0,h1⟩]) w).mono fun _ _ ⟨h1,h2⟩=>⟨h1,Ahs h2⟩
end Go.Proofs.YtnddllipjippnaaGreatDoor
namespace Go.Proofs.YtnddllipjippnaaGreatDoor
open Go.RowKit Kl
theorem xw(n:Nat):[45].isPrefixOf (D n)=false:=by
 match hd:D n,O7 n with
 | c::r,_=>have:=(FP n c (by rw [hd];simp)).1;simp only [List.isPrefixOf,Bool.and_true];rw [beq_eq_false_iff_ne];rintro rfl;exact absurd this (by decide)
theorem xy(l:Bs):[45].isPrefixOf (45::l)=true:=by simp [List.isPrefixOf]
theorem Apn(n:Nat):Lib.trimPrefix (D n) [45]=D n:=by unfold Lib.trimPrefix Lib.hasPrefix;rw [xw];rfl
theorem Apo(l:Bs):Lib.trimPrefix (45::l) [45]=l:=by unfold Lib.trimPrefix Lib.hasPrefix;rw [xy];rfl
theorem Ac1(z:Int):Lib.trimPrefix (I z) [45]=D z.natAbs:=by
 rcases Ev z with⟨n,rfl,e⟩|⟨n,_,rfl,e⟩
 ·rw [e,Apn];simp
 ·rw [e,Apo];simp
theorem AkL(z:Int):[45].isPrefixOf (I z)=decide (z<0):=by
 rcases Ev z with⟨n,rfl,e⟩|⟨n,_,rfl,e⟩
 ·rw [e,xw];symm;rw [decide_eq_false_iff_not];omega
 ·rw [e,xy];symm;rw [decide_eq_true_eq];omega
theorem WJ:I 0 = [48]:=by rw [show (0:Int)=((0:Nat):Int)from rfl,Gd,Gc (by omega)];rfl
theorem Aez{z:Int} : I z = [48]↔z=0:=by
 constructor
 ·intro h;exact OI (by rw [h,WJ])
 ·rintro rfl;exact WJ
theorem Tf:I 1 = [49]:=by rw [show (1:Int)=((1:Nat):Int)from rfl,Gd,Gc (by omega)];rfl
theorem Aey{z:Int} : I z = [49]↔z=1:=by
 constructor
 ·intro h;exact OI (by rw [h,Tf])
 ·rintro rfl;exact Tf
theorem tP{z:Int}(h:z≠0):(I z == [48])=false:=by rw [beq_eq_false_iff_ne];exact fun e=>h (Aez.1 e)
theorem Ae0{z:Int}(h:z≠1):(I z == [49])=false:=by rw [beq_eq_false_iff_ne];exact fun e=>h (Aey.1 e)
def BV(z:Int):Prop:=z.natAbs<Big
theorem BV.len{z:Int}(h:BV z):(I z).length<=4001:=OJ (k:=dL) (by decide) h
def Ga(z:Int):Int:=if z=0 then 0 else if z<0 then -1 else 1
theorem Aox{z:Int}(h:z=0):Ga z=0:=by unfold Ga;rw [if_pos h]
theorem AbQ{z:Int}(h:z<0):Ga z = -1:=by unfold Ga;rw [if_neg (by omega),if_pos h]
theorem AbR{z:Int}(h:0<z):Ga z=1:=by unfold Ga;rw [if_neg (by omega),if_neg (by omega)]
theorem Vs(z:Int)(w:World):Calls Tryz.prog 202 #[S (I z)] w (AI (Ga z) w):=by
 by_cases h0:z=0
 ·subst h0;rw [WJ];go_enter Tryz.func202,Tryz.ntmps202;go_wp2;go_ret;exact⟨rfl,Ab.refl _⟩
 ·have h1:=tP h0;have hp:=AkL z;by_cases hn:z<0
  ·rw [decide_eq_true hn]at hp;go_enter Tryz.func202,Tryz.ntmps202
   go_wp2_with (go_at_call 252;refine(gh (I z) [45] _).mono ?_;rintro e w1 ⟨rfl,hx1⟩)
   go_ret;exact⟨FZ (AbQ hn),hx1⟩
  ·rw [decide_eq_false hn]at hp;go_enter Tryz.func202,Tryz.ntmps202
   go_wp2_with (go_at_call 252;refine(gh (I z) [45] _).mono ?_;rintro e w1 ⟨rfl,hx1⟩)
   go_ret;exact⟨FZ (AbR (by omega)),hx1⟩
theorem Ae1{z:Int} : (z=0→I (-z)=I z)/\(0<z→I (-z)=45::I z)/\(z<0→I z=45::I (-z)):=by
 refine⟨fun h=>by rw [h];rfl,fun h=>?_,fun h=>?_⟩
 ·rcases Ev z with⟨n,rfl,e⟩|⟨n,hn,rfl,e⟩
  ·rw [e,bV n (by omega)]
  ·omega
 ·rcases Ev z with⟨n,rfl,e⟩|⟨n,hn,rfl,e⟩
  ·omega
  ·rw [e,Int.neg_neg,Gd]
theorem ww(z:Int)(hb:BV z)(w:World):Calls Tryz.prog 220 #[S (I z)] w (BW (I (-z)) w):=by
 obtain⟨e0,e1,e2⟩:=Ae1 (z:=z)
 rcases Int.lt_trichotomy z 0 with h|h|h
 ·rw [e2 h];have hs:=Vs z;rw [AbQ h,e2 h]at hs;clear e0 e1 e2;go_enter Tryz.func220,Tryz.ntmps220
  go_wp2_with (go_at_call 202;((with_reducible refine(hs _).mono ?_);rintro e w1 ⟨rfl,hx1⟩))
  go_ret;exact⟨Ie (by rw [Xv];simp),hx1⟩
 ·subst h;have hs:=Vs 0;rw [Aox rfl]at hs;clear e0 e1 e2;go_enter Tryz.func220,Tryz.ntmps220
  go_wp2_with (go_at_call 202;((with_reducible refine(hs _).mono ?_);rintro e w1 ⟨rfl,hx1⟩))
  go_ret;exact⟨rfl,hx1⟩
 ·rw [e1 h];have hs:=Vs z;rw [AbR h]at hs;have P0:=hb.len;clear e0 e1 e2;go_enter Tryz.func220,Tryz.ntmps220
  go_wp2_with (go_at_call 202;((with_reducible refine(hs _).mono ?_);rintro e w1 ⟨rfl,hx1⟩))
  go_ret;exact⟨Ie (by apply ByteArray.ext;simp),hx1⟩
theorem xf(z:Int)(h0:-9223372036854775808<=z)(h1:z<=9223372036854775807)(w:World)(hw:Aj w):Calls Tryz.prog 206 #[.int .i64 z] w (BW (I z) w):=by
 have hi:=RJ z h0 h1 w hw;clear h0 h1;go_enter Tryz.func206,Tryz.ntmps206
 go_wp2_with (go_at_call 161;((with_reducible refine hi.mono ?_);rintro e w1 ⟨rfl,hx1⟩))
 go_ret;exact⟨rfl,hx1⟩
def VL(z:Int)(k:Nat):Value:=if (I z).length<=k then .tuple #[.int .i64 z,.bool true] else .tuple #[.int .i64 0,.bool false]
theorem Ant(z:Int)(k:Nat)(hk:k<=18)(w:World):Calls Tryz.prog 205 #[S (I z),.int .i64 (k:Nat)] w (BA (VL z k) w):=by
 by_cases h:(I z).length<=k
 ·have hz:z.natAbs<10^18:=by
   rcases Ev z with⟨n,rfl,e⟩|⟨n,hn,rfl,e⟩
   ·rw [e]at h;simpa using PO (n:=n) (k:=18) (by omega)
   ·rw [e,List.length_cons]at h;simpa using PO (n:=n) (k:=18) (by omega)
  have ha:=dI z (by omega) (by omega) w;have hq:VL z k=.tuple #[.int .i64 z,.bool true]:=if_pos h;rw [hq];clear hz hq;go_enter Tryz.func205,Tryz.ntmps205
  go_wp2_with (go_at_call 191;((with_reducible refine ha.mono ?_);rintro e w1 ⟨rfl,hx1⟩))
  go_quiet (fail)
  go_wp2;go_ret2;exact⟨rfl,hx1.drewN _⟩
 ·have hq:VL z k=.tuple #[.int .i64 0,.bool false]:=if_neg h;rw [hq];have h':k<(I z).length:=(by omega);clear hq h;go_enter Tryz.func205,Tryz.ntmps205;go_wp2;go_ret2;exact⟨rfl,Ab.refl _⟩
end Go.Proofs.YtnddllipjippnaaGreatDoor
