/- K02: Num Mag Kit Int1 Int2 Int3 Int4 Int5 Lib Bld Fmt Int6. -/
import Derived.Test.YtgnejnampofhoaaGreatDoorK01
import Derived.Lib.SmallJoins
import Derived.Lib.AppendIntMem
set_option maxHeartbeats 400000
namespace Kl
open Go
abbrev Bs:=List UInt8
def D(n:Nat):Bs:=Lib.decDigits n
def I(z:Int):Bs:=Lib.itoa z
def dv(c:UInt8):Nat:=c.toNat-48
def D2(a:Nat)(l:Bs):Nat:=l.foldl (fun a c=>a*10+dv c) a
def val(l:Bs):Nat:=D2 0 l
def ES(c:UInt8):Prop:=48<=c.toNat/\c.toNat<=57
instance (c:UInt8):Decidable (ES c):=by unfold ES;infer_instance
def C4(l:Bs):Prop:=∀c∈l,ES c
def dg(n:Nat):UInt8:=UInt8.ofNat (48+n)
theorem T9{n:Nat}(h:n<10):(dg n).toNat=48+n:=by
 unfold dg;rw [UInt8.toNat_ofNat'];omega
theorem lH{n:Nat}(h:n<10):dv (dg n)=n:=by unfold dv;rw [T9 h];omega
theorem aD{n:Nat}(h:n<10):ES (dg n):=by unfold ES;rw [T9 h];omega
theorem kZ{c:UInt8}(h:ES c):dg (dv c)=c:=by
 have h1:=h.1;have h2:=h.2;apply UInt8.toNat_inj.1;rw [T9 (by unfold dv;omega)];unfold dv;omega
theorem Xr{c:UInt8}(h:ES c):dv c<10:=by have:=h.2;unfold dv;omega
theorem dP(a:Nat)(c:UInt8)(l:Bs):D2 a (c::l)=D2 (a*10+dv c) l:=by unfold D2;rw [List.foldl_cons]
theorem AgW(a:Nat)(l m:Bs):D2 a (l++m)=D2 (D2 a l) m:=by simp [D2,List.foldl_append]
theorem b9(l:Bs):∀a,D2 a l=a*10^l.length+D2 0 l:=by
 induction l with
 | nil=>intro a;simp [D2]
 | cons c l ih=>intro a;have h1:=ih (a*10+dv c);have h2:=ih (0*10+dv c);rw [dP,dP,h1,h2,List.length_cons,Nat.pow_succ];generalize 10^l.length=p;generalize dv c=d;generalize D2 0 l=v;rw [Nat.add_mul,Nat.mul_assoc,Nat.mul_comm 10 p,Nat.zero_mul,Nat.zero_add,Nat.add_assoc]
theorem NH:val []=0:=rfl
theorem val_append(l m:Bs):val (l++m)=val l*10^m.length+val m:=by
 rw [val,AgW,b9];rfl
theorem dQ(l:Bs)(c:UInt8):val (l ++ [c])=val l*10+dv c:=by
 rw [val_append];simp [val,D2]
theorem cz(c:UInt8):val [c]=dv c:=by simp [val,D2]
theorem Sw(c:UInt8)(l:Bs):val (c::l)=dv c*10^l.length+val l:=by
 rw [show c::l = [c]++l from rfl,val_append,cz]
theorem Tp{l m:Bs} : C4 (l++m)↔C4 l/\C4 m:=by
 simp only [C4,List.mem_append];constructor
 ·intro h;exact⟨fun c hc=>h c (.inl hc),fun c hc=>h c (.inr hc)⟩
 ·rintro⟨a,b⟩ c (hc|hc)
  ·exact a c hc
  ·exact b c hc
theorem Tq{c:UInt8}{l:Bs} : C4 (c::l)↔ES c/\C4 l:=by simp [C4]
theorem iC:C4 []:=by simp [C4]
theorem nt{l:Bs}(h:C4 l)(k:Nat):C4 (l.take k):=fun c hc=>h c (List.mem_of_mem_take hc)
theorem M9{l:Bs}(h:C4 l):val l<10^l.length:=by
 induction l with
 | nil=>simp [val,D2]
 | cons c l ih=>rw [Tq]at h;have h1:=ih h.2;have h2:=Xr h.1;rw [Sw,List.length_cons,Nat.pow_succ];have:dv c*10^l.length<=9*10^l.length:=Nat.mul_le_mul_right _ (by omega);omega
theorem Fz{n:Nat}(h:n<10):D n = [dg n]:=by unfold D;rw [Lib.decDigits,dif_pos h];rfl
theorem PE{n:Nat}(h:¬n<10):D n=D (n/10) ++ [dg (n%10)]:=by
 unfold D;rw [Lib.decDigits,dif_neg h];rfl
theorem MB(n:Nat):D n≠[]:=by
 by_cases h:n<10
 ·rw [Fz h];simp
 ·rw [PE h];simp
theorem Le(n:Nat):val (D n)=n:=by
 induction n using Nat.strongRecOn with
 | _ n ih=>
  by_cases h:n<10
  ·rw [Fz h,cz,lH h]
  ·rw [PE h,dQ,ih _ (by omega),lH (by omega)];omega
theorem E0(n:Nat):C4 (D n):=by
 induction n using Nat.strongRecOn with
 | _ n ih=>
  by_cases h:n<10
  ·rw [Fz h];intro c hc;simp at hc;subst hc;exact aD h
  ·rw [PE h,Tp];refine⟨ih _ (by omega),?_⟩;intro c hc;simp at hc;subst hc;exact aD (by omega)
theorem S7{a b:Nat}(h:D a=D b):a=b:=by rw [←Le a,←Le b,h]
theorem S8(n:Nat):0<(D n).length:=List.length_pos_iff.2 (MB n)
theorem vG(n:Nat):n<10^(D n).length:=by
 have:=M9 (E0 n);rwa [Le]at this
theorem VG(n:Nat)(h:0<n):∃c l,D n=c::l/\ES c/\c≠48:=by
 induction n using Nat.strongRecOn with
 | _ n ih=>
  by_cases h10:n<10
  ·refine⟨dg n,[],Fz h10,aD h10,?_⟩;intro e;have:(dg n).toNat=48:=(by rw [e];rfl);rw [T9 h10]at this;omega
  ·obtain⟨c,l,e,hc,hn⟩:=ih (n/10) (by omega) (by omega);exact⟨c,l ++ [dg (n%10)],by rw [PE h10,e];rfl,hc,hn⟩
theorem xQ(n:Nat)(h:0<n):10^((D n).length-1)<=n:=by
 obtain⟨c,l,e,hc,hn⟩:=VG n h;have h1:val (D n)=n:=Le n;rw [e,Sw]at h1;rw [e,List.length_cons,Nat.add_sub_cancel]
 have h2:1<=dv c:=by have:=hc.1;have:c.toNat≠48:=fun e=>hn (UInt8.toNat_inj.1 e);unfold dv;omega
 have:1*10^l.length<=dv c*10^l.length:=Nat.mul_le_mul_right _ h2;omega
structure Can(l:Bs):Prop where
 ne:l≠[]
 all:C4 l
 head:∀m,l=48::m→m = []
theorem jM(n:Nat):Can (D n):=by
 refine⟨MB n,E0 n,fun m e=>?_⟩
 rcases Nat.eq_zero_or_pos n with rfl|h
 ·rw [Fz (by omega)]at e;simp at e;exact e.2
 ·obtain⟨c,l,e2,_,hn⟩:=VG n h;rw [e2]at e;simp at e;exact absurd e.1 hn
theorem Hf{n k:Nat}(hk:0<k)(h:n<10^k):(D n).length<=k:=by
 rcases Nat.eq_zero_or_pos n with rfl|h0
 ·rw [Fz (by omega)];simp;omega
 ·have h1:=xQ n h0;have h2:=S8 n;have:(D n).length-1<k:=(Nat.pow_lt_pow_iff_right (a:=10) (by omega)).1 (Nat.lt_of_le_of_lt h1 h);omega
theorem NA{n k:Nat}(h:(D n).length<=k):n<10^k:=
 Nat.lt_of_lt_of_le (vG n) (Nat.pow_le_pow_right (by omega) h)
theorem eD{l:Bs}(h:Can l):D (val l)=l:=by
 suffices H:∀(k:Nat) (l:Bs),l.length=k→Can l→D (val l)=l from H _ l rfl h
 clear h l;intro k
 induction k with
 | zero=>intro l hl h;exact absurd (List.eq_nil_of_length_eq_zero hl) h.ne
 | succ k ih=>
  intro l hl h;obtain⟨m,c,rfl⟩:∃m c,l=m ++ [c]:=⟨l.dropLast,l.getLast h.ne,(List.dropLast_concat_getLast h.ne).symm⟩;have O6:=Tp.1 h.all;have hc:ES c:=O6.2 c (by simp);have hcl:=Xr hc;rw [dQ];by_cases hm:m = []
  ·subst hm;rw [NH,Nat.zero_mul,Nat.zero_add,Fz hcl,kZ hc];rfl
  ·have hcm:Can m:=⟨hm,O6.1,fun q e=>by
    have:=h.head (q ++ [c]) (by rw [e];rfl)
    simp at this⟩
   have hvm:0<val m:=by
    match m,hm,hcm with
    | d::q,_,hcm=>
     have hd:=(Tq.1 hcm.all).1
     have hne:d≠48:=fun e=>by have:=h.head (q ++ [c]) (by rw [e];rfl);simp at this
     have:c.toNat≠48∨True:=.inr trivial
     have h1:1<=dv d:=by have:=hd.1;have:d.toNat≠48:=fun e=>hne (UInt8.toNat_inj.1 e);unfold dv;omega
     rw [Sw];have:1*1<=dv d*10^q.length:=Nat.mul_le_mul h1 (Nat.one_le_pow _ _ (by omega));omega
   have e1:(val m*10+dv c)/10=val m:=(by omega);have e2:(val m*10+dv c)%10=dv c:=(by omega);rw [PE (by omega),e1,e2,ih m (by simpa using hl) hcm,kZ hc]
/-! ### Padding -/
/-! ### Pieces, the least first -/
/-! ### Integers -/
theorem ER(n:Nat):I (n:Int)=D n:=by unfold I Lib.itoa D;rw [if_neg (by omega)];simp
theorem Wt(n:Nat)(h:0<n):I (-(n:Int))=45::D n:=by unfold I Lib.itoa D;rw [if_pos (by omega)];simp
theorem DD(z:Int):(∃n:Nat,z=n/\I z=D n)∨(∃n:Nat,0<n/\z = -(n:Int)/\I z=45::D n):=by
 by_cases h:z<0
 ·exact .inr ⟨z.natAbs,by omega,by omega,by have:=Wt z.natAbs (by omega);rwa [show -(z.natAbs:Int)=z by omega]at this⟩
 ·exact .inl ⟨z.toNat,by omega,by have:=ER z.toNat;rwa [show (z.toNat:Int)=z by omega]at this⟩
theorem VH(n:Nat)(m:Bs):D n≠45::m:=by
 intro e;have:=E0 n 45 (by rw [e];simp);exact absurd this (by decide +kernel)
theorem NW{a b:Int}(h:I a=I b):a=b:=by
 rcases DD a with⟨n,rfl,e1⟩|⟨n,hn,rfl,e1⟩<;>rcases DD b with⟨m,rfl,e2⟩|⟨m,hm,rfl,e2⟩
 ·rw [e1,e2]at h;rw [S7 h]
 ·rw [e1,e2]at h;exact absurd h (VH _ _)
 ·rw [e1,e2]at h;exact absurd h.symm (VH _ _)
 ·rw [e1,e2]at h;simp at h;rw [S7 h]
theorem Wu(z:Int):(47:UInt8)∉I z:=by
 rcases DD z with⟨n,_,e⟩|⟨n,_,_,e⟩<;>rw [e]
 ·intro h;exact absurd (E0 n _ h) (by decide +kernel)
 ·intro h
  rcases List.mem_cons.1 h with h|h
  ·exact absurd h (by decide +kernel)
  ·exact absurd (E0 n _ h) (by decide +kernel)
/-! ### Fractions -/
def R(q:Rat):Bs:=if q.den=1 then I q.num else I q.num++47::D q.den
theorem l9(z:Int):R (z:Rat)=I z:=by unfold R;rw [if_pos (by simp)];simp
end Kl
namespace Go.Proofs.YtgnejnampofhoaaGreatDoor
open Go.RowKit Kl
def Ac(w w':World):Prop:=Below w.heap.size w w'
theorem Ac.refl(w:World):Ac w w:=Below.refl _ _
theorem Ac.trans{a b c:World}(h:Ac a b)(k:Ac b c):Ac a c:=Below.trans h (Below.mono k h.size)
theorem Ac.drew{a b:World}(h:Ac a b):Ac a b.drew:=Below.drew h
theorem Ac.drewN{a b:World}(h:Ac a b)(n:Nat):Ac a (b.drewN n):=⟨h.os,h.tape,h.output,h.size,h.block⟩
theorem Ac.alloc{a b:World}(h:Ac a b)(o:Obj):Ac a (b.alloc o):=Below.alloc h h.size o
theorem Ac.setCell{a b:World}(h:Ac a b){p:Addr}(hp:a.heap.size<=p.block)(u:Value):Ac a (b.setCell p u):=Below.setCell h hp u
theorem Ac.size{a b:World}(h:Ac a b):a.heap.size<=b.heap.size:=Below.size h
theorem Ac.cell{w w':World}(h:Ac w w'){p:Addr}(hp:p.block<w.heap.size):w'.cell? p=w.cell? p:=Below.cell h hp
theorem Ac.cellS{w w':World}(h:Ac w w'){p:Addr}{v:Value}(hp:w.cell? p=some v):w'.cell? p=some v:=
 (h.cell (World.block_lt_of_cell? w p hp)).trans hp
theorem Ac.frozen{w w':World}(h:Ac w w'){p:Addr}(hp:p.block<w.heap.size):w'.frozen? p=w.frozen? p:=Below.frozen h hp
theorem Ac.grown{a w w':World}{row:Option Nat}(h:Ac a w)(hg:w.grownBy w' row)(hr:∀k,row=some k→a.heap.size<=k):Ac a w':=
 Below.grown h hg h.size hr
theorem Ac.grownOwn{a w w':World}{B:Nat}{e:TypeId}{s n:Nat}{v:Value}{xs:List Value}(h:Ac a w)(hg:w.grownBy w' v.ownBlock)(ho:w.ownsRow B e s v n xs)(hB:a.heap.size<=B):Ac a w':=
 h.grown hg fun k hk=>Nat.le_trans hB (ho.lt k hk).1
def WV:Nat:=4000
def Big:Nat:=10^WV
abbrev S(l:Bs):Value:=.string ⟨l.toArray⟩
theorem A9{w w':World}{base:Nat}{e:TypeId}{size:Nat}{v:Value}{n:Nat}{xs:List Value}(h:w.ownsRow base e size v n xs)(hx:Ac w w'):w'.ownsRow base e size v n xs:=
 h.kept (row:=none) ⟨hx.os,hx.tape,hx.output,hx.size,fun k hk _=>hx.block k hk⟩ (by cases v.ownBlock<;>simp)
theorem TC(l:Bs)(i j:Nat):(⟨l.toArray⟩:ByteArray).extract i j=⟨((l.drop i).take (j-i)).toArray⟩:=by
 apply ByteArray.ext;rw [ByteArray.data_extract];simp
theorem ze(l:Bs)(k:Nat):(⟨l.toArray⟩:ByteArray).extract k l.length=⟨(l.drop k).toArray⟩:=by
 rw [TC,List.take_of_length_le (by simp)]
theorem AhF(l:Bs)(k:Nat):(⟨l.toArray⟩:ByteArray).extract 0 k=⟨(l.take k).toArray⟩:=by
 rw [TC];simp
theorem J6{a:ByteArray}{b:Bs}(h:a=⟨b.toArray⟩):Ending.returned (.string a)=.returned (S b):=by rw [h]
theorem Ajv{α:Sort _}(a:α):∃x,x=a:=⟨a,rfl⟩
theorem Ajw{p:Prop}(h:p):Hid p:=Lib.hid h
theorem Ajx{w:World}{b:Nat}{o:Obj}(h:w.heap[b]?=some o):b<w.heap.size:=lt_of_block h
theorem Ajy(w:World)(o:Obj):(w.alloc o).heap[w.heap.size]?=some o:=heap_alloc_new w o
theorem Ajz(n:Nat):n<=n:=Nat.le_refl n
theorem Aj0{α:Type _}{l:List α}{n:Nat}(h:n<l.length):l[n]∈l:=List.getElem_mem h
theorem Aj1(n:Nat):(n:Int).natAbs=n:=Int.natAbs_natCast n
theorem Aj2{α:Type _}{i:Nat}{l:List α}(h:i<l.length):List.take (i+1) l=List.take i l ++ [l[i]]:=List.take_succ_eq_append_getElem h
theorem Aj3{α:Type _}(a b:α):(some a=some b)=(a=b):=Option.some.injEq a b
theorem Aj4{α:Type _}{l:List α}{i:Nat}(h:i<l.length):l[i]?=some l[i]:=List.getElem?_eq_getElem h
theorem Aj5(n:Int)(h:-9223372036854775808<=n/\n<=9223372036854775807):IntKind.i64.wrap n=n:=IntWalk.i64_in n h
theorem Aj6(w:World)(o:Obj):(w.alloc o).heap.size=w.heap.size+1:=World.size_alloc w o
theorem Aj7{α:Type _}{i:Nat}{l:List α}(h:l.length<=i):List.take i l=l:=List.take_of_length_le h
theorem Aj8{n m k:Nat}(h:n<m)(g:m<=k):n<k:=Nat.lt_of_lt_of_le h g
theorem Aj9{n m k:Nat}(h:n<=m)(g:m<=k):n<=k:=Nat.le_trans h g
theorem AjA{α:Type _}{a:α} : ¬a∈[]:=List.not_mem_nil
theorem AjB{α:Type _}{a b:α} : a∈[b]↔a=b:=List.mem_singleton
theorem AjC{α:Type _}{l:List α}{i:Nat}{a:α} : l[i]?=some a↔∃h,l[i]=a:=List.getElem?_eq_some_iff
theorem AjD{α:Type _}{i:Nat}{b:α}{xs:Array α} : xs[i]?=some b↔∃h,xs[i]=b:=Array.getElem?_eq_some_iff
/-! ### trim -/
theorem Aez{w:World}{base:Nat}{e:TypeId}{size:Nat}{v:Value}{n:Nat}{xs:List Value}(h:w.ownsRow base e size v n xs)(b:Nat)(hb:v.ownBlock=some b):base<=b:=by
 rcases h.2 with⟨rfl,_⟩|⟨g,cap,cur,rfl,hg,_⟩
 ·cases hb
 ·simp only [Value.ownBlock,Aj3]at hb;omega
end Go.Proofs.YtgnejnampofhoaaGreatDoor
namespace Go.Proofs.YtgnejnampofhoaaGreatDoor
/-! ### plus -/
end Go.Proofs.YtgnejnampofhoaaGreatDoor
namespace Go.Proofs.YtgnejnampofhoaaGreatDoor
open Go.RowKit Kl
def Ho(x y:Nat):Int:=if x<y then -1 else if x=y then 0 else 1
theorem kE{x y:Nat}(h:x<y):Ho x y = -1:=by unfold Ho;rw [if_pos h]
theorem kD{x y:Nat}(h:y<x):Ho x y=1:=by unfold Ho;rw [if_neg (by omega),if_neg (by omega)]
theorem EM{a b:Int}(h:b=a):Ending.returned (.int .i64 a)=.returned (.int .i64 b):=by rw [h]
def AK(n:Int)(w:World)(e:Ending)(w':World):Prop:=e=.returned (.int .i64 n)/\Ac w w'
theorem vP{x y:Nat}(hx:x<1000000000)(hy:y<1000000000):x*y<=999999998000000001:=by
 have h1:x*y<=999999999*999999999:=Nat.mul_le_mul (by omega) (by omega);omega
structure Ao(w:World):Prop where
 shaped:w.ShapedOpen Tryz.prog
 pow:Lib.TabIs Tryz.prog w "internal/strconv.uint64pow10" .u64 Lib.pow10Tab
 syn:∃tp p,w.var? Tryz.prog "strconv.ErrSyntax" = some #[.iface tp p]
 rng:∃tp p,w.var? Tryz.prog "strconv.ErrRange" = some #[.iface tp p]
theorem dR{w w':World}{n:String}{cs:Array Value}(h:w.var? Tryz.prog n=some cs)(hx:Ac w w'):w'.var? Tryz.prog n=some cs:=by
 unfold World.var? at h ⊢
 cases hg:Tryz.prog.globalNamed n with
 | none=>rw [hg]at h;exact h
 | some g=>
  rw [hg]at h;simp only [Option.bind_some]at h ⊢
  have hlt:g<w.heap.size:=by
   by_cases hlt:g<w.heap.size
   ·exact hlt
   ·rw [Array.getElem?_eq_none (by omega)]at h;cases h
  rw [hx.block g hlt];exact h
theorem Ao.ext{w w':World}(h:Ao w)(hx:Ac w w'):Ao w':=by
 obtain⟨a,b,h1⟩:=h.syn;obtain⟨c,d,h2⟩:=h.rng;exact⟨h.shaped.keptBut (Below.frame hx fun _=>False) (fun _ h=>h.elim),dR h.pow hx,⟨a,b,dR h1 hx⟩,⟨c,d,dR h2 hx⟩⟩
def Cc(l:Bs)(w:World)(e:Ending)(w':World):Prop:=e=.returned (S l)/\Ac w w'
def By(b:Bool)(w:World)(e:Ending)(w':World):Prop:=e=.returned (.bool b)/\Ac w w'
def Bp(v:Value)(w:World)(e:Ending)(w':World):Prop:=e=.returned v/\Ac w w'
theorem ext_eq{w w':World}(h:w'=w):Ac w w':=h▸Ac.refl w
theorem pE(s p:Bs)(w:World):Calls Tryz.prog 345 #[S s,S p] w (By (p.isPrefixOf s) w):=
 (Tryz.strings_HasPrefix _ _ w).mono fun _ _ ⟨h1,h2⟩=>⟨h1,ext_eq h2⟩
theorem dN(s p:Bs)(w:World):Calls Tryz.prog 296 #[S s,S p] w (Cc (Lib.trimPrefix s p) w):=
 (Tryz.strings_TrimPrefix _ _ w).mono fun _ _ ⟨h1,h2⟩=>⟨h1,ext_eq h2⟩
theorem T8(s p:Bs)(w:World):Calls Tryz.prog 343 #[S s,S p] w (Bp (.tuple #[S (Lib.trimPrefix s p),.bool (p.isPrefixOf s)]) w):=
 (Tryz.strings_CutPrefix _ _ w).mono fun _ _ ⟨h1,h2⟩=>⟨h1,ext_eq h2⟩
theorem vn(s p:Bs)(w:World):Calls Tryz.prog 146 #[S s,S p] w (AK (Lib.compareBytes s p) w):=
 (Tryz.strings_Compare _ _ w).mono fun _ _ ⟨h1,h2⟩=>⟨h1,ext_eq h2⟩
theorem zO(l:Bs):(⟨l.toArray⟩:ByteArray).size=l.length:=by simp [ByteArray.size]
theorem cut_c(s p:Bs)(w:World)(hw:Ao w)(hs:s.length<4294967281) :
  Calls Tryz.prog 292 #[S s,S p] w (Bp (.tuple #[S (Lib.cut s p).1,S (Lib.cut s p).2.1,.bool (Lib.cut s p).2.2]) w):=
 (Tryz.strings_Cut_shaped _ _ w hw.shaped (by rw [zO];exact hs)).mono fun _ _ ⟨h1,n,h2⟩=>⟨h1,h2▸(Ac.refl w).drewN n⟩
theorem zb(w:World)(k:Nat)(os:Array Obj):Ac w (Go.Sort.grow (w.drewN k) os):=
 ⟨rfl,rfl,rfl,by simp [Go.Sort.grow],fun i hi=>by simp only [Go.Sort.grow,World.heap_drewN];rw [Array.getElem?_append_left hi]⟩
theorem OW(n:Int)(h0:-9223372036854775808<=n)(h1:n<=9223372036854775807)(w:World)(hw:Ao w):Calls Tryz.prog 185 #[.int .i64 n] w (Cc (I n) w):=
 (Tryz.strconv_Itoa n h0 h1 w hw.pow).mono fun _ _ ⟨h1,k,os,h2⟩=>⟨h1,h2▸zb w k os⟩
theorem y9(w:World)(t:ByteArray):Ac w (Lib.bytesWorld w 5 t):=Go.Joins.below_bytesWorld _ w 5 t (Ajz _)
end Go.Proofs.YtgnejnampofhoaaGreatDoor
namespace Go.Proofs.YtgnejnampofhoaaGreatDoor
end Go.Proofs.YtgnejnampofhoaaGreatDoor
namespace Go.Proofs.YtgnejnampofhoaaGreatDoor
open Go.RowKit Kl Go.Lib Go.Sort
/-! ### Parsing -/
theorem AgX(a:Nat)(r:Bs):a<=D2 a r:=by
 rw [b9];have:a*1<=a*10^r.length:=Nat.mul_le_mul_left _ (Nat.one_le_pow _ _ (by omega));omega
theorem xF(m:Nat)(hm:m<18446744073709551616):∀(l:Bs) (acc:Nat),C4 l→Lib.parseUintM m acc l=if l = []∨D2 acc l<=m then .ok (D2 acc l)else .range
 | [],acc,_=>by simp [Lib.parseUintM,D2]
 | c::r,acc,h=>by
  rw [Tq]at h;have hc:48<=c.toNat/\c.toNat<=57:=h.1;have hd:=Xr h.1;rw [dP];have h1:=AgX (acc*10+dv c) r;have ih:=xF m hm r (acc*10+dv c) h.2;have e:c.toNat-48=dv c:=rfl;rw [Lib.parseUintM,if_pos hc,e];by_cases h2:1844674407370955162<=acc
  ·rw [if_pos h2,if_neg (by simp;omega)]
  ·rw [if_neg h2];by_cases h3:m<acc*10+dv c
   ·rw [if_pos h3,if_neg (by simp;omega)]
   ·rw [if_neg h3,ih];by_cases h4:D2 (acc*10+dv c) r<=m
    ·rw [if_pos (.inr h4),if_pos (.inr h4)]
    ·rw [if_neg (by simp;exact⟨fun e=>h4 (by rw [e];simpa [D2]using h3),by omega⟩),if_neg (by simp;omega)]
theorem xE:∀(l:Bs) (acc:Nat),Lib.parseUint10 acc l=Lib.parseUintM 18446744073709551615 acc l
 | [],acc=>rfl
 | c::r,acc=>by
  rw [Lib.parseUint10,Lib.parseUintM,xE r];by_cases h:48<=c.toNat/\c.toNat<=57
  ·rw [if_pos h,if_pos h];by_cases h2:1844674407370955162<=acc
   ·rw [if_pos h2,if_pos h2]
   ·rw [if_neg h2,if_neg h2];by_cases h3:18446744073709551616<=acc*10+(c.toNat-48)
    ·rw [if_pos h3,if_pos (by omega)]
    ·rw [if_neg h3,if_neg (by omega)]
  ·rw [if_neg h,if_neg h]
theorem eu(n:Nat):∃c r,D n=c::r/\¬(c.toNat=43∨c.toNat=45)/\c.toNat≠45:=by
 match hd:D n,MB n with
 | c::r,_=>have:=E0 n c (by rw [hd];simp);have h1:=this.1;exact⟨c,r,rfl,by omega,by omega⟩
theorem xG(n:Nat):Lib.parseMag (D n)=if n<18446744073709551616 then .ok n else .range:=by
 unfold Lib.parseMag;rw [if_neg (MB n),xE,xF _ (by omega) _ 0 (E0 n)];have e:D2 0 (D n)=n:=Le n;rw [e];by_cases h:n<18446744073709551616
 ·rw [if_pos h,if_pos (.inr (by omega))]
 ·rw [if_neg h,if_neg (by simp;exact⟨MB n,by omega⟩)]
theorem qq(z:Int):Lib.atoiAll (I z)=if -9223372036854775808<=z/\z<=9223372036854775807 then .ok z else .range:=by
 rcases DD z with⟨n,rfl,e⟩|⟨n,hn,rfl,e⟩
 ·obtain⟨c,r,hd,h1,h2⟩:=eu n;have hp:=xG n;rw [e];rw [hd]at hp ⊢;unfold Lib.atoiAll;simp only [if_neg h1,hp];by_cases h:n<18446744073709551616
  ·rw [if_pos h];simp only [h2,not_false_eq_true,true_and,false_and,if_false];by_cases h3:9223372036854775808<=n
   ·rw [if_pos h3,if_neg (by omega)]
   ·rw [if_neg h3,if_pos (by omega)]
  ·rw [if_neg h];rw [if_neg (by omega)]
 ·have hp:=xG n;rw [e];unfold Lib.atoiAll;have h45:(45:UInt8).toNat=45:=rfl;simp only [h45,or_true,if_true,hp];by_cases h:n<18446744073709551616
  ·rw [if_pos h];simp only [not_true_eq_false,true_and,false_and,if_false];by_cases h3:9223372036854775808<n
   ·rw [if_pos h3,if_neg (by omega)]
   ·rw [if_neg h3,if_pos (by omega)]
  ·rw [if_neg h];rw [if_neg (by omega)]
theorem MJ{z:Int}{k:Nat}(hk:0<k)(h:z.natAbs<10^k):(I z).length<=k+1:=by
 rcases DD z with⟨n,rfl,e⟩|⟨n,hn,rfl,e⟩
 ·rw [e];have:=Hf hk (n:=n) (by simpa using h);omega
 ·rw [e,List.length_cons];have:=Hf hk (n:=n) (by simpa using h);omega
theorem y8{w w':World}(h:w'=w∨∃t,w'=Lib.bytesWorld w 5 t):Ac w w':=by
 rcases h with rfl|⟨t,rfl⟩
 ·exact Ac.refl _
 ·exact y9 w _
theorem WS(z:Int)(h0:-9223372036854775808<=z)(h1:z<=9223372036854775807)(w:World) :
  Calls Tryz.prog 260 #[S (I z)] w (Bp (.tuple #[.int .i64 z,.nilIface]) w):=
 (Tryz.strconv_Atoi_ok _ (by have:=MJ (z:=z) (k:=20) (by omega) (by omega);rw [zO];omega) z (by show Lib.atoiAll (I z)=_;rw [qq,if_pos ⟨h0,h1⟩]) w).mono fun _ _ ⟨h1,h2⟩=>⟨h1,y8 h2⟩
end Go.Proofs.YtgnejnampofhoaaGreatDoor
namespace Go.Proofs.YtgnejnampofhoaaGreatDoor
open Go.RowKit Kl
theorem uJ(n:Nat):[45].isPrefixOf (D n)=false:=by
 match hd:D n,MB n with
 | c::r,_=>have:=(E0 n c (by rw [hd];simp)).1;simp only [List.isPrefixOf,Bool.and_true];rw [beq_eq_false_iff_ne];rintro rfl;exact absurd this (by decide)
theorem uK(l:Bs):[45].isPrefixOf (45::l)=true:=by simp [List.isPrefixOf]
theorem AgP(n:Nat):Lib.trimPrefix (D n) [45]=D n:=by unfold Lib.trimPrefix Lib.hasPrefix;rw [uJ];rfl
theorem AgQ(l:Bs):Lib.trimPrefix (45::l) [45]=l:=by unfold Lib.trimPrefix Lib.hasPrefix;rw [uK];rfl
theorem ak(z:Int):Lib.trimPrefix (I z) [45]=D z.natAbs:=by
 rcases DD z with⟨n,rfl,e⟩|⟨n,_,rfl,e⟩
 ·rw [e,AgP];simp
 ·rw [e,AgQ];simp
theorem AcJ(z:Int):[45].isPrefixOf (I z)=decide (z<0):=by
 rcases DD z with⟨n,rfl,e⟩|⟨n,_,rfl,e⟩
 ·rw [e,uJ];symm;rw [decide_eq_false_iff_not];omega
 ·rw [e,uK];symm;rw [decide_eq_true_eq];omega
theorem Tc:I 0 = [48]:=by rw [show (0:Int)=((0:Nat):Int)from rfl,ER,Fz (by omega)];rfl
theorem li{z:Int} : I z = [48]↔z=0:=by
 constructor
 ·intro h;exact NW (by rw [h,Tc])
 ·rintro rfl;exact Tc
theorem Tb:I 1 = [49]:=by rw [show (1:Int)=((1:Nat):Int)from rfl,ER,Fz (by omega)];rfl
theorem lh{z:Int} : I z = [49]↔z=1:=by
 constructor
 ·intro h;exact NW (by rw [h,Tb])
 ·rintro rfl;exact Tb
theorem fS{z:Int}(h:z≠0):(I z == [48])=false:=by rw [beq_eq_false_iff_ne];exact fun e=>h (li.1 e)
theorem lj{z:Int}(h:z≠1):(I z == [49])=false:=by rw [beq_eq_false_iff_ne];exact fun e=>h (lh.1 e)
def BG(z:Int):Prop:=z.natAbs<Big
theorem BG.len{z:Int}(h:BG z):(I z).length<=4001:=MJ (k:=WV) (by decide) h
def EN(z:Int):Int:=if z=0 then 0 else if z<0 then -1 else 1
theorem Agh{z:Int}(h:z=0):EN z=0:=by unfold EN;rw [if_pos h]
theorem zG{z:Int}(h:z<0):EN z = -1:=by unfold EN;rw [if_neg (by omega),if_pos h]
theorem zH{z:Int}(h:0<z):EN z=1:=by unfold EN;rw [if_neg (by omega),if_neg (by omega)]
theorem RN(z:Int)(w:World):Calls Tryz.prog 295 #[S (I z)] w (AK (EN z) w):=by
 by_cases h0:z=0
 ·subst h0;rw [Tc];go_enter Tryz.func295,Tryz.ntmps295;go_wp2;go_ret;exact⟨rfl,Ac.refl _⟩
 ·have h1:=fS h0;have hp:=AcJ z;by_cases hn:z<0
  ·rw [decide_eq_true hn]at hp;go_enter Tryz.func295,Tryz.ntmps295
   go_wp2_with (go_at_call 345;refine(pE (I z) [45] _).mono ?_;rintro e w1 ⟨rfl,hx1⟩)
   go_ret;exact⟨EM (zG hn),hx1⟩
  ·rw [decide_eq_false hn]at hp;go_enter Tryz.func295,Tryz.ntmps295
   go_wp2_with (go_at_call 345;refine(pE (I z) [45] _).mono ?_;rintro e w1 ⟨rfl,hx1⟩)
   go_ret;exact⟨EM (zH (by omega)),hx1⟩
theorem ll{z:Int} : (z=0→I (-z)=I z)/\(0<z→I (-z)=45::I z)/\(z<0→I z=45::I (-z)):=by
 refine⟨fun h=>by rw [h];rfl,fun h=>?_,fun h=>?_⟩
 ·rcases DD z with⟨n,rfl,e⟩|⟨n,hn,rfl,e⟩
  ·rw [e,Wt n (by omega)]
  ·omega
 ·rcases DD z with⟨n,rfl,e⟩|⟨n,hn,rfl,e⟩
  ·omega
  ·rw [e,Int.neg_neg,ER]
theorem tY(z:Int)(hb:BG z)(w:World):Calls Tryz.prog 314 #[S (I z)] w (Cc (I (-z)) w):=by
 obtain⟨e0,e1,e2⟩:=ll (z:=z)
 rcases Int.lt_trichotomy z 0 with h|h|h
 ·rw [e2 h];have hs:=RN z;rw [zG h,e2 h]at hs;clear e0 e1 e2;go_enter Tryz.func314,Tryz.ntmps314
  go_wp2_with (go_at_call 295;((with_reducible refine(hs _).mono ?_);rintro e w1 ⟨rfl,hx1⟩))
  go_ret;exact⟨J6 (by rw [TC];simp),hx1⟩
 ·subst h;have hs:=RN 0;rw [Agh rfl]at hs;clear e0 e1 e2;go_enter Tryz.func314,Tryz.ntmps314
  go_wp2_with (go_at_call 295;((with_reducible refine(hs _).mono ?_);rintro e w1 ⟨rfl,hx1⟩))
  go_ret;exact⟨rfl,hx1⟩
 ·rw [e1 h];have hs:=RN z;rw [zH h]at hs;have hln:=hb.len;clear e0 e1 e2;go_enter Tryz.func314,Tryz.ntmps314
  go_wp2_with (go_at_call 295;((with_reducible refine(hs _).mono ?_);rintro e w1 ⟨rfl,hx1⟩))
  go_ret;exact⟨J6 (by apply ByteArray.ext;simp),hx1⟩
theorem Acy(z:Int)(h0:-9223372036854775808<=z)(h1:z<=9223372036854775807)(w:World)(hw:Ao w):Calls Tryz.prog 298 #[.int .i64 z] w (Cc (I z) w):=by
 have hi:=OW z h0 h1 w hw;clear h0 h1;go_enter Tryz.func298,Tryz.ntmps298
 go_wp2_with (go_at_call 185;((with_reducible refine hi.mono ?_);rintro e w1 ⟨rfl,hx1⟩))
 go_ret;exact⟨rfl,hx1⟩
def Sl(z:Int)(k:Nat):Value:=if (I z).length<=k then .tuple #[.int .i64 z,.bool true] else .tuple #[.int .i64 0,.bool false]
theorem AeS(z:Int)(k:Nat)(hk:k<=18)(w:World):Calls Tryz.prog 297 #[S (I z),.int .i64 (k:Nat)] w (Bp (Sl z k) w):=by
 by_cases h:(I z).length<=k
 ·have hz:z.natAbs<10^18:=by
   rcases DD z with⟨n,rfl,e⟩|⟨n,hn,rfl,e⟩
   ·rw [e]at h;simpa using NA (n:=n) (k:=18) (by omega)
   ·rw [e,List.length_cons]at h;simpa using NA (n:=n) (k:=18) (by omega)
  have ha:=WS z (by omega) (by omega) w;have hq:Sl z k=.tuple #[.int .i64 z,.bool true]:=if_pos h;rw [hq];clear hz hq;go_enter Tryz.func297,Tryz.ntmps297
  go_wp2_with (go_at_call 260;((with_reducible refine ha.mono ?_);rintro e w1 ⟨rfl,hx1⟩))
  go_quiet (fail)
  go_wp2;go_ret2;exact⟨rfl,hx1.drewN _⟩
 ·have hq:Sl z k=.tuple #[.int .i64 0,.bool false]:=if_neg h;rw [hq];have h':k<(I z).length:=(by omega);clear hq h;go_enter Tryz.func297,Tryz.ntmps297;go_wp2;go_ret2;exact⟨rfl,Ac.refl _⟩
end Go.Proofs.YtgnejnampofhoaaGreatDoor
