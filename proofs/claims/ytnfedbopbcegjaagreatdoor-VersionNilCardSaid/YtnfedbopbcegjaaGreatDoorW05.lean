/- W05. -/
import Derived.Test.YtnfedbopbcegjaaGreatDoorW03
import Derived.Lib.SmallJoins
import Derived.Lib.AppendIntMem
set_option maxHeartbeats 400000
namespace Go.Proofs.YtnfedbopbcegjaaGreatDoor
open Go.RowKit Kl
structure Ak(w:World):Prop where
 shaped:w.ShapedOpen Tryz.prog
 pow:Lib.TabIs Tryz.prog w "internal/strconv.uint64pow10" .u64 Lib.pow10Tab
 syn:∃tp p,w.var? Tryz.prog "strconv.ErrSyntax" = some #[.iface tp p]
 rng:∃tp p,w.var? Tryz.prog "strconv.ErrRange" = some #[.iface tp p]
theorem bL{w w':World}{n:String}{cs:Array Value}(h:w.var? Tryz.prog n=some cs)(hx:Aa w w'):w'.var? Tryz.prog n=some cs:=by
 unfold World.var? at h ⊢
 cases hg:Tryz.prog.globalNamed n with
 | none=>rw [hg]at h;exact h
 | some g=>
  rw [hg]at h;simp only [Option.bind_some]at h ⊢
  have hlt:g<w.heap.size:=by
   by_cases hlt:g<w.heap.size
   ·exact hlt
   ·rw [Array.getElem?_eq_none (by omega)]at h;cases h
  rw [hx.block g hlt];exact h
theorem Ak.ext{w w':World}(h:Ak w)(hx:Aa w w'):Ak w':=by
 obtain⟨a,b,h1⟩:=h.syn;obtain⟨c,d,h2⟩:=h.rng;exact⟨h.shaped.keptBut (Below.frame hx fun _=>False) (fun _ h=>h.elim),bL h.pow hx,⟨a,b,bL h1 hx⟩,⟨c,d,bL h2 hx⟩⟩
def BK(l:Bs)(w:World)(e:Ending)(w':World):Prop:=e=.returned (S l)/\Aa w w'
def BE(b:Bool)(w:World)(e:Ending)(w':World):Prop:=e=.returned (.bool b)/\Aa w w'
def Cp(v:Value)(w:World)(e:Ending)(w':World):Prop:=e=.returned v/\Aa w w'
theorem ext_eq{w w':World}(h:w'=w):Aa w w':=h▸Aa.refl w
theorem mE(s p:Bs)(w:World):Calls Tryz.prog 179 #[S s,S p] w (BE (p.isPrefixOf s) w):=
 (Tryz.strings_HasPrefix _ _ w).mono fun _ _ ⟨h1,h2⟩=>⟨h1,ext_eq h2⟩
theorem bE(s p:Bs)(w:World):Calls Tryz.prog 117 #[S s,S p] w (BK (Lib.trimPrefix s p) w):=
 (Tryz.strings_TrimPrefix _ _ w).mono fun _ _ ⟨h1,h2⟩=>⟨h1,ext_eq h2⟩
theorem S8(s p:Bs)(w:World):Calls Tryz.prog 116 #[S s,S p] w (Cp (.tuple #[S (Lib.trimPrefix s p),.bool (p.isPrefixOf s)]) w):=
 (Tryz.strings_CutPrefix _ _ w).mono fun _ _ ⟨h1,h2⟩=>⟨h1,ext_eq h2⟩
theorem wu(s p:Bs)(w:World):Calls Tryz.prog 118 #[S s,S p] w (AB (Lib.compareBytes s p) w):=
 (Tryz.strings_Compare _ _ w).mono fun _ _ ⟨h1,h2⟩=>⟨h1,ext_eq h2⟩
theorem zA(l:Bs):(⟨l.toArray⟩:ByteArray).size=l.length:=by simp [ByteArray.size]
theorem cut_c(s p:Bs)(w:World)(hw:Ak w)(hs:s.length<4294967281) :
  Calls Tryz.prog 66 #[S s,S p] w (Cp (.tuple #[S (Lib.cut s p).1,S (Lib.cut s p).2.1,.bool (Lib.cut s p).2.2]) w):=
 (Tryz.strings_Cut_shaped _ _ w hw.shaped (by rw [zA];exact hs)).mono fun _ _ ⟨h1,n,h2⟩=>⟨h1,h2▸(Aa.refl w).drewN n⟩
theorem Aan(w:World)(k:Nat)(os:Array Obj):Aa w (Go.Sort.grow (w.drewN k) os):=
 ⟨rfl,rfl,rfl,by simp [Go.Sort.grow],fun i hi=>by simp only [Go.Sort.grow,World.heap_drewN];rw [Array.getElem?_append_left hi]⟩
theorem Zs(n:Int)(h0:-9223372036854775808<=n)(h1:n<=9223372036854775807)(w:World)(hw:Ak w):Calls Tryz.prog 102 #[.int .i64 n] w (BK (I n) w):=
 (Tryz.strconv_Itoa n h0 h1 w hw.pow).mono fun _ _ ⟨h1,k,os,h2⟩=>⟨h1,h2▸Aan w k os⟩
theorem Aam(w:World)(t:ByteArray):Aa w (Lib.bytesWorld w 5 t):=Go.Joins.below_bytesWorld _ w 5 t (AjN _)
end Go.Proofs.YtnfedbopbcegjaaGreatDoor
namespace Go.Proofs.YtnfedbopbcegjaaGreatDoor
end Go.Proofs.YtnfedbopbcegjaaGreatDoor
namespace Go.Proofs.YtnfedbopbcegjaaGreatDoor
open Go.RowKit Kl Go.Lib Go.Sort
/-! ### Parsing -/
theorem Ahu(a:Nat)(r:Bs):a<=Dm a r:=by
 rw [df];have:a*1<=a*10^r.length:=Nat.mul_le_mul_left _ (Nat.one_le_pow _ _ (by omega));omega
theorem wI(m:Nat)(hm:m<18446744073709551616):∀(l:Bs) (acc:Nat),Cy l→Lib.parseUintM m acc l=if l = []∨Dm acc l<=m then .ok (Dm acc l)else .range
 | [],acc,_=>by simp [Lib.parseUintM,Dm]
 | c::r,acc,h=>by
  rw [Sq]at h;have hc:48<=c.toNat/\c.toNat<=57:=h.1;have hd:=Wv h.1;rw [bJ];have h1:=Ahu (acc*10+dv c) r;have ih:=wI m hm r (acc*10+dv c) h.2;have e:c.toNat-48=dv c:=rfl;rw [Lib.parseUintM,if_pos hc,e];by_cases h2:1844674407370955162<=acc
  ·rw [if_pos h2,if_neg (by simp;omega)]
  ·rw [if_neg h2];by_cases h3:m<acc*10+dv c
   ·rw [if_pos h3,if_neg (by simp;omega)]
   ·rw [if_neg h3,ih];by_cases h4:Dm (acc*10+dv c) r<=m
    ·rw [if_pos (.inr h4),if_pos (.inr h4)]
    ·rw [if_neg (by simp;exact⟨fun e=>h4 (by rw [e];simpa [Dm]using h3),by omega⟩),if_neg (by simp;omega)]
theorem wH:∀(l:Bs) (acc:Nat),Lib.parseUint10 acc l=Lib.parseUintM 18446744073709551615 acc l
 | [],acc=>rfl
 | c::r,acc=>by
  rw [Lib.parseUint10,Lib.parseUintM,wH r];by_cases h:48<=c.toNat/\c.toNat<=57
  ·rw [if_pos h,if_pos h];by_cases h2:1844674407370955162<=acc
   ·rw [if_pos h2,if_pos h2]
   ·rw [if_neg h2,if_neg h2];by_cases h3:18446744073709551616<=acc*10+(c.toNat-48)
    ·rw [if_pos h3,if_pos (by omega)]
    ·rw [if_neg h3,if_neg (by omega)]
  ·rw [if_neg h,if_neg h]
theorem fo(n:Nat):∃c r,D n=c::r/\¬(c.toNat=43∨c.toNat=45)/\c.toNat≠45:=by
 match hd:D n,LV n with
 | c::r,_=>have:=Ev n c (by rw [hd];simp);have h1:=this.1;exact⟨c,r,rfl,by omega,by omega⟩
theorem wJ(n:Nat):Lib.parseMag (D n)=if n<18446744073709551616 then .ok n else .range:=by
 unfold Lib.parseMag;rw [if_neg (LV n),wH,wI _ (by omega) _ 0 (Ev n)];have e:Dm 0 (D n)=n:=Ky n;rw [e];by_cases h:n<18446744073709551616
 ·rw [if_pos h,if_pos (.inr (by omega))]
 ·rw [if_neg h,if_neg (by simp;exact⟨LV n,by omega⟩)]
theorem rf(z:Int):Lib.atoiAll (I z)=if -9223372036854775808<=z/\z<=9223372036854775807 then .ok z else .range:=by
 rcases Ds z with⟨n,rfl,e⟩|⟨n,hn,rfl,e⟩
 ·obtain⟨c,r,hd,h1,h2⟩:=fo n;have hp:=wJ n;rw [e];rw [hd]at hp ⊢;unfold Lib.atoiAll;simp only [if_neg h1,hp];by_cases h:n<18446744073709551616
  ·rw [if_pos h];simp only [h2,not_false_eq_true,true_and,false_and,if_false];by_cases h3:9223372036854775808<=n
   ·rw [if_pos h3,if_neg (by omega)]
   ·rw [if_neg h3,if_pos (by omega)]
  ·rw [if_neg h];rw [if_neg (by omega)]
 ·have hp:=wJ n;rw [e];unfold Lib.atoiAll;have h45:(45:UInt8).toNat=45:=rfl;simp only [h45,or_true,if_true,hp];by_cases h:n<18446744073709551616
  ·rw [if_pos h];simp only [not_true_eq_false,true_and,false_and,if_false];by_cases h3:9223372036854775808<n
   ·rw [if_pos h3,if_neg (by omega)]
   ·rw [if_neg h3,if_pos (by omega)]
  ·rw [if_neg h];rw [if_neg (by omega)]
theorem RZ{z:Int}{k:Nat}(hk:0<k)(h:z.natAbs<10^k):(I z).length<=k+1:=by
 rcases Ds z with⟨n,rfl,e⟩|⟨n,hn,rfl,e⟩
 ·rw [e];have:=Hk hk (n:=n) (by simpa using h);omega
 ·rw [e,List.length_cons];have:=Hk hk (n:=n) (by simpa using h);omega
theorem Aal{w w':World}(h:w'=w∨∃t,w'=Lib.bytesWorld w 5 t):Aa w w':=by
 rcases h with rfl|⟨t,rfl⟩
 ·exact Aa.refl _
 ·exact Aam w _
theorem rh(z:Int)(h0:-9223372036854775808<=z)(h1:z<=9223372036854775807)(w:World) :
  Calls Tryz.prog 180 #[S (I z)] w (Cp (.tuple #[.int .i64 z,.nilIface]) w):=
 (Tryz.strconv_Atoi_ok _ (by have:=RZ (z:=z) (k:=20) (by omega) (by omega);rw [zA];omega) z (by show Lib.atoiAll (I z)=_;rw [rf,if_pos ⟨h0,h1⟩]) w).mono fun _ _ ⟨h1,h2⟩=>⟨h1,Aal h2⟩
end Go.Proofs.YtnfedbopbcegjaaGreatDoor
namespace Go.Proofs.YtnfedbopbcegjaaGreatDoor
open Go.RowKit Kl
theorem tQ(n:Nat):[45].isPrefixOf (D n)=false:=by
 match hd:D n,LV n with
 | c::r,_=>have:=(Ev n c (by rw [hd];simp)).1;simp only [List.isPrefixOf,Bool.and_true];rw [beq_eq_false_iff_ne];rintro rfl;exact absurd this (by decide)
theorem tR(l:Bs):[45].isPrefixOf (45::l)=true:=by simp [List.isPrefixOf]
theorem Ahm(n:Nat):Lib.trimPrefix (D n) [45]=D n:=by unfold Lib.trimPrefix Lib.hasPrefix;rw [tQ];rfl
theorem Ahn(l:Bs):Lib.trimPrefix (45::l) [45]=l:=by unfold Lib.trimPrefix Lib.hasPrefix;rw [tR];rfl
theorem cd(z:Int):Lib.trimPrefix (I z) [45]=D z.natAbs:=by
 rcases Ds z with⟨n,rfl,e⟩|⟨n,_,rfl,e⟩
 ·rw [e,Ahm];simp
 ·rw [e,Ahn];simp
theorem Ady(z:Int):[45].isPrefixOf (I z)=decide (z<0):=by
 rcases Ds z with⟨n,rfl,e⟩|⟨n,_,rfl,e⟩
 ·rw [e,tQ];symm;rw [decide_eq_false_iff_not];omega
 ·rw [e,tR];symm;rw [decide_eq_true_eq];omega
theorem Sa:I 0 = [48]:=by rw [show (0:Int)=((0:Nat):Int)from rfl,EX,EG (by omega)];rfl
theorem ly{z:Int} : I z = [48]↔z=0:=by
 constructor
 ·intro h;exact Ns (by rw [h,Sa])
 ·rintro rfl;exact Sa
theorem Po:I 1 = [49]:=by rw [show (1:Int)=((1:Nat):Int)from rfl,EX,EG (by omega)];rfl
theorem lx{z:Int} : I z = [49]↔z=1:=by
 constructor
 ·intro h;exact Ns (by rw [h,Po])
 ·rintro rfl;exact Po
theorem eH{z:Int}(h:z≠0):(I z == [48])=false:=by rw [beq_eq_false_iff_ne];exact fun e=>h (ly.1 e)
theorem l8{z:Int}(h:z≠1):(I z == [49])=false:=by rw [beq_eq_false_iff_ne];exact fun e=>h (lx.1 e)
def BJ(z:Int):Prop:=z.natAbs<Big
theorem BJ.len{z:Int}(h:BJ z):(I z).length<=4001:=RZ (k:=VW) (by decide) h
def EF(z:Int):Int:=if z=0 then 0 else if z<0 then -1 else 1
theorem AgA{z:Int}(h:z=0):EF z=0:=by unfold EF;rw [if_pos h]
theorem yU{z:Int}(h:z<0):EF z = -1:=by unfold EF;rw [if_neg (by omega),if_pos h]
theorem yV{z:Int}(h:0<z):EF z=1:=by unfold EF;rw [if_neg (by omega),if_neg (by omega)]
theorem QQ(z:Int)(w:World):Calls Tryz.prog 103 #[S (I z)] w (AB (EF z) w):=by
 by_cases h0:z=0
 ·subst h0;rw [Sa];go_enter Tryz.func103,Tryz.ntmps103;go_wp2;go_ret;exact⟨rfl,Aa.refl _⟩
 ·have h1:=eH h0;have hp:=Ady z;by_cases hn:z<0
  ·rw [decide_eq_true hn]at hp;go_enter Tryz.func103,Tryz.ntmps103
   go_wp2_with (go_at_call 179;refine(mE (I z) [45] _).mono ?_;rintro e w1 ⟨rfl,hx1⟩)
   go_ret;exact⟨EE (yU hn),hx1⟩
  ·rw [decide_eq_false hn]at hp;go_enter Tryz.func103,Tryz.ntmps103
   go_wp2_with (go_at_call 179;refine(mE (I z) [45] _).mono ?_;rintro e w1 ⟨rfl,hx1⟩)
   go_ret;exact⟨EE (yV (by omega)),hx1⟩
theorem l9{z:Int} : (z=0→I (-z)=I z)/\(0<z→I (-z)=45::I z)/\(z<0→I z=45::I (-z)):=by
 refine⟨fun h=>by rw [h];rfl,fun h=>?_,fun h=>?_⟩
 ·rcases Ds z with⟨n,rfl,e⟩|⟨n,hn,rfl,e⟩
  ·rw [e,VD n (by omega)]
  ·omega
 ·rcases Ds z with⟨n,rfl,e⟩|⟨n,hn,rfl,e⟩
  ·omega
  ·rw [e,Int.neg_neg,EX]
theorem tG(z:Int)(hb:BJ z)(w:World):Calls Tryz.prog 104 #[S (I z)] w (BK (I (-z)) w):=by
 obtain⟨e0,e1,e2⟩:=l9 (z:=z)
 rcases Int.lt_trichotomy z 0 with h|h|h
 ·rw [e2 h];have hs:=QQ z;rw [yU h,e2 h]at hs;clear e0 e1 e2;go_enter Tryz.func104,Tryz.ntmps104
  go_wp2_with (go_at_call 103;((with_reducible refine(hs _).mono ?_);rintro e w1 ⟨rfl,hx1⟩))
  go_ret;exact⟨Hd (by rw [SI];simp),hx1⟩
 ·subst h;have hs:=QQ 0;rw [AgA rfl]at hs;clear e0 e1 e2;go_enter Tryz.func104,Tryz.ntmps104
  go_wp2_with (go_at_call 103;((with_reducible refine(hs _).mono ?_);rintro e w1 ⟨rfl,hx1⟩))
  go_ret;exact⟨rfl,hx1⟩
 ·rw [e1 h];have hs:=QQ z;rw [yV h]at hs;have Em:=hb.len;clear e0 e1 e2;go_enter Tryz.func104,Tryz.ntmps104
  go_wp2_with (go_at_call 103;((with_reducible refine(hs _).mono ?_);rintro e w1 ⟨rfl,hx1⟩))
  go_ret;exact⟨Hd (by apply ByteArray.ext;simp),hx1⟩
theorem tH(z:Int)(h0:-9223372036854775808<=z)(h1:z<=9223372036854775807)(w:World)(hw:Ak w):Calls Tryz.prog 108 #[.int .i64 z] w (BK (I z) w):=by
 have hi:=Zs z h0 h1 w hw;clear h0 h1;go_enter Tryz.func108,Tryz.ntmps108
 go_wp2_with (go_at_call 102;((with_reducible refine hi.mono ?_);rintro e w1 ⟨rfl,hx1⟩))
 go_ret;exact⟨rfl,hx1⟩
def Rj(z:Int)(k:Nat):Value:=if (I z).length<=k then .tuple #[.int .i64 z,.bool true] else .tuple #[.int .i64 0,.bool false]
theorem AfB(z:Int)(k:Nat)(hk:k<=18)(w:World):Calls Tryz.prog 107 #[S (I z),.int .i64 (k:Nat)] w (Cp (Rj z k) w):=by
 by_cases h:(I z).length<=k
 ·have hz:z.natAbs<10^18:=by
   rcases Ds z with⟨n,rfl,e⟩|⟨n,hn,rfl,e⟩
   ·rw [e]at h;simpa using MS (n:=n) (k:=18) (by omega)
   ·rw [e,List.length_cons]at h;simpa using MS (n:=n) (k:=18) (by omega)
  have ha:=rh z (by omega) (by omega) w;have hq:Rj z k=.tuple #[.int .i64 z,.bool true]:=if_pos h;rw [hq];clear hz hq;go_enter Tryz.func107,Tryz.ntmps107
  go_wp2_with (go_at_call 180;((with_reducible refine ha.mono ?_);rintro e w1 ⟨rfl,hx1⟩))
  go_quiet (fail)
  go_wp2;go_ret2;exact⟨rfl,hx1.drewN _⟩
 ·have hq:Rj z k=.tuple #[.int .i64 0,.bool false]:=if_neg h;rw [hq];have h':k<(I z).length:=(by omega);clear hq h;go_enter Tryz.func107,Tryz.ntmps107;go_wp2;go_ret2;exact⟨rfl,Aa.refl _⟩
end Go.Proofs.YtnfedbopbcegjaaGreatDoor
