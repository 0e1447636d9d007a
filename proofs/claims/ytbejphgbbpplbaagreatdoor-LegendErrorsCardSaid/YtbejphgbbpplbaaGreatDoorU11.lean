/- U11: Lib Bld Fmt Int6. -/
import Derived.Test.YtbejphgbbpplbaaGreatDoorU01
import Derived.Test.YtbejphgbbpplbaaGreatDoorU02
import Derived.Lib.SmallJoins
import Derived.Lib.AppendIntMem
set_option maxHeartbeats 400000
namespace Go.Proofs.YtbejphgbbpplbaaGreatDoor
open Go.RowKit Kl
structure Al(w:World):Prop where
 shaped:w.ShapedOpen Tryz.prog
 pow:Lib.TabIs Tryz.prog w "internal/strconv.uint64pow10" .u64 Lib.pow10Tab
 syn:∃tp p,w.var? Tryz.prog "strconv.ErrSyntax" = some #[.iface tp p]
 rng:∃tp p,w.var? Tryz.prog "strconv.ErrRange" = some #[.iface tp p]
theorem oS{w w':World}{n:String}{cs:Array Value}(h:w.var? Tryz.prog n=some cs)(hx:Aa w w'):w'.var? Tryz.prog n=some cs:=by
 unfold World.var? at h ⊢
 cases hg:Tryz.prog.globalNamed n with
 | none=>rw [hg]at h;exact h
 | some g=>
  rw [hg]at h;simp only [Option.bind_some]at h ⊢
  have hlt:g<w.heap.size:=by
   by_cases hlt:g<w.heap.size
   ·exact hlt
   ·rw [Array.getElem?_eq_none (by omega)]at h;cases h
  rw [hx.block g hlt];exact h
theorem Al.ext{w w':World}(h:Al w)(hx:Aa w w'):Al w':=by
 obtain⟨a,b,h1⟩:=h.syn;obtain⟨c,d,h2⟩:=h.rng;exact⟨h.shaped.keptBut (Below.frame hx fun _=>False) (fun _ h=>h.elim),oS h.pow hx,⟨a,b,oS h1 hx⟩,⟨c,d,oS h2 hx⟩⟩
theorem Al.drewN{w:World}(h:Al w)(n:Nat):Al (w.drewN n):=h.ext ((Aa.refl w).drewN n)
def BK(l:Bs)(w:World)(e:Ending)(w':World):Prop:=e=.returned (S l)/\Aa w w'
def Bw(b:Bool)(w:World)(e:Ending)(w':World):Prop:=e=.returned (.bool b)/\Aa w w'
def Cy(v:Value)(w:World)(e:Ending)(w':World):Prop:=e=.returned v/\Aa w w'
theorem ext_eq{w w':World}(h:w'=w):Aa w w':=h▸Aa.refl w
theorem zW(s p:Bs)(w:World):Calls Tryz.prog 279 #[S s,S p] w (Bw (p.isPrefixOf s) w):=
 (Tryz.strings_HasPrefix _ _ w).mono fun _ _ ⟨h1,h2⟩=>⟨h1,ext_eq h2⟩
theorem oK(s p:Bs)(w:World):Calls Tryz.prog 222 #[S s,S p] w (BK (Lib.trimPrefix s p) w):=
 (Tryz.strings_TrimPrefix _ _ w).mono fun _ _ ⟨h1,h2⟩=>⟨h1,ext_eq h2⟩
theorem VT(s p:Bs)(w:World):Calls Tryz.prog 277 #[S s,S p] w (Cy (.tuple #[S (Lib.trimPrefix s p),.bool (p.isPrefixOf s)]) w):=
 (Tryz.strings_CutPrefix _ _ w).mono fun _ _ ⟨h1,h2⟩=>⟨h1,ext_eq h2⟩
theorem uZ(s p:Bs)(w:World):Calls Tryz.prog 100 #[S s,S p] w (Av (Lib.compareBytes s p) w):=
 (Tryz.strings_Compare _ _ w).mono fun _ _ ⟨h1,h2⟩=>⟨h1,ext_eq h2⟩
theorem AaP(l:Bs):(⟨l.toArray⟩:ByteArray).size=l.length:=by simp [ByteArray.size]
theorem cut_c(s p:Bs)(w:World)(hw:Al w)(hs:s.length<4294967281) :
  Calls Tryz.prog 218 #[S s,S p] w (Cy (.tuple #[S (Lib.cut s p).1,S (Lib.cut s p).2.1,.bool (Lib.cut s p).2.2]) w):=
 (Tryz.strings_Cut_shaped _ _ w hw.shaped (by rw [AaP];exact hs)).mono fun _ _ ⟨h1,n,h2⟩=>⟨h1,h2▸(Aa.refl w).drewN n⟩
theorem Agp(w:World)(k:Nat)(os:Array Obj):Aa w (Go.Sort.grow (w.drewN k) os):=
 ⟨rfl,rfl,rfl,by simp [Go.Sort.grow],fun i hi=>by simp only [Go.Sort.grow,World.heap_drewN];rw [Array.getElem?_append_left hi]⟩
theorem Rc(n:Int)(h0:-9223372036854775808<=n)(h1:n<=9223372036854775807)(w:World)(hw:Al w):Calls Tryz.prog 94 #[.int .i64 n] w (BK (I n) w):=
 (Tryz.strconv_Itoa n h0 h1 w hw.pow).mono fun _ _ ⟨h1,k,os,h2⟩=>⟨h1,h2▸Agp w k os⟩
theorem Ago(w:World)(t:ByteArray):Aa w (Lib.bytesWorld w 5 t):=Go.Joins.below_bytesWorld _ w 5 t (ArZ _)
end Go.Proofs.YtbejphgbbpplbaaGreatDoor
namespace Go.Proofs.YtbejphgbbpplbaaGreatDoor
open Go.RowKit Kl Go.Lib Go.Sort
/-! ### Parsing -/
theorem Aph(a:Nat)(r:Bs):a<=DN a r:=by
 rw [Ab5];have:a*1<=a*10^r.length:=Nat.mul_le_mul_left _ (Nat.one_le_pow _ _ (by omega));omega
theorem yr(m:Nat)(hm:m<18446744073709551616):∀(l:Bs) (acc:Nat),Cb l→Lib.parseUintM m acc l=if l = []∨DN acc l<=m then .ok (DN acc l)else .range
 | [],acc,_=>by simp [Lib.parseUintM,DN]
 | c::r,acc,h=>by
  rw [VE]at h;have hc:48<=c.toNat/\c.toNat<=57:=h.1;have hd:=bV h.1;rw [oQ];have h1:=Aph (acc*10+dv c) r;have ih:=yr m hm r (acc*10+dv c) h.2;have e:c.toNat-48=dv c:=rfl;rw [Lib.parseUintM,if_pos hc,e];by_cases h2:1844674407370955162<=acc
  ·rw [if_pos h2,if_neg (by simp;omega)]
  ·rw [if_neg h2];by_cases h3:m<acc*10+dv c
   ·rw [if_pos h3,if_neg (by simp;omega)]
   ·rw [if_neg h3,ih];by_cases h4:DN (acc*10+dv c) r<=m
    ·rw [if_pos (.inr h4),if_pos (.inr h4)]
    ·rw [if_neg (by simp;exact⟨fun e=>h4 (by rw [e];simpa [DN]using h3),by omega⟩),if_neg (by simp;omega)]
theorem yq:∀(l:Bs) (acc:Nat),Lib.parseUint10 acc l=Lib.parseUintM 18446744073709551615 acc l
 | [],acc=>rfl
 | c::r,acc=>by
  rw [Lib.parseUint10,Lib.parseUintM,yq r];by_cases h:48<=c.toNat/\c.toNat<=57
  ·rw [if_pos h,if_pos h];by_cases h2:1844674407370955162<=acc
   ·rw [if_pos h2,if_pos h2]
   ·rw [if_neg h2,if_neg h2];by_cases h3:18446744073709551616<=acc*10+(c.toNat-48)
    ·rw [if_pos h3,if_pos (by omega)]
    ·rw [if_neg h3,if_neg (by omega)]
  ·rw [if_neg h,if_neg h]
theorem AbS(n:Nat):∃c r,D n=c::r/\¬(c.toNat=43∨c.toNat=45)/\c.toNat≠45:=by
 match hd:D n,Ob n with
 | c::r,_=>have:=ES n c (by rw [hd];simp);have h1:=this.1;exact⟨c,r,rfl,by omega,by omega⟩
theorem yt(n:Nat):Lib.parseMag (D n)=if n<18446744073709551616 then .ok n else .range:=by
 unfold Lib.parseMag;rw [if_neg (Ob n),yq,yr _ (by omega) _ 0 (ES n)];have e:DN 0 (D n)=n:=KO n;rw [e];by_cases h:n<18446744073709551616
 ·rw [if_pos h,if_pos (.inr (by omega))]
 ·rw [if_neg h,if_neg (by simp;exact⟨Ob n,by omega⟩)]
theorem AdT(z:Int):Lib.atoiAll (I z)=if -9223372036854775808<=z/\z<=9223372036854775807 then .ok z else .range:=by
 rcases Ei z with⟨n,rfl,e⟩|⟨n,hn,rfl,e⟩
 ·obtain⟨c,r,hd,h1,h2⟩:=AbS n;have hp:=yt n;rw [e];rw [hd]at hp ⊢;unfold Lib.atoiAll;simp only [if_neg h1,hp];by_cases h:n<18446744073709551616
  ·rw [if_pos h];simp only [h2,not_false_eq_true,true_and,false_and,if_false];by_cases h3:9223372036854775808<=n
   ·rw [if_pos h3,if_neg (by omega)]
   ·rw [if_neg h3,if_pos (by omega)]
  ·rw [if_neg h];rw [if_neg (by omega)]
 ·have hp:=yt n;rw [e];unfold Lib.atoiAll;have h45:(45:UInt8).toNat=45:=rfl;simp only [h45,or_true,if_true,hp];by_cases h:n<18446744073709551616
  ·rw [if_pos h];simp only [not_true_eq_false,true_and,false_and,if_false];by_cases h3:9223372036854775808<n
   ·rw [if_pos h3,if_neg (by omega)]
   ·rw [if_neg h3,if_pos (by omega)]
  ·rw [if_neg h];rw [if_neg (by omega)]
theorem Oj{z:Int}{k:Nat}(hk:0<k)(h:z.natAbs<10^k):(I z).length<=k+1:=by
 rcases Ei z with⟨n,rfl,e⟩|⟨n,hn,rfl,e⟩
 ·rw [e];have:=Io hk (n:=n) (by simpa using h);omega
 ·rw [e,List.length_cons];have:=Io hk (n:=n) (by simpa using h);omega
theorem Agn{w w':World}(h:w'=w∨∃t,w'=Lib.bytesWorld w 5 t):Aa w w':=by
 rcases h with rfl|⟨t,rfl⟩
 ·exact Aa.refl _
 ·exact Ago w _
theorem aI(z:Int)(h0:-9223372036854775808<=z)(h1:z<=9223372036854775807)(w:World) :
  Calls Tryz.prog 159 #[S (I z)] w (Cy (.tuple #[.int .i64 z,.nilIface]) w):=
 (Tryz.strconv_Atoi_ok _ (by have:=Oj (z:=z) (k:=20) (by omega) (by omega);rw [AaP];omega) z (by show Lib.atoiAll (I z)=_;rw [AdT,if_pos ⟨h0,h1⟩]) w).mono fun _ _ ⟨h1,h2⟩=>⟨h1,Agn h2⟩
end Go.Proofs.YtbejphgbbpplbaaGreatDoor
namespace Go.Proofs.YtbejphgbbpplbaaGreatDoor
open Go.RowKit Kl
theorem q9(n:Nat):[45].isPrefixOf (D n)=false:=by
 match hd:D n,Ob n with
 | c::r,_=>have:=(ES n c (by rw [hd];simp)).1;simp only [List.isPrefixOf,Bool.and_true];rw [beq_eq_false_iff_ne];rintro rfl;exact absurd this (by decide)
theorem ra(l:Bs):[45].isPrefixOf (45::l)=true:=by simp [List.isPrefixOf]
theorem AoO(n:Nat):Lib.trimPrefix (D n) [45]=D n:=by unfold Lib.trimPrefix Lib.hasPrefix;rw [q9];rfl
theorem AoP(l:Bs):Lib.trimPrefix (45::l) [45]=l:=by unfold Lib.trimPrefix Lib.hasPrefix;rw [ra];rfl
theorem Abw(z:Int):Lib.trimPrefix (I z) [45]=D z.natAbs:=by
 rcases Ei z with⟨n,rfl,e⟩|⟨n,_,rfl,e⟩
 ·rw [e,AoO];simp
 ·rw [e,AoP];simp
theorem AjJ(z:Int):[45].isPrefixOf (I z)=decide (z<0):=by
 rcases Ei z with⟨n,rfl,e⟩|⟨n,_,rfl,e⟩
 ·rw [e,q9];symm;rw [decide_eq_false_iff_not];omega
 ·rw [e,ra];symm;rw [decide_eq_true_eq];omega
theorem Vu:I 0 = [48]:=by rw [show (0:Int)=((0:Nat):Int)from rfl,FM,FI (by omega)];rfl
theorem AcZ{z:Int} : I z = [48]↔z=0:=by
 constructor
 ·intro h;exact PL (by rw [h,Vu])
 ·rintro rfl;exact Vu
theorem Ss:I 1 = [49]:=by rw [show (1:Int)=((1:Nat):Int)from rfl,FM,FI (by omega)];rfl
theorem AcY{z:Int} : I z = [49]↔z=1:=by
 constructor
 ·intro h;exact PL (by rw [h,Ss])
 ·rintro rfl;exact Ss
theorem qZ{z:Int}(h:z≠0):(I z == [48])=false:=by rw [beq_eq_false_iff_ne];exact fun e=>h (AcZ.1 e)
theorem Ada{z:Int}(h:z≠1):(I z == [49])=false:=by rw [beq_eq_false_iff_ne];exact fun e=>h (AcY.1 e)
def BJ(z:Int):Prop:=z.natAbs<Big
theorem BJ.len{z:Int}(h:BJ z):(I z).length<=4001:=Oj (k:=aL) (by decide) h
def FC(z:Int):Int:=if z=0 then 0 else if z<0 then -1 else 1
theorem AnG{z:Int}(h:z=0):FC z=0:=by unfold FC;rw [if_pos h]
theorem AaH{z:Int}(h:z<0):FC z = -1:=by unfold FC;rw [if_neg (by omega),if_pos h]
theorem AaI{z:Int}(h:0<z):FC z=1:=by unfold FC;rw [if_neg (by omega),if_neg (by omega)]
theorem U1(z:Int)(w:World):Calls Tryz.prog 221 #[S (I z)] w (Av (FC z) w):=by
 by_cases h0:z=0
 ·subst h0;rw [Vu];go_enter Tryz.func221,Tryz.ntmps221;go_wp2;go_ret;exact⟨rfl,Aa.refl _⟩
 ·have h1:=qZ h0;have hp:=AjJ z;by_cases hn:z<0
  ·rw [decide_eq_true hn]at hp;go_enter Tryz.func221,Tryz.ntmps221
   go_wp2_with (go_at_call 279;refine(zW (I z) [45] _).mono ?_;rintro e w1 ⟨rfl,hx1⟩)
   go_ret;exact⟨BA (AaH hn),hx1⟩
  ·rw [decide_eq_false hn]at hp;go_enter Tryz.func221,Tryz.ntmps221
   go_wp2_with (go_at_call 279;refine(zW (I z) [45] _).mono ?_;rintro e w1 ⟨rfl,hx1⟩)
   go_ret;exact⟨BA (AaI (by omega)),hx1⟩
theorem Adb{z:Int} : (z=0→I (-z)=I z)/\(0<z→I (-z)=45::I z)/\(z<0→I z=45::I (-z)):=by
 refine⟨fun h=>by rw [h];rfl,fun h=>?_,fun h=>?_⟩
 ·rcases Ei z with⟨n,rfl,e⟩|⟨n,hn,rfl,e⟩
  ·rw [e,ZJ n (by omega)]
  ·omega
 ·rcases Ei z with⟨n,rfl,e⟩|⟨n,hn,rfl,e⟩
  ·omega
  ·rw [e,Int.neg_neg,FM]
theorem qj(z:Int)(hb:BJ z)(w:World):Calls Tryz.prog 301 #[S (I z)] w (BK (I (-z)) w):=by
 obtain⟨e0,e1,e2⟩:=Adb (z:=z)
 rcases Int.lt_trichotomy z 0 with h|h|h
 ·rw [e2 h];have hs:=U1 z;rw [AaH h,e2 h]at hs;clear e0 e1 e2;go_enter Tryz.func301,Tryz.ntmps301
  go_wp2_with (go_at_call 221;((with_reducible refine(hs _).mono ?_);rintro e w1 ⟨rfl,hx1⟩))
  go_ret;exact⟨Hh (by rw [VX];simp),hx1⟩
 ·subst h;have hs:=U1 0;rw [AnG rfl]at hs;clear e0 e1 e2;go_enter Tryz.func301,Tryz.ntmps301
  go_wp2_with (go_at_call 221;((with_reducible refine(hs _).mono ?_);rintro e w1 ⟨rfl,hx1⟩))
  go_ret;exact⟨rfl,hx1⟩
 ·rw [e1 h];have hs:=U1 z;rw [AaI h]at hs;have OV:=hb.len;clear e0 e1 e2;go_enter Tryz.func301,Tryz.ntmps301
  go_wp2_with (go_at_call 221;((with_reducible refine(hs _).mono ?_);rintro e w1 ⟨rfl,hx1⟩))
  go_ret;exact⟨Hh (by apply ByteArray.ext;simp),hx1⟩
theorem ql(z:Int)(h0:-9223372036854775808<=z)(h1:z<=9223372036854775807)(w:World)(hw:Al w):Calls Tryz.prog 224 #[.int .i64 z] w (BK (I z) w):=by
 have hi:=Rc z h0 h1 w hw;clear h0 h1;go_enter Tryz.func224,Tryz.ntmps224
 go_wp2_with (go_at_call 94;((with_reducible refine hi.mono ?_);rintro e w1 ⟨rfl,hx1⟩))
 go_ret;exact⟨rfl,hx1⟩
def UG(z:Int)(k:Nat):Value:=if (I z).length<=k then .tuple #[.int .i64 z,.bool true] else .tuple #[.int .i64 0,.bool false]
theorem Am9(z:Int)(k:Nat)(hk:k<=18)(w:World):Calls Tryz.prog 223 #[S (I z),.int .i64 (k:Nat)] w (Cy (UG z k) w):=by
 by_cases h:(I z).length<=k
 ·have hz:z.natAbs<10^18:=by
   rcases Ei z with⟨n,rfl,e⟩|⟨n,hn,rfl,e⟩
   ·rw [e]at h;simpa using K1 (n:=n) (k:=18) (by omega)
   ·rw [e,List.length_cons]at h;simpa using K1 (n:=n) (k:=18) (by omega)
  have ha:=aI z (by omega) (by omega) w;have hq:UG z k=.tuple #[.int .i64 z,.bool true]:=if_pos h;rw [hq];clear hz hq;go_enter Tryz.func223,Tryz.ntmps223
  go_wp2_with (go_at_call 159;((with_reducible refine ha.mono ?_);rintro e w1 ⟨rfl,hx1⟩))
  go_quiet (fail)
  go_wp2;go_ret2;exact⟨rfl,hx1.drewN _⟩
 ·have hq:UG z k=.tuple #[.int .i64 0,.bool false]:=if_neg h;rw [hq];have h':k<(I z).length:=(by omega);clear hq h;go_enter Tryz.func223,Tryz.ntmps223;go_wp2;go_ret2;exact⟨rfl,Aa.refl _⟩
end Go.Proofs.YtbejphgbbpplbaaGreatDoor
