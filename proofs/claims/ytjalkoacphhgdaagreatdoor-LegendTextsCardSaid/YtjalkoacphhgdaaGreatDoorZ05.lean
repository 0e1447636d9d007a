/- Z05: SortM Rat Chk Draw. -/
import Derived.Shelf.SlLaysF0
import Derived.Shelf.SlLaysF
import Derived.Test.YtjalkoacphhgdaaGreatDoorZ01
import Derived.Lib.IndexMore
namespace Go.Proofs
open Go.Shelf
def Tryz.laysSortSt_ren:Go.Shelf.Ren:=⟨fun|6=>40|15=>64|14=>95|28=>130|29=>131|20=>169|21=>170|22=>171|23=>172|24=>173|25=>174|26=>175|27=>176|46=>252|47=>203|48=>204|49=>253|50=>254|57=>302|n=>n,fun|22=>23|24=>9|25=>89|3=>3|39=>113|0=>0|53=>182|55=>184|4=>4|46=>176|45=>175|50=>156|5=>5|9=>9|66=>258|70=>262|76=>313|77=>314|n=>n,fun|n=>n⟩
theorem Tryz.laysSortSt:Go.Proofs.SlLaysF.n6 Tryz.prog Tryz.laysSortSt_ren:={
 mixed:=by kernel_rfl
 f6:=⟨Tryz.f40.name,by decide,Tryz.func40.trans (congrArg some (by kernel_rfl))⟩
 f14:=⟨Tryz.f95.name,by decide,Tryz.func95.trans (congrArg some (by kernel_rfl))⟩
 f15:=Tryz.func64.trans (congrArg some (by kernel_rfl))
 f20:=⟨Tryz.f169.name,by decide,Tryz.func169.trans (congrArg some (by kernel_rfl))⟩
 f21:=⟨Tryz.f170.name,by decide,Tryz.func170.trans (congrArg some (by kernel_rfl))⟩
 f22:=⟨Tryz.f171.name,by decide,Tryz.func171.trans (congrArg some (by kernel_rfl))⟩
 f23:=⟨Tryz.f172.name,by decide,Tryz.func172.trans (congrArg some (by kernel_rfl))⟩
 f24:=⟨Tryz.f173.name,by decide,Tryz.func173.trans (congrArg some (by kernel_rfl))⟩
 f25:=⟨Tryz.f174.name,by decide,Tryz.func174.trans (congrArg some (by kernel_rfl))⟩
 f26:=⟨Tryz.f175.name,by decide,Tryz.func175.trans (congrArg some (by kernel_rfl))⟩
 f27:=⟨Tryz.f176.name,by decide,Tryz.func176.trans (congrArg some (by kernel_rfl))⟩
 f28:=Tryz.func130.trans (congrArg some (by kernel_rfl))
 f29:=Tryz.func131.trans (congrArg some (by kernel_rfl))
 f46:=⟨Tryz.f252.name,by decide,Tryz.func252.trans (congrArg some (by kernel_rfl))⟩
 f47:=Tryz.func203.trans (congrArg some (by kernel_rfl))
 f48:=Tryz.func204.trans (congrArg some (by kernel_rfl))
 f49:=⟨Tryz.f253.name,by decide,Tryz.func253.trans (congrArg some (by kernel_rfl))⟩
 f50:=⟨Tryz.f254.name,by decide,Tryz.func254.trans (congrArg some (by kernel_rfl))⟩
 f57:=⟨Tryz.f302.name,by decide,Tryz.func302.trans (congrArg some (by kernel_rfl))⟩
 t0:=Tryz.underlying0
 a0:=Tryz.isAgg0
 z0:=Tryz.sizeOf0
 v0:=Tryz.zeroValue0
 t3:=Tryz.underlying3
 a3:=Tryz.isAgg3
 z3:=Tryz.sizeOf3
 v3:=Tryz.zeroValue3
 t4:=Tryz.underlying4
 a4:=Tryz.isAgg4
 z4:=Tryz.sizeOf4
 v4:=Tryz.zeroValue4
 t5:=Tryz.underlying5
 a5:=Tryz.isAgg5
 z5:=Tryz.sizeOf5
 v5:=Tryz.zeroValue5
 t9:=Tryz.underlying9
 a9:=Tryz.isAgg9
 z9:=Tryz.sizeOf9
 v9:=Tryz.zeroValue9
 t22:=Tryz.underlying23
 a22:=Tryz.isAgg23
 z22:=Tryz.sizeOf23
 v22:=Tryz.zeroValue23
 a24:=Tryz.isAgg9
 z24:=Tryz.sizeOf9
 t25:=Tryz.underlying89
 a25:=Tryz.isAgg89
 z25:=Tryz.sizeOf89
 v25:=Tryz.zeroValue89
 t39:=Tryz.underlying113
 a39:=Tryz.isAgg113
 z39:=Tryz.sizeOf113
 v39:=Tryz.zeroValue113
 t45:=Tryz.underlying175
 a45:=Tryz.isAgg175
 z45:=Tryz.sizeOf175
 v45:=Tryz.zeroValue175
 t46:=Tryz.underlying176
 a46:=Tryz.isAgg176
 z46:=Tryz.sizeOf176
 v46:=Tryz.zeroValue176
 t50:=Tryz.underlying156
 a50:=Tryz.isAgg156
 z50:=Tryz.sizeOf156
 v50:=Tryz.zeroValue156
 t53:=Tryz.underlying182
 a53:=Tryz.isAgg182
 z53:=Tryz.sizeOf182
 v53:=Tryz.zeroValue182
 t55:=Tryz.underlying184
 a55:=Tryz.isAgg184
 z55:=Tryz.sizeOf184
 v55:=Tryz.zeroValue184
 t66:=Tryz.underlying258
 a66:=Tryz.isAgg258
 z66:=Tryz.sizeOf258
 v66:=Tryz.zeroValue258
 t70:=Tryz.underlying262
 a70:=Tryz.isAgg262
 z70:=Tryz.sizeOf262
 v70:=Tryz.zeroValue262
 t76:=Tryz.underlying313
 a76:=Tryz.isAgg313
 z76:=Tryz.sizeOf313
 v76:=Tryz.zeroValue313
 t77:=Tryz.underlying314
 a77:=Tryz.isAgg314
 z77:=Tryz.sizeOf314
 v77:=Tryz.zeroValue314}
end Go.Proofs
namespace Kl
open Go
theorem zV:∀{l m:Bs} {c:UInt8},c∉l→Lib.indexByte (l++c::m) c=l.length
 | [],m,c,_=>by simp [Lib.indexByte]
 | b::l,m,c,h=>by rw [List.cons_append,Lib.indexByte,zV (l:=l) (fun k=>h (List.mem_cons_of_mem _ k))];have:(b == c)=false:=(by rw [beq_eq_false_iff_ne];rintro rfl;exact h (List.mem_cons_self ..));have h2:((l.length:Int) == -1)=false:=(by rw [beq_eq_false_iff_ne];omega);rw [this,h2];simp
theorem zW:∀{l:Bs} {c:UInt8},c∉l→Lib.indexByte l c = -1
 | [],c,_=>rfl
 | b::l,c,h=>by rw [Lib.indexByte,zW (l:=l) (fun k=>h (List.mem_cons_of_mem _ k))];have:(b == c)=false:=(by rw [beq_eq_false_iff_ne];rintro rfl;exact h (List.mem_cons_self ..));rw [this];simp
theorem OL{l m:Bs}(h:(47:UInt8)∉l):Lib.cut (l++47::m) [47]=(l,m,true):=by
 unfold Lib.cut;rw [Lib.index_one,zV h,if_pos (by omega)];simp
theorem YS{l:Bs}(h:(47:UInt8)∉l):Lib.cut l [47]=(l,[],false):=by
 unfold Lib.cut;rw [Lib.index_one,zW h,if_neg (by omega)]
theorem Q9{q:Rat}(h:q.den=1):R q=I q.num:=if_pos h
theorem TY{q:Rat}(h:q.den≠1):R q=I q.num++47::D q.den:=if_neg h
def EE(n:Int)(d:Nat):Bs:=if d=1 then I n else I n++47::D d
theorem Nj(q:Rat):R q=EE q.num q.den:=rfl
theorem TX(q:Rat):Lib.cut (R q) [47]=if q.den=1 then (I q.num,[],false)else (I q.num,D q.den,true):=by
 by_cases h:q.den=1
 ·rw [Q9 h,YS (Ya _),if_pos h]
 ·rw [TY h,OL (Ya _),if_neg h]
theorem Nk{p q:Rat}(h:R p=R q):p=q:=by
 have h2:=TX p;rw [h,TX q]at h2;by_cases hq:q.den=1
 ·by_cases hp:p.den=1
  ·rw [if_pos hq,if_pos hp]at h2;have:=O2 (congrArg (·.1) h2);exact Rat.ext this.symm (by rw [hp,hq])
  ·rw [if_pos hq,if_neg hp]at h2;have:=congrArg (·.2.2) h2;simp at this
 ·by_cases hp:p.den=1
  ·rw [if_neg hq,if_pos hp]at h2;have:=congrArg (·.2.2) h2;simp at this
  ·rw [if_neg hq,if_neg hp]at h2;have h1:=O2 (congrArg (·.1) h2);have h3:=TA (congrArg (·.2.1) h2);exact Rat.ext h1.symm h3.symm
theorem xt:I 0 = [48]:=by rw [show (0:Int)=((0:Nat):Int)from rfl,Eb,EZ (by omega)];rfl
theorem xr:I 1 = [49]:=by rw [show (1:Int)=((1:Nat):Int)from rfl,Eb,EZ (by omega)];rfl
theorem Ke:R 0 = [48]:=by rw [Q9 (by rfl)];exact xt
theorem TZ:R 1 = [49]:=by rw [Q9 (by rfl)];exact xr
theorem lR{q:Rat} : R q = [48]↔q=0:=⟨fun h=>Nk (by rw [h,Ke]),fun h=>by rw [h,Ke]⟩
theorem ya{q:Rat} : R q = [49]↔q=1:=⟨fun h=>Nk (by rw [h,TZ]),fun h=>by rw [h,TZ]⟩
theorem IU{q:Rat} : q.num<0↔q<0:=by
 rw [←Int.not_le,Rat.num_nonneg,Rat.not_le]
theorem fu{q:Rat} : 0<q.num↔0<q:=by
 rw [Rat.lt_iff];simp
theorem lL(z:Int):(z<0/\I z=45::I (-z))∨(0<=z/\∃c l,I z=c::l/\Fc c/\c≠45):=by
 rcases DI z with⟨n,rfl,e⟩|⟨n,hn,rfl,e⟩
 ·refine .inr ⟨by omega,?_⟩;rw [e]
  match hd:D n,L6 n with
  | c::r,_=>have:=D5 n c (by rw [hd];simp);exact⟨c,r,rfl,this,by rintro rfl;exact absurd this.1 (by decide)⟩
 ·exact .inl ⟨by omega,by rw [e,Int.neg_neg,Eb]⟩
theorem AcJ{n:Int}{d:Nat}(h:n<0):EE n d=45::EE (-n) d:=by
 rcases lL n with⟨_,e⟩|⟨h0,_⟩
 ·unfold EE;rw [e];split<;>rfl
 ·omega
theorem lS{q:Rat}(h:q<0):R q=45::R (-q):=by
 rw [Nj,Nj,Rat.neg_num,Rat.neg_den,AcJ (IU.2 h)]
theorem Yf(q:Rat):(q<0/\R q=45::R (-q))∨(0<=q/\∃c l,R q=c::l/\Fc c/\c≠45):=by
 rcases lL q.num with⟨h,_⟩|⟨h,c,l,e,h1,h2⟩
 ·exact .inl ⟨IU.1 h,lS (IU.1 h)⟩
 ·refine .inr ⟨Rat.num_nonneg.1 h,?_⟩;rw [Nj];unfold EE;rw [e]
  split
  ·exact⟨c,l,rfl,h1,h2⟩
  ·exact⟨c,_,rfl,h1,h2⟩
/-! ### Lowest terms -/
theorem ej(n:Int){d:Nat}(hd:0<d):(mkRat n d).num=n/(Nat.gcd n.natAbs d:Nat)/\(mkRat n d).den=d/Nat.gcd n.natAbs d:=by
 rw [Rat.num_mkRat,Rat.den_mkRat,if_neg (by omega),if_neg (by omega),Nat.gcd_comm];exact⟨rfl,rfl⟩
theorem Yg(n:Int){d:Nat}(hd:0<d):R (mkRat n d)=EE (n/(Nat.gcd n.natAbs d:Nat)) (d/Nat.gcd n.natAbs d):=by
 obtain⟨h1,h2⟩:=ej n hd;rw [Nj,h1,h2]
/-! ### How great a number is -/
structure Sz(k:Nat)(q:Rat):Prop where
 num:q.num.natAbs<10^k
 den:q.den<10^k
theorem Sz.mono{a b:Nat}{q:Rat}(h:Sz a q)(hab:a<=b):Sz b q:=
 have e:10^a<=10^b:=Nat.pow_le_pow_right (by omega) hab
 ⟨Nat.lt_of_lt_of_le h.num e,Nat.lt_of_lt_of_le h.den e⟩
theorem SX(n:Int)(g:Nat)(hg:(g:Int)∣n):(n/g).natAbs<=n.natAbs:=by
 obtain⟨k,rfl⟩:=hg;by_cases h:g=0
 ·subst h;simp
 ·rw [Int.mul_ediv_cancel_left _ (by omega),Int.natAbs_mul];exact Nat.le_mul_of_pos_left _ (by simp;omega)
theorem Sz.mkRat{k:Nat}{n:Int}{d:Nat}(hd:0<d)(h1:n.natAbs<10^k)(h2:d<10^k):Sz k (mkRat n d):=by
 obtain⟨e1,e2⟩:=ej n hd;refine⟨?_,?_⟩
 ·rw [e1];exact Nat.lt_of_le_of_lt (SX _ _ (Int.natAbs_dvd_natAbs.1 (by rw [Int.natAbs_natCast];exact Nat.gcd_dvd_left ..))) h1
 ·rw [e2];exact Nat.lt_of_le_of_lt (Nat.div_le_self _ _) h2
theorem Lh{x y a b:Nat}(hx:x<10^a)(hy:y<10^b):x*y<10^(a+b):=by
 rw [Nat.pow_add];exact Nat.mul_lt_mul'' hx hy
theorem mG{x y a:Nat}(hx:x<10^a)(hy:y<10^a):x+y<10^(a+1):=by
 rw [Nat.pow_succ];omega
theorem Sz.add{a b:Nat}{p q:Rat}(hp:Sz a p)(hq:Sz b q):Sz (a+b+1) (p+q):=by
 rw [Rat.add_def'];have h1:=Lh hp.num hq.den;have h2:=Lh hq.num hp.den;rw [Nat.add_comm b a]at h2;refine Sz.mkRat (Nat.mul_pos p.den_pos q.den_pos) ?_ ?_
 ·have h3:=Int.natAbs_add_le (p.num*q.den) (q.num*p.den);rw [Int.natAbs_mul,Int.natAbs_mul,Int.natAbs_natCast,Int.natAbs_natCast]at h3;exact Nat.lt_of_le_of_lt h3 (mG h1 h2)
 ·exact Nat.lt_of_lt_of_le (Lh hp.den hq.den) (Nat.pow_le_pow_right (by omega) (by omega))
theorem Sz.mul{a b:Nat}{p q:Rat}(hp:Sz a p)(hq:Sz b q):Sz (a+b) (p*q):=by
 rw [Rat.mul_def'];refine Sz.mkRat (Nat.mul_pos p.den_pos q.den_pos) ?_ (Lh hp.den hq.den);rw [Int.natAbs_mul];exact Lh hp.num hq.num
theorem Sz.neg{a:Nat}{p:Rat}(hp:Sz a p):Sz a (-p):=⟨by rw [Rat.neg_num,Int.natAbs_neg];exact hp.num,by rw [Rat.neg_den];exact hp.den⟩
theorem Sz.sub{a b:Nat}{p q:Rat}(hp:Sz a p)(hq:Sz b q):Sz (a+b+1) (p-q):=by
 rw [Rat.sub_eq_add_neg];exact hp.add hq.neg
theorem Sz.inv{a:Nat}{p:Rat}(ha:0<a)(hp:Sz a p):Sz a p⁻¹:=by
 refine⟨?_,?_⟩
 ·rw [Rat.num_inv,Int.natAbs_mul,Int.natAbs_natCast];have:p.num.sign.natAbs<=1:=by rw [Int.natAbs_sign];split<;>omega
  calc _<=1*p.den:=Nat.mul_le_mul_right _ this
   _<_:=by rw [Nat.one_mul];exact hp.den
 ·rw [Rat.den_inv]
  split
  ·exact Nat.one_lt_pow (by omega) (by omega)
  ·exact hp.num
theorem Sz.div{a b:Nat}{p q:Rat}(hb:0<b)(hp:Sz a p)(hq:Sz b q):Sz (a+b) (p/q):=by
 rw [Rat.div_def];exact hp.mul (hq.inv hb)
theorem Sz.int{k:Nat}{z:Int}(hk:0<k)(h:z.natAbs<10^k):Sz k (z:Rat):=⟨h,Nat.one_lt_pow (by omega) (by omega)⟩
end Kl
namespace Kl
open Go
def Kc(l:Bs):Prop:=∃z:Int,l=I z/\(D z.natAbs).length<=200
structure Xu(t:Bs)(mn:Bool):Prop where
 ne:t≠[]
 len:t.length<=200
 zero:∀m,t=48::m→m = []/\mn=false
 all:B9 t
theorem AfR(l:Bs):([45].isPrefixOf l=true/\∃m,l=45::m/\Lib.trimPrefix l [45]=m)∨([45].isPrefixOf l=false/\Lib.trimPrefix l [45]=l):=by
 match l with
 | []=>exact .inr ⟨rfl,rfl⟩
 | c::m=>
  by_cases h:c=45
  ·subst h;exact .inl ⟨by simp [List.isPrefixOf],m,rfl,by unfold Lib.trimPrefix Lib.hasPrefix;simp [List.isPrefixOf]⟩
  ·have:[45].isPrefixOf (c::m)=false:=by simp only [List.isPrefixOf,Bool.and_true];rw [beq_eq_false_iff_ne];exact fun e=>h e.symm
   exact .inr ⟨this,by unfold Lib.trimPrefix Lib.hasPrefix;rw [this];rfl⟩
theorem oK(l:Bs):Kc l↔Xu (Lib.trimPrefix l [45]) ([45].isPrefixOf l):=by
 rcases AfR l with⟨h1,m,rfl,h2⟩|⟨h1,h2⟩
 ·rw [h1,h2];constructor
  ·rintro⟨z,e,hl⟩
   rcases DI z with⟨n,rfl,e2⟩|⟨n,hn,rfl,e2⟩
   ·rw [e2]at e;exact absurd e.symm (Xv n m)
   ·rw [e2]at e;obtain rfl:m=D n:=(by simpa using e);have hc:=nR n;refine⟨hc.ne,by simpa using hl,fun q e3=>?_,hc.all⟩
    exfalso
    obtain⟨c,r,e4,_,h48⟩:=T9 n hn;rw [e3]at e4;simp at e4;exact h48 e4.1.symm
  ·intro h;have hc:Can m:=⟨h.ne,h.all,fun q e=>(h.zero q e).1⟩;have e:=Xw hc
   have hn:0<val m:=by
    rcases Nat.eq_zero_or_pos (val m)with h0|h0
    ·rw [h0,EZ (by omega)]at e;have:=(h.zero [] e.symm).2;simp at this
    ·exact h0
   refine⟨-(val m:Int),by rw [TU _ hn,e],?_⟩;rw [show (-(val m:Int)).natAbs=val m by omega,e];exact h.len
 ·rw [h1,h2];constructor
  ·rintro⟨z,e,hl⟩
   rcases DI z with⟨n,rfl,e2⟩|⟨n,hn,rfl,e2⟩
   ·rw [e2]at e;subst e;have hc:=nR n;exact⟨hc.ne,by simpa using hl,fun q e3=>⟨hc.head q e3,rfl⟩,hc.all⟩
   ·rw [e2]at e;subst e;simp [List.isPrefixOf]at h1
  ·intro h;have hc:Can l:=⟨h.ne,h.all,fun q e=>(h.zero q e).1⟩;have e:=Xw hc;exact⟨(val l:Int),by rw [Eb,e],by simp only [Int.natAbs_natCast];rw [e];exact h.len⟩
def BJ(l:Bs):Prop:=∃q:Rat,l=R q/\(D q.num.natAbs).length<=200/\(D q.den).length<=200
theorem Ab3(l:Bs):(∃n d,l=n++47::d/\(47:UInt8)∉n/\Lib.cut l [47]=(n,d,true))∨((47:UInt8)∉l/\Lib.cut l [47]=(l,[],false)):=by
 by_cases h:(47:UInt8)∈l
 ·obtain⟨n,d,e,hn⟩:=List.eq_append_cons_of_mem h;exact .inl ⟨n,d,e,hn,by rw [e];exact OL hn⟩
 ·exact .inr ⟨h,YS h⟩
theorem fV{n d:Bs}(hn:(47:UInt8)∉n):BJ (n++47::d)↔∃a b:Int,n=I a/\d=I b/\(D a.natAbs).length<=200/\(D b.natAbs).length<=200/\1<b/\a≠0/\Int.gcd a b=1:=by
 constructor
 ·rintro⟨q,e,h1,h2⟩;have hc:=TX q;rw [←e,OL hn]at hc;by_cases hd:q.den=1
  ·rw [if_pos hd]at hc;simp at hc
  ·rw [if_neg hd]at hc;simp only [Prod.mk.injEq,and_true]at hc;refine⟨q.num,q.den,hc.1,by rw [hc.2,Eb],h1,by simpa using h2,by have:=q.den_pos;omega,fun h0=>?_,?_⟩
   ·have:=q.reduced;rw [h0]at this;simp at this;exact hd this
   ·have:=q.reduced;unfold Nat.Coprime at this;unfold Int.gcd;rw [Int.natAbs_natCast];exact this
 ·rintro⟨a,b,rfl,rfl,h1,h2,hb,ha,hg⟩;obtain⟨b,rfl⟩:=Int.eq_ofNat_of_zero_le (show 0<=b by omega);unfold Int.gcd at hg;rw [Int.natAbs_natCast]at hg h2;refine⟨⟨a,b,by omega,hg⟩,?_,h1,h2⟩;rw [TY (by show b≠1;omega),Eb]
theorem Ah6{l:Bs}(hn:(47:UInt8)∉l):BJ l↔Kc l:=by
 constructor
 ·rintro⟨q,e,h1,h2⟩;by_cases hd:q.den=1
  ·exact⟨q.num,by rw [e,Q9 hd],h1⟩
  ·rw [e,TY hd]at hn;simp at hn
 ·rintro⟨z,rfl,h⟩;exact⟨(z:Rat),(yb z).symm,h,by show (D 1).length<=200;rw [EZ (by omega)];simp⟩
end Kl
namespace Kl
structure Pt where
 x:Rat
 y:Rat
structure Sg where
 a:Pt
 b:Pt
structure Cv where
 low:Pt
 high:Pt
 W:Nat
 H:Nat
structure Cv.Ok(c:Cv):Prop where
 x:c.low.x<c.high.x
 y:c.low.y<c.high.y
 w1:1<=c.W
 w2:c.W<=2000
 h1:1<=c.H
 h2:c.H<=2000
def ny(a b k:Rat):Rat:=a+k*(b-a)
def ew(part whole:Rat)(size:Nat):Int:=(part*(size:Rat)/whole+1/2).floor
def QQ(c:Cv)(p:Pt):Int:=ew (p.x-c.low.x) (c.high.x-c.low.x) c.W
def To(c:Cv)(p:Pt):Int:=ew (c.high.y-p.y) (c.high.y-c.low.y) c.H
def atR(s:Sg)(k:Rat):Pt:=⟨ny s.a.x s.b.x k,ny s.a.y s.b.y k⟩
def AgG(a b:Rat):Rat:=if a<b then b else a
def AgI(a b:Rat):Rat:=if b<a then b else a
def Cf(fr way:Rat):Option (Rat×Rat)→Option (Rat×Rat)
 | none=>none
 | some (l,h)=>if way=0 then (if 0<=fr then some (l,h)else none)else if 0 < way then some (AgG l (-fr / way),h)else some (l,AgI h (-fr / way))
/-! ### Pixels -/
/-! ### Neighbours -/
end Kl
