/- Z03: SortL T9A Rat Chk RQ RQ2. -/
import Derived.Shelf.SlLaysF0
import Derived.Test.YtdaefncphfeaeaaGreatDoorRows
import Derived.ProofKit
import Derived.Test.YtdaefncphfeaeaaGreatDoorZ01
import Derived.Lib.IndexMore
set_option maxRecDepth 100000
set_option maxHeartbeats 4000000
namespace Go.Proofs
open Go.Shelf
def Tryz.laysSortSg_ren:Go.Shelf.Ren:=⟨fun|6=>241|15=>89|14=>270|28=>174|29=>175|20=>284|21=>285|22=>286|23=>287|24=>288|25=>289|26=>290|27=>291|46=>296|47=>230|48=>231|49=>297|50=>298|57=>299|n=>n,fun|22=>190|24=>183|25=>248|3=>3|39=>150|0=>0|53=>228|55=>230|4=>4|46=>221|45=>220|50=>159|5=>5|9=>9|66=>279|70=>283|76=>298|77=>299|n=>n,fun|n=>n⟩
theorem Tryz.laysSortSg:Go.Proofs.SlLaysF0.n6 Tryz.prog Tryz.laysSortSg_ren:={
 mixed:=by kernel_rfl
 f6:=⟨Tryz.f241.name,by decide,Tryz.func241.trans (congrArg some (by kernel_rfl))⟩
 f14:=⟨Tryz.f270.name,by decide,Tryz.func270.trans (congrArg some (by kernel_rfl))⟩
 f15:=Tryz.func89.trans (congrArg some (by kernel_rfl))
 f20:=⟨Tryz.f284.name,by decide,Tryz.func284.trans (congrArg some (by kernel_rfl))⟩
 f21:=⟨Tryz.f285.name,by decide,Tryz.func285.trans (congrArg some (by kernel_rfl))⟩
 f22:=⟨Tryz.f286.name,by decide,Tryz.func286.trans (congrArg some (by kernel_rfl))⟩
 f23:=⟨Tryz.f287.name,by decide,Tryz.func287.trans (congrArg some (by kernel_rfl))⟩
 f24:=⟨Tryz.f288.name,by decide,Tryz.func288.trans (congrArg some (by kernel_rfl))⟩
 f25:=⟨Tryz.f289.name,by decide,Tryz.func289.trans (congrArg some (by kernel_rfl))⟩
 f26:=⟨Tryz.f290.name,by decide,Tryz.func290.trans (congrArg some (by kernel_rfl))⟩
 f27:=⟨Tryz.f291.name,by decide,Tryz.func291.trans (congrArg some (by kernel_rfl))⟩
 f28:=Tryz.func174.trans (congrArg some (by kernel_rfl))
 f29:=Tryz.func175.trans (congrArg some (by kernel_rfl))
 f46:=⟨Tryz.f296.name,by decide,Tryz.func296.trans (congrArg some (by kernel_rfl))⟩
 f47:=Tryz.func230.trans (congrArg some (by kernel_rfl))
 f48:=Tryz.func231.trans (congrArg some (by kernel_rfl))
 f49:=⟨Tryz.f297.name,by decide,Tryz.func297.trans (congrArg some (by kernel_rfl))⟩
 f50:=⟨Tryz.f298.name,by decide,Tryz.func298.trans (congrArg some (by kernel_rfl))⟩
 f57:=⟨Tryz.f299.name,by decide,Tryz.func299.trans (congrArg some (by kernel_rfl))⟩
 t0:=Tryz.underlying0
 a0:=Tryz.isAgg0
 z0:=Tryz.sizeOf0
 v0:=Tryz.zeroValue0
 t3:=Tryz.underlying3
 a3:=Tryz.isAgg3
 z3:=Tryz.sizeOf3
 v3:=Tryz.zeroValue3
 t4:=Tryz.underlying4
 a4:=Tryz.isAgg4
 z4:=Tryz.sizeOf4
 v4:=Tryz.zeroValue4
 t5:=Tryz.underlying5
 a5:=Tryz.isAgg5
 z5:=Tryz.sizeOf5
 v5:=Tryz.zeroValue5
 t9:=Tryz.underlying9
 a9:=Tryz.isAgg9
 z9:=Tryz.sizeOf9
 v9:=Tryz.zeroValue9
 t22:=Tryz.underlying190
 a22:=Tryz.isAgg190
 z22:=Tryz.sizeOf190
 v22:=Tryz.zeroValue190
 t25:=Tryz.underlying248
 a25:=Tryz.isAgg248
 z25:=Tryz.sizeOf248
 v25:=Tryz.zeroValue248
 t39:=Tryz.underlying150
 a39:=Tryz.isAgg150
 z39:=Tryz.sizeOf150
 v39:=Tryz.zeroValue150
 t45:=Tryz.underlying220
 a45:=Tryz.isAgg220
 z45:=Tryz.sizeOf220
 v45:=Tryz.zeroValue220
 t46:=Tryz.underlying221
 a46:=Tryz.isAgg221
 z46:=Tryz.sizeOf221
 v46:=Tryz.zeroValue221
 t50:=Tryz.underlying159
 a50:=Tryz.isAgg159
 z50:=Tryz.sizeOf159
 v50:=Tryz.zeroValue159
 t53:=Tryz.underlying228
 a53:=Tryz.isAgg228
 z53:=Tryz.sizeOf228
 v53:=Tryz.zeroValue228
 t55:=Tryz.underlying230
 a55:=Tryz.isAgg230
 z55:=Tryz.sizeOf230
 v55:=Tryz.zeroValue230
 t66:=Tryz.underlying279
 a66:=Tryz.isAgg279
 z66:=Tryz.sizeOf279
 v66:=Tryz.zeroValue279
 t70:=Tryz.underlying283
 a70:=Tryz.isAgg283
 z70:=Tryz.sizeOf283
 v70:=Tryz.zeroValue283
 t76:=Tryz.underlying298
 a76:=Tryz.isAgg298
 z76:=Tryz.sizeOf298
 v76:=Tryz.zeroValue298
 t77:=Tryz.underlying299
 a77:=Tryz.isAgg299
 z77:=Tryz.sizeOf299
 v77:=Tryz.zeroValue299}
def Tryz.laysSortPt_ren:Go.Shelf.Ren:=⟨fun|6=>192|15=>89|14=>239|28=>174|29=>175|20=>261|21=>262|22=>263|23=>264|24=>265|25=>266|26=>267|27=>268|46=>281|47=>230|48=>231|49=>282|50=>283|57=>295|n=>n,fun|22=>39|24=>35|25=>152|3=>3|39=>150|0=>0|53=>228|55=>230|4=>4|46=>221|45=>220|50=>159|5=>5|9=>9|66=>279|70=>283|76=>298|77=>299|n=>n,fun|n=>n⟩
theorem Tryz.laysSortPt:Go.Proofs.SlLaysF0.n6 Tryz.prog Tryz.laysSortPt_ren:={
 mixed:=by kernel_rfl
 f6:=⟨Tryz.f192.name,by decide,Tryz.func192.trans (congrArg some (by kernel_rfl))⟩
 f14:=⟨Tryz.f239.name,by decide,Tryz.func239.trans (congrArg some (by kernel_rfl))⟩
 f15:=Tryz.func89.trans (congrArg some (by kernel_rfl))
 f20:=⟨Tryz.f261.name,by decide,Tryz.func261.trans (congrArg some (by kernel_rfl))⟩
 f21:=⟨Tryz.f262.name,by decide,Tryz.func262.trans (congrArg some (by kernel_rfl))⟩
 f22:=⟨Tryz.f263.name,by decide,Tryz.func263.trans (congrArg some (by kernel_rfl))⟩
 f23:=⟨Tryz.f264.name,by decide,Tryz.func264.trans (congrArg some (by kernel_rfl))⟩
 f24:=⟨Tryz.f265.name,by decide,Tryz.func265.trans (congrArg some (by kernel_rfl))⟩
 f25:=⟨Tryz.f266.name,by decide,Tryz.func266.trans (congrArg some (by kernel_rfl))⟩
 f26:=⟨Tryz.f267.name,by decide,Tryz.func267.trans (congrArg some (by kernel_rfl))⟩
 f27:=⟨Tryz.f268.name,by decide,Tryz.func268.trans (congrArg some (by kernel_rfl))⟩
 f28:=Tryz.func174.trans (congrArg some (by kernel_rfl))
 f29:=Tryz.func175.trans (congrArg some (by kernel_rfl))
 f46:=⟨Tryz.f281.name,by decide,Tryz.func281.trans (congrArg some (by kernel_rfl))⟩
 f47:=Tryz.func230.trans (congrArg some (by kernel_rfl))
 f48:=Tryz.func231.trans (congrArg some (by kernel_rfl))
 f49:=⟨Tryz.f282.name,by decide,Tryz.func282.trans (congrArg some (by kernel_rfl))⟩
 f50:=⟨Tryz.f283.name,by decide,Tryz.func283.trans (congrArg some (by kernel_rfl))⟩
 f57:=⟨Tryz.f295.name,by decide,Tryz.func295.trans (congrArg some (by kernel_rfl))⟩
 t0:=Tryz.underlying0
 a0:=Tryz.isAgg0
 z0:=Tryz.sizeOf0
 v0:=Tryz.zeroValue0
 t3:=Tryz.underlying3
 a3:=Tryz.isAgg3
 z3:=Tryz.sizeOf3
 v3:=Tryz.zeroValue3
 t4:=Tryz.underlying4
 a4:=Tryz.isAgg4
 z4:=Tryz.sizeOf4
 v4:=Tryz.zeroValue4
 t5:=Tryz.underlying5
 a5:=Tryz.isAgg5
 z5:=Tryz.sizeOf5
 v5:=Tryz.zeroValue5
 t9:=Tryz.underlying9
 a9:=Tryz.isAgg9
 z9:=Tryz.sizeOf9
 v9:=Tryz.zeroValue9
 t22:=Tryz.underlying39
 a22:=Tryz.isAgg39
 z22:=Tryz.sizeOf39
 v22:=Tryz.zeroValue39
 t25:=Tryz.underlying152
 a25:=Tryz.isAgg152
 z25:=Tryz.sizeOf152
 v25:=Tryz.zeroValue152
 t39:=Tryz.underlying150
 a39:=Tryz.isAgg150
 z39:=Tryz.sizeOf150
 v39:=Tryz.zeroValue150
 t45:=Tryz.underlying220
 a45:=Tryz.isAgg220
 z45:=Tryz.sizeOf220
 v45:=Tryz.zeroValue220
 t46:=Tryz.underlying221
 a46:=Tryz.isAgg221
 z46:=Tryz.sizeOf221
 v46:=Tryz.zeroValue221
 t50:=Tryz.underlying159
 a50:=Tryz.isAgg159
 z50:=Tryz.sizeOf159
 v50:=Tryz.zeroValue159
 t53:=Tryz.underlying228
 a53:=Tryz.isAgg228
 z53:=Tryz.sizeOf228
 v53:=Tryz.zeroValue228
 t55:=Tryz.underlying230
 a55:=Tryz.isAgg230
 z55:=Tryz.sizeOf230
 v55:=Tryz.zeroValue230
 t66:=Tryz.underlying279
 a66:=Tryz.isAgg279
 z66:=Tryz.sizeOf279
 v66:=Tryz.zeroValue279
 t70:=Tryz.underlying283
 a70:=Tryz.isAgg283
 z70:=Tryz.sizeOf283
 v70:=Tryz.zeroValue283
 t76:=Tryz.underlying298
 a76:=Tryz.isAgg298
 z76:=Tryz.sizeOf298
 v76:=Tryz.zeroValue298
 t77:=Tryz.underlying299
 a77:=Tryz.isAgg299
 z77:=Tryz.sizeOf299
 v77:=Tryz.zeroValue299}
end Go.Proofs
namespace Go.Proofs.YtdaefncphfeaeaaGreatDoor
theorem Agg:joinedFacts Tryz.checked.prog 4 Tryz.f4 Rows.drawingEdgesSpec Rows.drawingEdgesRow=true:=by kernel_rfl
end Go.Proofs.YtdaefncphfeaeaaGreatDoor
namespace Kl
open Go
theorem mF:∀{l m:Bs} {c:UInt8},c∉l→Lib.indexByte (l++c::m) c=l.length
 | [],m,c,_=>by simp [Lib.indexByte]
 | b::l,m,c,h=>by rw [List.cons_append,Lib.indexByte,mF (l:=l) (fun k=>h (List.mem_cons_of_mem _ k))];have:(b == c)=false:=(by rw [beq_eq_false_iff_ne];rintro rfl;exact h (List.mem_cons_self ..));have h2:((l.length:Int) == -1)=false:=(by rw [beq_eq_false_iff_ne];omega);rw [this,h2];simp
theorem mG:∀{l:Bs} {c:UInt8},c∉l→Lib.indexByte l c = -1
 | [],c,_=>rfl
 | b::l,c,h=>by rw [Lib.indexByte,mG (l:=l) (fun k=>h (List.mem_cons_of_mem _ k))];have:(b == c)=false:=(by rw [beq_eq_false_iff_ne];rintro rfl;exact h (List.mem_cons_self ..));rw [this];simp
theorem Qw{l m:Bs}(h:(47:UInt8)∉l):Lib.cut (l++47::m) [47]=(l,m,true):=by
 unfold Lib.cut;rw [Lib.index_one,mF h,if_pos (by omega)];simp
theorem dX{l:Bs}(h:(47:UInt8)∉l):Lib.cut l [47]=(l,[],false):=by
 unfold Lib.cut;rw [Lib.index_one,mG h,if_neg (by omega)]
theorem MR{q:Rat}(h:q.den=1):R q=I q.num:=if_pos h
theorem O1{q:Rat}(h:q.den≠1):R q=I q.num++47::D q.den:=if_neg h
def EQ(n:Int)(d:Nat):Bs:=if d=1 then I n else I n++47::D d
theorem LC(q:Rat):R q=EQ q.num q.den:=rfl
theorem Wo(q:Rat):Lib.cut (R q) [47]=if q.den=1 then (I q.num,[],false)else (I q.num,D q.den,true):=by
 by_cases h:q.den=1
 ·rw [MR h,dX (S0 _),if_pos h]
 ·rw [O1 h,Qw (S0 _),if_neg h]
theorem JH{p q:Rat}(h:R p=R q):p=q:=by
 have h2:=Wo p;rw [h,Wo q]at h2;by_cases hq:q.den=1
 ·by_cases hp:p.den=1
  ·rw [if_pos hq,if_pos hp]at h2;have:=Qa (congrArg (·.1) h2);exact Rat.ext this.symm (by rw [hp,hq])
  ·rw [if_pos hq,if_neg hp]at h2;have:=congrArg (·.2.2) h2;simp at this
 ·by_cases hp:p.den=1
  ·rw [if_neg hq,if_pos hp]at h2;have:=congrArg (·.2.2) h2;simp at this
  ·rw [if_neg hq,if_neg hp]at h2;have h1:=Qa (congrArg (·.1) h2);have h3:=Ot (congrArg (·.2.1) h2);exact Rat.ext h1.symm h3.symm
theorem Ad7:I 0 = [48]:=by rw [show (0:Int)=((0:Nat):Int)from rfl,Ci,Ew (by omega)];rfl
theorem Wm:I 1 = [49]:=by rw [show (1:Int)=((1:Nat):Int)from rfl,Ci,Ew (by omega)];rfl
theorem G7:R 0 = [48]:=by rw [MR (by rfl)];exact Ad7
theorem S3:R 1 = [49]:=by rw [MR (by rfl)];exact Wm
theorem AdK{q:Rat} : R q = [48]↔q=0:=⟨fun h=>JH (by rw [h,G7]),fun h=>by rw [h,G7]⟩
theorem AdJ{q:Rat} : R q = [49]↔q=1:=⟨fun h=>JH (by rw [h,S3]),fun h=>by rw [h,S3]⟩
theorem AdL(q:Rat):R q≠[]:=by
 rw [LC];unfold EQ;split
 ·exact Ad5 _
 ·simp
theorem IK{q:Rat} : q.num<0↔q<0:=by
 rw [←Int.not_le,Rat.num_nonneg,Rat.not_le]
theorem Zq{q:Rat} : 0<q.num↔0<q:=by
 rw [Rat.lt_iff];simp
theorem rP(z:Int):(z<0/\I z=45::I (-z))∨(0<=z/\∃c l,I z=c::l/\G4 c/\c≠45):=by
 rcases Ed z with⟨n,rfl,e⟩|⟨n,hn,rfl,e⟩
 ·refine .inr ⟨by omega,?_⟩;rw [e]
  match hd:D n,IX n with
  | c::r,_=>have:=C7 n c (by rw [hd];simp);exact⟨c,r,rfl,this,by rintro rfl;exact absurd this.1 (by decide)⟩
 ·exact .inl ⟨by omega,by rw [e,Int.neg_neg,Ci]⟩
theorem AgO{n:Int}{d:Nat}(h:n<0):EQ n d=45::EQ (-n) d:=by
 rcases rP n with⟨_,e⟩|⟨h0,_⟩
 ·unfold EQ;rw [e];split<;>rfl
 ·omega
theorem cK{q:Rat}(h:q<0):R q=45::R (-q):=by
 rw [LC,LC,Rat.neg_num,Rat.neg_den,AgO (IK.2 h)]
theorem Wq(q:Rat):(q<0/\R q=45::R (-q))∨(0<=q/\∃c l,R q=c::l/\G4 c/\c≠45):=by
 rcases rP q.num with⟨h,_⟩|⟨h,c,l,e,h1,h2⟩
 ·exact .inl ⟨IK.1 h,cK (IK.1 h)⟩
 ·refine .inr ⟨Rat.num_nonneg.1 h,?_⟩;rw [LC];unfold EQ;rw [e]
  split
  ·exact⟨c,l,rfl,h1,h2⟩
  ·exact⟨c,_,rfl,h1,h2⟩
/-! ### Lowest terms -/
theorem xo(n:Int){d:Nat}(hd:0<d):(mkRat n d).num=n/(Nat.gcd n.natAbs d:Nat)/\(mkRat n d).den=d/Nat.gcd n.natAbs d:=by
 rw [Rat.num_mkRat,Rat.den_mkRat,if_neg (by omega),if_neg (by omega),Nat.gcd_comm];exact⟨rfl,rfl⟩
theorem Qe(n:Int){d:Nat}(hd:0<d):R (mkRat n d)=EQ (n/(Nat.gcd n.natAbs d:Nat)) (d/Nat.gcd n.natAbs d):=by
 obtain⟨h1,h2⟩:=xo n hd;rw [LC,h1,h2]
theorem rW(n:Int){d:Nat}(hd:0<d)(h:Nat.gcd n.natAbs d=1):R (mkRat n d)=EQ n d:=by
 rw [Qe n hd,h];simp
/-! ### How great a number is -/
structure Sz(k:Nat)(q:Rat):Prop where
 num:q.num.natAbs<10^k
 den:q.den<10^k
theorem Aal(k:Nat):0<10^k:=Nat.pow_pos (by omega)
theorem Sz.mono{a b:Nat}{q:Rat}(h:Sz a q)(hab:a<=b):Sz b q:=
 have e:10^a<=10^b:=Nat.pow_le_pow_right (by omega) hab
 ⟨Nat.lt_of_lt_of_le h.num e,Nat.lt_of_lt_of_le h.den e⟩
theorem P8(n:Int)(g:Nat)(hg:(g:Int)∣n):(n/g).natAbs<=n.natAbs:=by
 obtain⟨k,rfl⟩:=hg;by_cases h:g=0
 ·subst h;simp
 ·rw [Int.mul_ediv_cancel_left _ (by omega),Int.natAbs_mul];exact Nat.le_mul_of_pos_left _ (by simp;omega)
theorem Sz.mkRat{k:Nat}{n:Int}{d:Nat}(hd:0<d)(h1:n.natAbs<10^k)(h2:d<10^k):Sz k (mkRat n d):=by
 obtain⟨e1,e2⟩:=xo n hd;refine⟨?_,?_⟩
 ·rw [e1];exact Nat.lt_of_le_of_lt (P8 _ _ (Int.natAbs_dvd_natAbs.1 (by rw [Int.natAbs_natCast];exact Nat.gcd_dvd_left ..))) h1
 ·rw [e2];exact Nat.lt_of_le_of_lt (Nat.div_le_self _ _) h2
theorem J2{x y a b:Nat}(hx:x<10^a)(hy:y<10^b):x*y<10^(a+b):=by
 rw [Nat.pow_add];exact Nat.mul_lt_mul'' hx hy
theorem WA{x y a:Nat}(hx:x<10^a)(hy:y<10^a):x+y<10^(a+1):=by
 rw [Nat.pow_succ];omega
theorem Sz.add{a b:Nat}{p q:Rat}(hp:Sz a p)(hq:Sz b q):Sz (a+b+1) (p+q):=by
 rw [Rat.add_def'];have h1:=J2 hp.num hq.den;have h2:=J2 hq.num hp.den;rw [Nat.add_comm b a]at h2;refine Sz.mkRat (Nat.mul_pos p.den_pos q.den_pos) ?_ ?_
 ·have h3:=Int.natAbs_add_le (p.num*q.den) (q.num*p.den);rw [Int.natAbs_mul,Int.natAbs_mul,Int.natAbs_natCast,Int.natAbs_natCast]at h3;exact Nat.lt_of_le_of_lt h3 (WA h1 h2)
 ·exact Nat.lt_of_lt_of_le (J2 hp.den hq.den) (Nat.pow_le_pow_right (by omega) (by omega))
theorem Sz.mul{a b:Nat}{p q:Rat}(hp:Sz a p)(hq:Sz b q):Sz (a+b) (p*q):=by
 rw [Rat.mul_def'];refine Sz.mkRat (Nat.mul_pos p.den_pos q.den_pos) ?_ (J2 hp.den hq.den);rw [Int.natAbs_mul];exact J2 hp.num hq.num
theorem Sz.neg{a:Nat}{p:Rat}(hp:Sz a p):Sz a (-p):=⟨by rw [Rat.neg_num,Int.natAbs_neg];exact hp.num,by rw [Rat.neg_den];exact hp.den⟩
theorem Sz.sub{a b:Nat}{p q:Rat}(hp:Sz a p)(hq:Sz b q):Sz (a+b+1) (p-q):=by
 rw [Rat.sub_eq_add_neg];exact hp.add hq.neg
theorem Sz.inv{a:Nat}{p:Rat}(ha:0<a)(hp:Sz a p):Sz a p⁻¹:=by
 refine⟨?_,?_⟩
 ·rw [Rat.num_inv,Int.natAbs_mul,Int.natAbs_natCast];have:p.num.sign.natAbs<=1:=by rw [Int.natAbs_sign];split<;>omega
  calc _<=1*p.den:=Nat.mul_le_mul_right _ this
   _<_:=by rw [Nat.one_mul];exact hp.den
 ·rw [Rat.den_inv]
  split
  ·exact Nat.one_lt_pow (by omega) (by omega)
  ·exact hp.num
theorem Sz.div{a b:Nat}{p q:Rat}(hb:0<b)(hp:Sz a p)(hq:Sz b q):Sz (a+b) (p/q):=by
 rw [Rat.div_def];exact hp.mul (hq.inv hb)
theorem Sz.int{k:Nat}{z:Int}(hk:0<k)(h:z.natAbs<10^k):Sz k (z:Rat):=⟨h,Nat.one_lt_pow (by omega) (by omega)⟩
end Kl
namespace Kl
open Go
def LA(l:Bs):Prop:=∃z:Int,l=I z/\(D z.natAbs).length<=200
structure aN(t:Bs)(mn:Bool):Prop where
 ne:t≠[]
 len:t.length<=200
 zero:∀m,t=48::m→m = []/\mn=false
 all:BP t
theorem Akq(l:Bs):([45].isPrefixOf l=true/\∃m,l=45::m/\Lib.trimPrefix l [45]=m)∨([45].isPrefixOf l=false/\Lib.trimPrefix l [45]=l):=by
 match l with
 | []=>exact .inr ⟨rfl,rfl⟩
 | c::m=>
  by_cases h:c=45
  ·subst h;exact .inl ⟨by simp [List.isPrefixOf],m,rfl,by unfold Lib.trimPrefix Lib.hasPrefix;simp [List.isPrefixOf]⟩
  ·have:[45].isPrefixOf (c::m)=false:=by simp only [List.isPrefixOf,Bool.and_true];rw [beq_eq_false_iff_ne];exact fun e=>h e.symm
   exact .inr ⟨this,by unfold Lib.trimPrefix Lib.hasPrefix;rw [this];rfl⟩
theorem uJ(l:Bs):LA l↔aN (Lib.trimPrefix l [45]) ([45].isPrefixOf l):=by
 rcases Akq l with⟨h1,m,rfl,h2⟩|⟨h1,h2⟩
 ·rw [h1,h2];constructor
  ·rintro⟨z,e,hl⟩
   rcases Ed z with⟨n,rfl,e2⟩|⟨n,hn,rfl,e2⟩
   ·rw [e2]at e;exact absurd e.symm (aO n m)
   ·rw [e2]at e;obtain rfl:m=D n:=(by simpa using e);have hc:=tX n;refine⟨hc.ne,by simpa using hl,fun q e3=>?_,hc.all⟩
    exfalso
    obtain⟨c,r,e4,_,h48⟩:=VN n hn;rw [e3]at e4;simp at e4;exact h48 e4.1.symm
  ·intro h;have hc:Can m:=⟨h.ne,h.all,fun q e=>(h.zero q e).1⟩;have e:=aQ hc
   have hn:0<val m:=by
    rcases Nat.eq_zero_or_pos (val m)with h0|h0
    ·rw [h0,Ew (by omega)]at e;have:=(h.zero [] e.symm).2;simp at this
    ·exact h0
   refine⟨-(val m:Int),by rw [Qb _ hn,e],?_⟩;rw [show (-(val m:Int)).natAbs=val m by omega,e];exact h.len
 ·rw [h1,h2];constructor
  ·rintro⟨z,e,hl⟩
   rcases Ed z with⟨n,rfl,e2⟩|⟨n,hn,rfl,e2⟩
   ·rw [e2]at e;subst e;have hc:=tX n;exact⟨hc.ne,by simpa using hl,fun q e3=>⟨hc.head q e3,rfl⟩,hc.all⟩
   ·rw [e2]at e;subst e;simp [List.isPrefixOf]at h1
  ·intro h;have hc:Can l:=⟨h.ne,h.all,fun q e=>(h.zero q e).1⟩;have e:=aQ hc;exact⟨(val l:Int),by rw [Ci,e],by simp only [Int.natAbs_natCast];rw [e];exact h.len⟩
def EK(l:Bs):Prop:=∃q:Rat,l=R q/\(D q.num.natAbs).length<=200/\(D q.den).length<=200
theorem Af6(l:Bs):(∃n d,l=n++47::d/\(47:UInt8)∉n/\Lib.cut l [47]=(n,d,true))∨((47:UInt8)∉l/\Lib.cut l [47]=(l,[],false)):=by
 by_cases h:(47:UInt8)∈l
 ·obtain⟨n,d,e,hn⟩:=List.eq_append_cons_of_mem h;exact .inl ⟨n,d,e,hn,by rw [e];exact Qw hn⟩
 ·exact .inr ⟨h,dX h⟩
theorem nC{n d:Bs}(hn:(47:UInt8)∉n):EK (n++47::d)↔∃a b:Int,n=I a/\d=I b/\(D a.natAbs).length<=200/\(D b.natAbs).length<=200/\1<b/\a≠0/\Int.gcd a b=1:=by
 constructor
 ·rintro⟨q,e,h1,h2⟩;have hc:=Wo q;rw [←e,Qw hn]at hc;by_cases hd:q.den=1
  ·rw [if_pos hd]at hc;simp at hc
  ·rw [if_neg hd]at hc;simp only [Prod.mk.injEq,and_true]at hc;refine⟨q.num,q.den,hc.1,by rw [hc.2,Ci],h1,by simpa using h2,by have:=q.den_pos;omega,fun h0=>?_,?_⟩
   ·have:=q.reduced;rw [h0]at this;simp at this;exact hd this
   ·have:=q.reduced;unfold Nat.Coprime at this;unfold Int.gcd;rw [Int.natAbs_natCast];exact this
 ·rintro⟨a,b,rfl,rfl,h1,h2,hb,ha,hg⟩;obtain⟨b,rfl⟩:=Int.eq_ofNat_of_zero_le (show 0<=b by omega);unfold Int.gcd at hg;rw [Int.natAbs_natCast]at hg h2;refine⟨⟨a,b,by omega,hg⟩,?_,h1,h2⟩;rw [O1 (by show b≠1;omega),Ci]
theorem Al5{l:Bs}(hn:(47:UInt8)∉l):EK l↔LA l:=by
 constructor
 ·rintro⟨q,e,h1,h2⟩;by_cases hd:q.den=1
  ·exact⟨q.num,by rw [e,MR hd],h1⟩
  ·rw [e,O1 hd]at hn;simp at hn
 ·rintro⟨z,rfl,h⟩;exact⟨(z:Rat),(Wr z).symm,h,by show (D 1).length<=200;rw [Ew (by omega)];simp⟩
end Kl
namespace Go.Proofs.YtdaefncphfeaeaaGreatDoor
open Go.RowKit Kl
def RB(q:Rat):Value:=if (D q.num.natAbs).length<=9/\(D q.den).length<=9 then .tuple #[.int .i64 q.num,.int .i64 q.den,.bool true] else .tuple #[.int .i64 0,.int .i64 0,.bool false]
structure Seg(s:ByteArray)(b:Nat)(m:Bs):Prop where
 le:b+m.length<=s.size
 all:BP m
 at_:∀(j:Nat) (h:j<s.size),b<=j→j<b+m.length→s[j]=m.getD (j-b) 0
theorem Seg.digit{s:ByteArray}{b:Nat}{m:Bs}(h:Seg s b m){j:Nat}(hj:j<s.size)(h1:b<=j)(h2:j<b+m.length) :
  ∃c:UInt8,s[j]=c/\G4 c/\val (m.take (j+1-b))=val (m.take (j-b))*10+(c.toNat-48):=by
 have e:=h.at_ j hj h1 h2;have hl:j-b<m.length:=(by omega);refine⟨m[j-b],?_,h.all _ (Asg hl),?_⟩
 ·rw [e];simp [List.getD,hl]
 ·rw [show j+1-b=j-b+1 by omega,Asi hl,VJ];rfl
theorem AbI{m:Bs}(h:BP m){k:Nat} : val (m.take k)<10^k:=by
 have h1:=GU (SE h k);have h2:10^(m.take k).length<=10^k:=Nat.pow_le_pow_right (by omega) (by rw [List.length_take];omega);omega
theorem Seg.digit'{s:ByteArray}{b:Nat}{m:Bs}(h:Seg s b m){j:Nat}(h1:b<=j)(h2:j<b+m.length)(h9:j<b+9) :
  ∃(c:UInt8) (v:Nat) (hj:j<s.size),s[j]=c/\(48:Int)<=(c.toNat:Int)/\(c.toNat:Int)<=57/\((c.toNat:Int) != 47)=true/\v=val (m.take (j-b))/\(v:Int)<=99999999/\
   ((val (m.take (j+1-b)):Nat):Int)=10*(v:Int)+((c.toNat:Int)-48):=by
 have hj:j<s.size:=(by have:=h.le;omega);obtain⟨c,e1,d,e2⟩:=h.digit hj h1 h2;have hv:=AbI h.all (k:=j-b);have h8:10^(j-b)<=10^8:=Nat.pow_le_pow_right (by omega) (by omega);have h10:(10:Nat)^8=100000000:=(by decide);have:=d.1;have:=d.2;refine⟨c,_,hj,e1,by omega,by omega,?_,rfl,by omega,by rw [e2];omega⟩;rw [bne_iff_ne];omega
def FX(sg:Bool)(m m2:Bs):Value:=if m.length<=9/\m2.length<=9 then .tuple #[.int .i64 (if sg then -(val m:Int)else (val m:Int)),.int .i64 (val m2:Nat),.bool true] else .tuple #[.int .i64 0,.int .i64 0,.bool false]
theorem RE{sg:Bool}{m m2:Bs}(h:9<m.length∨9<m2.length):FX sg m m2=.tuple #[.int .i64 0,.int .i64 0,.bool false]:=if_neg (by omega)
theorem ZF{sg:Bool}{m m2:Bs}(h:m.length<=9)(h2:m2.length<=9):FX sg m m2=.tuple #[.int .i64 (if sg then -(val m:Int)else (val m:Int)),.int .i64 (val m2:Nat),.bool true]:=if_pos ⟨h,h2⟩
theorem J6{a b:Value}(h:b=a):Ending.returned a=.returned b:=by rw [h]
/-! ### The walks -/
theorem Amw(s:ByteArray)(m:Bs)(hm:Seg s 0 m)(hs:s.size=0+m.length)(hmax:s.size<=100000)(h0:0<m.length)(w:World) :
  Calls Tryz.prog 138 #[.string s] w (fun e w'=>e=.returned (FX false m [49])/\w=w'):=by
 have hp:(0:Int)<(s.size:Int):=(by omega);obtain⟨c0,-,hs0,e0,d0,d1,-⟩:=hm.digit' (j:=0) (by omega) (by omega) (by omega);have hc:((c0.toNat:Int) == 45)=false:=(by rw [beq_eq_false_iff_ne];omega);clear d0 d1;have HS:=Asb hs;clear hs;go_enter Tryz.func138,Tryz.ntmps138;go_wp2;clear hc e0 hp
 go_loop [2,3,5] (fun n z i=>∃j:Nat,0<=j/\j<=0+m.length/\j<=0+9/\z=.int .i64 0/\i=.int .i64 (j:Nat)/\n=.int .i64 (val (m.take (j-0)):Nat)) (fun _ _ i=>s.size-(intOf i).toNat)
 case atStart=>exact⟨0,by omega,by omega,by omega,rfl,rfl,by simp [G1]⟩
 case round=>
  obtain⟨j,hj0,DD,Ug,rfl,rfl,rfl⟩:=hrel;have Ph:j<=s.size:=(by have:=HS.out;omega);by_cases hlt:j<0+m.length
  ·by_cases h9:j=0+9
   ·have CS:j<s.size:=(by have:=HS.out;omega);obtain⟨c,e,d,-⟩:=hm.digit CS hj0 hlt;have d1:=d.1;have CY:((c.toNat:Int) != 47)=true:=(by rw [bne_iff_ne];omega);have EB:(((j:Int)) == 9)=true:=(by rw [beq_iff_eq];omega);have Hj:(j:Int)<(s.size:Int):=(by omega);have Fq:(0:Int)<=(j:Int):=(by omega);have HV:Hid (FX false m [49]=.tuple #[.int .i64 0,.int .i64 0,.bool false]):=Asb (RE (.inl (by omega)));clear h9 d d1;go_wp2;go_ret3;exact⟨J6 HV.out,rfl⟩
   ·obtain⟨c,v,CS,e,d1,d2,CY,hv,Et,hn⟩:=hm.digit' hj0 hlt (by omega);have EB:(((j:Int)) == 9)=false:=(by rw [beq_eq_false_iff_ne];omega);have Hj:(j:Int)<(s.size:Int):=(by omega);have Fq:(0:Int)<=(j:Int):=(by omega);rw [←hv];have HN:=Asb hn;clear hv hn;go_wp2
    go_round
    case rel=>exact⟨j+1,by omega,by omega,by omega,rfl,by go_num,by rw [HN.out]⟩
    case measure=>simp [intOf];omega
  ·have BK:j=0+m.length:=(by omega);have ht:m.take (j-0)=m:=by rw [BK];simp
   have Et:((val m:Nat):Int)<=999999999:=by have h1:=GU hm.all;have h2:10^m.length<=10^9:=Nat.pow_le_pow_right (by omega) (by omega);have h3:(10:Nat)^9=1000000000:=(by decide);omega
   have De:m.length<=9:=(by omega);rw [ht];have Fq:(0:Int)<=(j:Int):=(by omega);have hle:(s.size:Int)<=(j:Int):=(by have:=HS.out;omega);have Bu:((j:Int) == (s.size:Int))=true:=(by rw [beq_iff_eq];have:=HS.out;omega);have HV:Hid (FX false m [49]=.tuple #[.int .i64 ((val m:Int)),.int .i64 1,.bool true]):=Asb (ZF De (by simp));clear ht BK hlt;go_wp2;go_ret3;exact⟨J6 HV.out,rfl⟩
theorem Amu(s:ByteArray)(m m2:Bs)(hm:Seg s 0 m)(FR:Seg s (0+m.length+1) m2)(hs:s.size=0+m.length+1+m2.length)(h2:0<m2.length)(hq:∃h:0+m.length<s.size,s[0+m.length]=47)(hmax:s.size<=100000)(h0:0<m.length)(w:World) :
  Calls Tryz.prog 138 #[.string s] w (fun e w'=>e=.returned (FX false m m2)/\w=w'):=by
 have hp:(0:Int)<(s.size:Int):=(by omega);obtain⟨c0,-,hs0,e0,d0,d1,-⟩:=hm.digit' (j:=0) (by omega) (by omega) (by omega);have hc:((c0.toNat:Int) == 45)=false:=(by rw [beq_eq_false_iff_ne];omega);clear d0 d1;have HS:=Asb hs;clear hs;go_enter Tryz.func138,Tryz.ntmps138;go_wp2;clear hc e0 hp
 go_loop [2,3,5] (fun n z i=>∃j:Nat,0<=j/\j<=0+m.length/\j<=0+9/\z=.int .i64 0/\i=.int .i64 (j:Nat)/\n=.int .i64 (val (m.take (j-0)):Nat)) (fun _ _ i=>s.size-(intOf i).toNat)
 case atStart=>exact⟨0,by omega,by omega,by omega,rfl,rfl,by simp [G1]⟩
 case round=>
  obtain⟨j,hj0,DD,Ug,rfl,rfl,rfl⟩:=hrel;have Ph:j<=s.size:=(by have:=HS.out;omega);by_cases hlt:j<0+m.length
  ·by_cases h9:j=0+9
   ·have CS:j<s.size:=(by have:=HS.out;omega);obtain⟨c,e,d,-⟩:=hm.digit CS hj0 hlt;have d1:=d.1;have CY:((c.toNat:Int) != 47)=true:=(by rw [bne_iff_ne];omega);have EB:(((j:Int)) == 9)=true:=(by rw [beq_iff_eq];omega);have Hj:(j:Int)<(s.size:Int):=(by omega);have Fq:(0:Int)<=(j:Int):=(by omega);have HV:Hid (FX false m m2=.tuple #[.int .i64 0,.int .i64 0,.bool false]):=Asb (RE (.inl (by omega)));clear h9 d d1;go_wp2;go_ret3;exact⟨J6 HV.out,rfl⟩
   ·obtain⟨c,v,CS,e,d1,d2,CY,hv,Et,hn⟩:=hm.digit' hj0 hlt (by omega);have EB:(((j:Int)) == 9)=false:=(by rw [beq_eq_false_iff_ne];omega);have Hj:(j:Int)<(s.size:Int):=(by omega);have Fq:(0:Int)<=(j:Int):=(by omega);rw [←hv];have HN:=Asb hn;clear hv hn;go_wp2
    go_round
    case rel=>exact⟨j+1,by omega,by omega,by omega,rfl,by go_num,by rw [HN.out]⟩
    case measure=>simp [intOf];omega
  ·have BK:j=0+m.length:=(by omega);have ht:m.take (j-0)=m:=by rw [BK];simp
   have Et:((val m:Nat):Int)<=999999999:=by have h1:=GU hm.all;have h2:10^m.length<=10^9:=Nat.pow_le_pow_right (by omega) (by omega);have h3:(10:Nat)^9=1000000000:=(by decide);omega
   have De:m.length<=9:=(by omega);rw [ht];have Fq:(0:Int)<=(j:Int):=(by omega);have CS:j<s.size:=(by have:=HS.out;omega);have Hj:(j:Int)<(s.size:Int):=(by omega);obtain⟨c,hc⟩:=AcG (47:UInt8);have e:s[j]=c:=(by rw [hc];obtain⟨_,e⟩:=hq;simp only [BK];exact e);have CY:((c.toNat:Int) != 47)=false:=(by rw [hc];rfl);have Bu:((j:Int) == (s.size:Int))=false:=(by rw [beq_eq_false_iff_ne];omega);have hsz:s.size=j+1+m2.length:=(by have:=HS.out;omega);have Gc:=Asb hsz;rw [←BK]at FR;have hjb:j<=0+9:=Ug;clear ht BK hlt hc hsz;go_wp2;clear CY e Bu
   go_loop [2,3,5] (fun z n i=>∃k:Nat,j+1<=k/\k<=j+1+m2.length/\k<=j+1+9/\z=.int .i64 ((val m:Int))/\i=.int .i64 (k:Nat)/\n=.int .i64 (val (m2.take (k-(j+1))):Nat)) (fun _ _ i=>s.size-(intOf i).toNat)
   case atStart=>exact⟨j+1,by omega,by omega,by omega,rfl,by go_num,by simp [G1]⟩
   case round=>
    obtain⟨k,hk0,Bv,NB,rfl,rfl,rfl⟩:=hrel;have jW:k<=s.size:=(by have:=Gc.out;omega);by_cases hlt2:k<j+1+m2.length
    ·by_cases h9:k=j+1+9
     ·have QP:k<s.size:=(by have:=Gc.out;omega);have EB:((k:Int)-((j:Int)+1) == 9)=true:=(by rw [beq_iff_eq];omega);have Uo:(k:Int)<(s.size:Int):=(by omega);have Uh:(0:Int)<=(k:Int):=(by omega);have HV:Hid (FX false m m2=.tuple #[.int .i64 0,.int .i64 0,.bool false]):=Asb (RE (.inr (by omega)));clear h9;go_wp2;go_ret3;exact⟨J6 HV.out,rfl⟩
     ·obtain⟨c,v,QP,e,d1,d2,CY,hv,lM,hn⟩:=FR.digit' hk0 hlt2 (by omega);have EB:((k:Int)-((j:Int)+1) == 9)=false:=(by rw [beq_eq_false_iff_ne];omega);have Uo:(k:Int)<(s.size:Int):=(by omega);have Uh:(0:Int)<=(k:Int):=(by omega);rw [←hv];have HN:=Asb hn;clear hv hn CY;go_wp2
      go_round
      case rel=>exact⟨k+1,by omega,by omega,by omega,rfl,by go_num,by rw [HN.out]⟩
      case measure=>simp [intOf];omega
    ·have Ka:k=j+1+m2.length:=(by omega);have Kg:m2.take (k-(j+1))=m2:=(by rw [Ka];simp);have HV:Hid (FX false m m2=.tuple #[.int .i64 ((val m:Int)),.int .i64 (val m2:Nat),.bool true]):=Asb (ZF De (by omega));have hle:(s.size:Int)<=(k:Int):=(by have:=Gc.out;omega);rw [Kg];clear Kg Ka hlt2;go_wp2;go_ret3;exact⟨J6 HV.out,rfl⟩
theorem Amx(s:ByteArray)(m:Bs)(hm:Seg s 1 m)(hs:s.size=1+m.length)(hmax:s.size<=100000)(h0:0<m.length)(hc:∃(h:0<s.size),s[0]=45)(w:World) :
  Calls Tryz.prog 138 #[.string s] w (fun e w'=>e=.returned (FX true m [49])/\w=w'):=by
 have hp:(0:Int)<(s.size:Int):=(by omega);obtain⟨hs0,e0⟩:=hc;obtain⟨c0,hc0⟩:=AcG (45:UInt8);rw [←hc0]at e0;have hc:((c0.toNat:Int) == 45)=true:=(by rw [hc0];rfl);clear hc0;have HS:=Asb hs;clear hs;go_enter Tryz.func138,Tryz.ntmps138;go_wp2;clear hc e0 hp
 go_loop [2,3,5] (fun n z i=>∃j:Nat,1<=j/\j<=1+m.length/\j<=1+9/\z=.int .i64 0/\i=.int .i64 (j:Nat)/\n=.int .i64 (val (m.take (j-1)):Nat)) (fun _ _ i=>s.size-(intOf i).toNat)
 case atStart=>exact⟨1,by omega,by omega,by omega,rfl,rfl,by simp [G1]⟩
 case round=>
  obtain⟨j,hj0,DD,Ug,rfl,rfl,rfl⟩:=hrel;have Ph:j<=s.size:=(by have:=HS.out;omega);by_cases hlt:j<1+m.length
  ·by_cases h9:j=1+9
   ·have CS:j<s.size:=(by have:=HS.out;omega);obtain⟨c,e,d,-⟩:=hm.digit CS hj0 hlt;have d1:=d.1;have CY:((c.toNat:Int) != 47)=true:=(by rw [bne_iff_ne];omega);have EB:(((j:Int)-1) == 9)=true:=(by rw [beq_iff_eq];omega);have Hj:(j:Int)<(s.size:Int):=(by omega);have Fq:(0:Int)<=(j:Int):=(by omega);have HV:Hid (FX true m [49]=.tuple #[.int .i64 0,.int .i64 0,.bool false]):=Asb (RE (.inl (by omega)));clear h9 d d1;go_wp2;go_ret3;exact⟨J6 HV.out,rfl⟩
   ·obtain⟨c,v,CS,e,d1,d2,CY,hv,Et,hn⟩:=hm.digit' hj0 hlt (by omega);have EB:(((j:Int)-1) == 9)=false:=(by rw [beq_eq_false_iff_ne];omega);have Hj:(j:Int)<(s.size:Int):=(by omega);have Fq:(0:Int)<=(j:Int):=(by omega);rw [←hv];have HN:=Asb hn;clear hv hn;go_wp2
    go_round
    case rel=>exact⟨j+1,by omega,by omega,by omega,rfl,by go_num,by rw [HN.out]⟩
    case measure=>simp [intOf];omega
  ·have BK:j=1+m.length:=(by omega);have ht:m.take (j-1)=m:=by rw [BK];simp
   have Et:((val m:Nat):Int)<=999999999:=by have h1:=GU hm.all;have h2:10^m.length<=10^9:=Nat.pow_le_pow_right (by omega) (by omega);have h3:(10:Nat)^9=1000000000:=(by decide);omega
   have De:m.length<=9:=(by omega);rw [ht];have Fq:(0:Int)<=(j:Int):=(by omega);have hle:(s.size:Int)<=(j:Int):=(by have:=HS.out;omega);have Bu:((j:Int) == (s.size:Int))=true:=(by rw [beq_iff_eq];have:=HS.out;omega);have HV:Hid (FX true m [49]=.tuple #[.int .i64 (-(val m:Int)),.int .i64 1,.bool true]):=Asb (ZF De (by simp));clear ht BK hlt;go_wp2;go_ret3;exact⟨J6 HV.out,rfl⟩
theorem Amv(s:ByteArray)(m m2:Bs)(hm:Seg s 1 m)(FR:Seg s (1+m.length+1) m2)(hs:s.size=1+m.length+1+m2.length)(h2:0<m2.length)(hq:∃h:1+m.length<s.size,s[1+m.length]=47)(hmax:s.size<=100000)(h0:0<m.length)(hc:∃(h:0<s.size),s[0]=45)(w:World) :
  Calls Tryz.prog 138 #[.string s] w (fun e w'=>e=.returned (FX true m m2)/\w=w'):=by
 have hp:(0:Int)<(s.size:Int):=(by omega);obtain⟨hs0,e0⟩:=hc;obtain⟨c0,hc0⟩:=AcG (45:UInt8);rw [←hc0]at e0;have hc:((c0.toNat:Int) == 45)=true:=(by rw [hc0];rfl);clear hc0;have HS:=Asb hs;clear hs;go_enter Tryz.func138,Tryz.ntmps138;go_wp2;clear hc e0 hp
 go_loop [2,3,5] (fun n z i=>∃j:Nat,1<=j/\j<=1+m.length/\j<=1+9/\z=.int .i64 0/\i=.int .i64 (j:Nat)/\n=.int .i64 (val (m.take (j-1)):Nat)) (fun _ _ i=>s.size-(intOf i).toNat)
 case atStart=>exact⟨1,by omega,by omega,by omega,rfl,rfl,by simp [G1]⟩
 case round=>
  obtain⟨j,hj0,DD,Ug,rfl,rfl,rfl⟩:=hrel;have Ph:j<=s.size:=(by have:=HS.out;omega);by_cases hlt:j<1+m.length
  ·by_cases h9:j=1+9
   ·have CS:j<s.size:=(by have:=HS.out;omega);obtain⟨c,e,d,-⟩:=hm.digit CS hj0 hlt;have d1:=d.1;have CY:((c.toNat:Int) != 47)=true:=(by rw [bne_iff_ne];omega);have EB:(((j:Int)-1) == 9)=true:=(by rw [beq_iff_eq];omega);have Hj:(j:Int)<(s.size:Int):=(by omega);have Fq:(0:Int)<=(j:Int):=(by omega);have HV:Hid (FX true m m2=.tuple #[.int .i64 0,.int .i64 0,.bool false]):=Asb (RE (.inl (by omega)));clear h9 d d1;go_wp2;go_ret3;exact⟨J6 HV.out,rfl⟩
   ·obtain⟨c,v,CS,e,d1,d2,CY,hv,Et,hn⟩:=hm.digit' hj0 hlt (by omega);have EB:(((j:Int)-1) == 9)=false:=(by rw [beq_eq_false_iff_ne];omega);have Hj:(j:Int)<(s.size:Int):=(by omega);have Fq:(0:Int)<=(j:Int):=(by omega);rw [←hv];have HN:=Asb hn;clear hv hn;go_wp2
    go_round
    case rel=>exact⟨j+1,by omega,by omega,by omega,rfl,by go_num,by rw [HN.out]⟩
    case measure=>simp [intOf];omega
  ·have BK:j=1+m.length:=(by omega);have ht:m.take (j-1)=m:=by rw [BK];simp
   have Et:((val m:Nat):Int)<=999999999:=by have h1:=GU hm.all;have h2:10^m.length<=10^9:=Nat.pow_le_pow_right (by omega) (by omega);have h3:(10:Nat)^9=1000000000:=(by decide);omega
   have De:m.length<=9:=(by omega);rw [ht];have Fq:(0:Int)<=(j:Int):=(by omega);have CS:j<s.size:=(by have:=HS.out;omega);have Hj:(j:Int)<(s.size:Int):=(by omega);obtain⟨c,hc⟩:=AcG (47:UInt8);have e:s[j]=c:=(by rw [hc];obtain⟨_,e⟩:=hq;simp only [BK];exact e);have CY:((c.toNat:Int) != 47)=false:=(by rw [hc];rfl);have Bu:((j:Int) == (s.size:Int))=false:=(by rw [beq_eq_false_iff_ne];omega);have hsz:s.size=j+1+m2.length:=(by have:=HS.out;omega);have Gc:=Asb hsz;rw [←BK]at FR;have hjb:j<=1+9:=Ug;clear ht BK hlt hc hsz;go_wp2;clear CY e Bu
   go_loop [2,3,5] (fun z n i=>∃k:Nat,j+1<=k/\k<=j+1+m2.length/\k<=j+1+9/\z=.int .i64 (-(val m:Int))/\i=.int .i64 (k:Nat)/\n=.int .i64 (val (m2.take (k-(j+1))):Nat)) (fun _ _ i=>s.size-(intOf i).toNat)
   case atStart=>exact⟨j+1,by omega,by omega,by omega,rfl,by go_num,by simp [G1]⟩
   case round=>
    obtain⟨k,hk0,Bv,NB,rfl,rfl,rfl⟩:=hrel;have jW:k<=s.size:=(by have:=Gc.out;omega);by_cases hlt2:k<j+1+m2.length
    ·by_cases h9:k=j+1+9
     ·have QP:k<s.size:=(by have:=Gc.out;omega);have EB:((k:Int)-((j:Int)+1) == 9)=true:=(by rw [beq_iff_eq];omega);have Uo:(k:Int)<(s.size:Int):=(by omega);have Uh:(0:Int)<=(k:Int):=(by omega);have HV:Hid (FX true m m2=.tuple #[.int .i64 0,.int .i64 0,.bool false]):=Asb (RE (.inr (by omega)));clear h9;go_wp2;go_ret3;exact⟨J6 HV.out,rfl⟩
     ·obtain⟨c,v,QP,e,d1,d2,CY,hv,lM,hn⟩:=FR.digit' hk0 hlt2 (by omega);have EB:((k:Int)-((j:Int)+1) == 9)=false:=(by rw [beq_eq_false_iff_ne];omega);have Uo:(k:Int)<(s.size:Int):=(by omega);have Uh:(0:Int)<=(k:Int):=(by omega);rw [←hv];have HN:=Asb hn;clear hv hn CY;go_wp2
      go_round
      case rel=>exact⟨k+1,by omega,by omega,by omega,rfl,by go_num,by rw [HN.out]⟩
      case measure=>simp [intOf];omega
    ·have Ka:k=j+1+m2.length:=(by omega);have Kg:m2.take (k-(j+1))=m2:=(by rw [Ka];simp);have HV:Hid (FX true m m2=.tuple #[.int .i64 (-(val m:Int)),.int .i64 (val m2:Nat),.bool true]):=Asb (ZF De (by omega));have hle:(s.size:Int)<=(k:Int):=(by have:=Gc.out;omega);rw [Kg];clear Kg Ka hlt2;go_wp2;go_ret3;exact⟨J6 HV.out,rfl⟩
theorem O7(l:Bs)(j:Nat)(h:j<(⟨l.toArray⟩:ByteArray).size):(⟨l.toArray⟩:ByteArray)[j]=l.getD j 0:=by
 have h':j<l.length:=(by simpa [ByteArray.size]using h);rw [ByteArray.getElem_eq_getElem_data];simp [List.getD,h']
theorem CN(l:Bs):(⟨l.toArray⟩:ByteArray).size=l.length:=by simp [ByteArray.size]
theorem IQ(pre m suf:Bs)(hm:BP m):Seg ⟨(pre++m++suf).toArray⟩ pre.length m:=
 ⟨by rw [CN];simp,hm,fun j h h1 h2=>by
  rw [O7];simp only [List.getD_eq_getElem?_getD]
  rw [List.append_assoc,List.getElem?_append_right h1,List.getElem?_append_left (by omega)]⟩
theorem Amt(q:Rat):RB q=FX (decide (q<0)) (D q.num.natAbs) (D q.den):=by
 unfold RB FX
 split
 ·rw [F3,F3];by_cases h:q<0
  ·have:=IK.2 h;simp only [h,decide_true,if_true]
   congr 4;omega
  ·have:¬q.num<0:=fun k=>h (IK.1 k);simp only [h,decide_false,Bool.false_eq_true,if_false]
   congr 4;omega
 ·rfl
theorem MD:D 1 = [49]:=by rw [Ew (by omega)];rfl
theorem MI{z:Int} : (z<0→I z=45::D z.natAbs)/\(¬z<0→I z=D z.natAbs):=by
 constructor
 ·intro h
  rcases Ed z with⟨n,rfl,e⟩|⟨n,hn,rfl,e⟩
  ·omega
  ·rw [e];simp
 ·intro h
  rcases Ed z with⟨n,rfl,e⟩|⟨n,hn,rfl,e⟩
  ·rw [e];simp
  ·omega
theorem AmC(q:Rat)(hl:(R q).length<=100000)(w:World):Calls Tryz.prog 138 #[S (R q)] w (fun e w'=>e=.returned (RB q)/\w=w'):=by
 rw [Amt];have hp:=Ly q.num.natAbs;have Ju:=Ly q.den;by_cases hd:q.den=1
 ·rw [MR hd]at hl ⊢;rw [hd,MD];by_cases hn:q.num<0
  ·rw [MI.1 hn]at hl ⊢;rw [decide_eq_true (IK.1 hn)];have h:=IQ [45] (D q.num.natAbs) [] (C7 _);simp only [List.append_nil,List.singleton_append,List.length_singleton]at h;exact Amx _ _ h (by rw [CN];simp;omega) (by rw [CN];exact hl) hp ⟨by rw [CN];simp,rfl⟩ w
  ·rw [MI.2 hn]at hl ⊢;rw [decide_eq_false (fun k=>hn (IK.2 k))];have h:=IQ [] (D q.num.natAbs) [] (C7 _);simp only [List.append_nil,List.nil_append,List.length_nil]at h;exact Amw _ _ h (by rw [CN];simp) (by rw [CN];exact hl) hp w
 ·rw [O1 hd]at hl ⊢;by_cases hn:q.num<0
  ·rw [MI.1 hn]at hl ⊢;rw [decide_eq_true (IK.1 hn)];have h:=IQ [45] (D q.num.natAbs) (47::D q.den) (C7 _);have h2:=IQ (45::D q.num.natAbs ++ [47]) (D q.den) [] (C7 _);simp only [List.append_nil,List.length_singleton,List.append_assoc,List.cons_append]at h h2;rw [show (45::(D q.num.natAbs ++ [47])).length=1+(D q.num.natAbs).length+1 by simp;omega]at h2;exact Amv _ _ _ h h2 (by rw [CN];simp;omega) Ju ⟨by rw [CN];simp;omega,by rw [O7];simp [List.getD,Nat.add_comm 1]⟩ (by rw [CN];exact hl) hp ⟨by rw [CN];simp,rfl⟩ w
  ·rw [MI.2 hn]at hl ⊢;rw [decide_eq_false (fun k=>hn (IK.2 k))];have h:=IQ [] (D q.num.natAbs) (47::D q.den) (C7 _);have h2:=IQ (D q.num.natAbs ++ [47]) (D q.den) [] (C7 _);simp only [List.append_nil,List.nil_append,List.length_nil,List.append_assoc,List.cons_append]at h h2;rw [show List.length (D q.num.natAbs ++ [(47:UInt8)])=0+(D q.num.natAbs).length+1 by simp]at h2;exact Amu _ _ _ h h2 (by rw [CN];simp;omega) Ju ⟨by rw [CN];simp,by rw [O7];simp [List.getD]⟩ (by rw [CN];exact hl) hp w
end Go.Proofs.YtdaefncphfeaeaaGreatDoor
