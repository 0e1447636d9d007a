/- W02. -/
import Derived.Test.YtnfedbopbcegjaaGreatDoorW01
import Derived.Lib.IndexMore
set_option maxRecDepth 100000
set_option maxHeartbeats 4000000
namespace Kl
open Go
theorem tM:∀{l m:Bs} {c:UInt8},c∉l→Lib.indexByte (l++c::m) c=l.length
 | [],m,c,_=>by simp [Lib.indexByte]
 | b::l,m,c,h=>by rw [List.cons_append,Lib.indexByte,tM (l:=l) (fun k=>h (List.mem_cons_of_mem _ k))];have:(b == c)=false:=(by rw [beq_eq_false_iff_ne];rintro rfl;exact h (List.mem_cons_self ..));have h2:((l.length:Int) == -1)=false:=(by rw [beq_eq_false_iff_ne];omega);rw [this,h2];simp
theorem tN:∀{l:Bs} {c:UInt8},c∉l→Lib.indexByte l c = -1
 | [],c,_=>rfl
 | b::l,c,h=>by rw [Lib.indexByte,tN (l:=l) (fun k=>h (List.mem_cons_of_mem _ k))];have:(b == c)=false:=(by rw [beq_eq_false_iff_ne];rintro rfl;exact h (List.mem_cons_self ..));rw [this];simp
theorem N4{l m:Bs}(h:(47:UInt8)∉l):Lib.cut (l++47::m) [47]=(l,m,true):=by
 unfold Lib.cut;rw [Lib.index_one,tM h,if_pos (by omega)];simp
theorem Wm{l:Bs}(h:(47:UInt8)∉l):Lib.cut l [47]=(l,[],false):=by
 unfold Lib.cut;rw [Lib.index_one,tN h,if_neg (by omega)]
theorem Pr{q:Rat}(h:q.den=1):R q=I q.num:=if_pos h
theorem Se{q:Rat}(h:q.den≠1):R q=I q.num++47::D q.den:=if_neg h
def Ff(n:Int)(d:Nat):Bs:=if d=1 then I n else I n++47::D d
theorem KE(q:Rat):R q=Ff q.num q.den:=rfl
theorem Sc(q:Rat):Lib.cut (R q) [47]=if q.den=1 then (I q.num,[],false)else (I q.num,D q.den,true):=by
 by_cases h:q.den=1
 ·rw [Pr h,Wm (VE _),if_pos h]
 ·rw [Se h,N4 (VE _),if_neg h]
theorem Sf{p q:Rat}(h:R p=R q):p=q:=by
 have h2:=Sc p;rw [h,Sc q]at h2;by_cases hq:q.den=1
 ·by_cases hp:p.den=1
  ·rw [if_pos hq,if_pos hp]at h2;have:=Ns (congrArg (·.1) h2);exact Rat.ext this.symm (by rw [hp,hq])
  ·rw [if_pos hq,if_neg hp]at h2;have:=congrArg (·.2.2) h2;simp at this
 ·by_cases hp:p.den=1
  ·rw [if_neg hq,if_pos hp]at h2;have:=congrArg (·.2.2) h2;simp at this
  ·rw [if_neg hq,if_neg hp]at h2;have h1:=Ns (congrArg (·.1) h2);have h3:=R2 (congrArg (·.2.1) h2);exact Rat.ext h1.symm h3.symm
theorem mf:I 0 = [48]:=by rw [show (0:Int)=((0:Nat):Int)from rfl,EX,EG (by omega)];rfl
theorem ma:I 1 = [49]:=by rw [show (1:Int)=((1:Nat):Int)from rfl,EX,EG (by omega)];rfl
theorem Fa:R 0 = [48]:=by rw [Pr (by rfl)];exact mf
theorem Si:R 1 = [49]:=by rw [Pr (by rfl)];exact ma
theorem mr{q:Rat} : R q = [48]↔q=0:=⟨fun h=>Sf (by rw [h,Fa]),fun h=>by rw [h,Fa]⟩
theorem mq{q:Rat} : R q = [49]↔q=1:=⟨fun h=>Sf (by rw [h,Si]),fun h=>by rw [h,Si]⟩
theorem Iq{q:Rat} : q.num<0↔q<0:=by
 rw [←Int.not_le,Rat.num_nonneg,Rat.not_le]
theorem vK{q:Rat} : 0<q.num↔0<q:=by
 rw [Rat.lt_iff];simp
theorem eE(z:Int):(z<0/\I z=45::I (-z))∨(0<=z/\∃c l,I z=c::l/\EH c/\c≠45):=by
 rcases Ds z with⟨n,rfl,e⟩|⟨n,hn,rfl,e⟩
 ·refine .inr ⟨by omega,?_⟩;rw [e]
  match hd:D n,LV n with
  | c::r,_=>have:=Ev n c (by rw [hd];simp);exact⟨c,r,rfl,this,by rintro rfl;exact absurd this.1 (by decide)⟩
 ·exact .inl ⟨by omega,by rw [e,Int.neg_neg,EX]⟩
theorem AaA{n:Int}{d:Nat}(h:n<0):Ff n d=45::Ff (-n) d:=by
 rcases eE n with⟨_,e⟩|⟨h0,_⟩
 ·unfold Ff;rw [e];split<;>rfl
 ·omega
theorem eJ{q:Rat}(h:q<0):R q=45::R (-q):=by
 rw [KE,KE,Rat.neg_num,Rat.neg_den,AaA (Iq.2 h)]
theorem VI(q:Rat):(q<0/\R q=45::R (-q))∨(0<=q/\∃c l,R q=c::l/\EH c/\c≠45):=by
 rcases eE q.num with⟨h,_⟩|⟨h,c,l,e,h1,h2⟩
 ·exact .inl ⟨Iq.1 h,eJ (Iq.1 h)⟩
 ·refine .inr ⟨Rat.num_nonneg.1 h,?_⟩;rw [KE];unfold Ff;rw [e]
  split
  ·exact⟨c,l,rfl,h1,h2⟩
  ·exact⟨c,_,rfl,h1,h2⟩
/-! ### Lowest terms -/
theorem uV(n:Int){d:Nat}(hd:0<d):(mkRat n d).num=n/(Nat.gcd n.natAbs d:Nat)/\(mkRat n d).den=d/Nat.gcd n.natAbs d:=by
 rw [Rat.num_mkRat,Rat.den_mkRat,if_neg (by omega),if_neg (by omega),Nat.gcd_comm];exact⟨rfl,rfl⟩
theorem m6(n:Int){d:Nat}(hd:0<d):R (mkRat n d)=Ff (n/(Nat.gcd n.natAbs d:Nat)) (d/Nat.gcd n.natAbs d):=by
 obtain⟨h1,h2⟩:=uV n hd;rw [KE,h1,h2]
/-! ### How great a number is -/
structure Sz(k:Nat)(q:Rat):Prop where
 num:q.num.natAbs<10^k
 den:q.den<10^k
theorem Sz.mono{a b:Nat}{q:Rat}(h:Sz a q)(hab:a<=b):Sz b q:=
 have e:10^a<=10^b:=Nat.pow_le_pow_right (by omega) hab
 ⟨Nat.lt_of_lt_of_le h.num e,Nat.lt_of_lt_of_le h.den e⟩
theorem uZ(n:Int)(g:Nat)(hg:(g:Int)∣n):(n/g).natAbs<=n.natAbs:=by
 obtain⟨k,rfl⟩:=hg;by_cases h:g=0
 ·subst h;simp
 ·rw [Int.mul_ediv_cancel_left _ (by omega),Int.natAbs_mul];exact Nat.le_mul_of_pos_left _ (by simp;omega)
theorem Sz.mkRat{k:Nat}{n:Int}{d:Nat}(hd:0<d)(h1:n.natAbs<10^k)(h2:d<10^k):Sz k (mkRat n d):=by
 obtain⟨e1,e2⟩:=uV n hd;refine⟨?_,?_⟩
 ·rw [e1];exact Nat.lt_of_le_of_lt (uZ _ _ (Int.natAbs_dvd_natAbs.1 (by rw [Int.natAbs_natCast];exact Nat.gcd_dvd_left ..))) h1
 ·rw [e2];exact Nat.lt_of_le_of_lt (Nat.div_le_self _ _) h2
theorem LG{x y a b:Nat}(hx:x<10^a)(hy:y<10^b):x*y<10^(a+b):=by
 rw [Nat.pow_add];exact Nat.mul_lt_mul'' hx hy
theorem og{x y a:Nat}(hx:x<10^a)(hy:y<10^a):x+y<10^(a+1):=by
 rw [Nat.pow_succ];omega
theorem Sz.add{a b:Nat}{p q:Rat}(hp:Sz a p)(hq:Sz b q):Sz (a+b+1) (p+q):=by
 rw [Rat.add_def'];have h1:=LG hp.num hq.den;have h2:=LG hq.num hp.den;rw [Nat.add_comm b a]at h2;refine Sz.mkRat (Nat.mul_pos p.den_pos q.den_pos) ?_ ?_
 ·have h3:=Int.natAbs_add_le (p.num*q.den) (q.num*p.den);rw [Int.natAbs_mul,Int.natAbs_mul,Int.natAbs_natCast,Int.natAbs_natCast]at h3;exact Nat.lt_of_le_of_lt h3 (og h1 h2)
 ·exact Nat.lt_of_lt_of_le (LG hp.den hq.den) (Nat.pow_le_pow_right (by omega) (by omega))
theorem Sz.mul{a b:Nat}{p q:Rat}(hp:Sz a p)(hq:Sz b q):Sz (a+b) (p*q):=by
 rw [Rat.mul_def'];refine Sz.mkRat (Nat.mul_pos p.den_pos q.den_pos) ?_ (LG hp.den hq.den);rw [Int.natAbs_mul];exact LG hp.num hq.num
theorem Sz.neg{a:Nat}{p:Rat}(hp:Sz a p):Sz a (-p):=⟨by rw [Rat.neg_num,Int.natAbs_neg];exact hp.num,by rw [Rat.neg_den];exact hp.den⟩
theorem Sz.sub{a b:Nat}{p q:Rat}(hp:Sz a p)(hq:Sz b q):Sz (a+b+1) (p-q):=by
 rw [Rat.sub_eq_add_neg];exact hp.add hq.neg
theorem Sz.inv{a:Nat}{p:Rat}(ha:0<a)(hp:Sz a p):Sz a p⁻¹:=by
 refine⟨?_,?_⟩
 ·rw [Rat.num_inv,Int.natAbs_mul,Int.natAbs_natCast];have:p.num.sign.natAbs<=1:=by rw [Int.natAbs_sign];split<;>omega
  calc _<=1*p.den:=Nat.mul_le_mul_right _ this
   _<_:=by rw [Nat.one_mul];exact hp.den
 ·rw [Rat.den_inv]
  split
  ·exact Nat.one_lt_pow (by omega) (by omega)
  ·exact hp.num
theorem Sz.div{a b:Nat}{p q:Rat}(hb:0<b)(hp:Sz a p)(hq:Sz b q):Sz (a+b) (p/q):=by
 rw [Rat.div_def];exact hp.mul (hq.inv hb)
theorem Sz.int{k:Nat}{z:Int}(hk:0<k)(h:z.natAbs<10^k):Sz k (z:Rat):=⟨h,Nat.one_lt_pow (by omega) (by omega)⟩
end Kl
namespace Go.Proofs.YtnfedbopbcegjaaGreatDoor
open Go.RowKit Kl
def Rk(q:Rat):Value:=if (D q.num.natAbs).length<=9/\(D q.den).length<=9 then .tuple #[.int .i64 q.num,.int .i64 q.den,.bool true] else .tuple #[.int .i64 0,.int .i64 0,.bool false]
structure Seg(s:ByteArray)(b:Nat)(m:Bs):Prop where
 le:b+m.length<=s.size
 all:Cy m
 at_:∀(j:Nat) (h:j<s.size),b<=j→j<b+m.length→s[j]=m.getD (j-b) 0
theorem Seg.digit{s:ByteArray}{b:Nat}{m:Bs}(h:Seg s b m){j:Nat}(hj:j<s.size)(h1:b<=j)(h2:j<b+m.length) :
  ∃c:UInt8,s[j]=c/\EH c/\val (m.take (j+1-b))=val (m.take (j-b))*10+(c.toNat-48):=by
 have e:=h.at_ j hj h1 h2;have hl:j-b<m.length:=(by omega);refine⟨m[j-b],?_,h.all _ (AjO hl),?_⟩
 ·rw [e];simp [List.getD,hl]
 ·rw [show j+1-b=j-b+1 by omega,AjQ hl,bK];rfl
theorem Ahv{m:Bs}(h:Cy m){k:Nat} : val (m.take k)<10^k:=by
 have h1:=LU (po h k);have h2:10^(m.take k).length<=10^k:=Nat.pow_le_pow_right (by omega) (by rw [List.length_take];omega);omega
theorem Seg.digit'{s:ByteArray}{b:Nat}{m:Bs}(h:Seg s b m){j:Nat}(h1:b<=j)(h2:j<b+m.length)(h9:j<b+9) :
  ∃(c:UInt8) (v:Nat) (hj:j<s.size),s[j]=c/\(48:Int)<=(c.toNat:Int)/\(c.toNat:Int)<=57/\((c.toNat:Int) != 47)=true/\v=val (m.take (j-b))/\(v:Int)<=99999999/\
   ((val (m.take (j+1-b)):Nat):Int)=10*(v:Int)+((c.toNat:Int)-48):=by
 have hj:j<s.size:=(by have:=h.le;omega);obtain⟨c,e1,d,e2⟩:=h.digit hj h1 h2;have hv:=Ahv h.all (k:=j-b);have h8:10^(j-b)<=10^8:=Nat.pow_le_pow_right (by omega) (by omega);have h10:(10:Nat)^8=100000000:=(by decide);have:=d.1;have:=d.2;refine⟨c,_,hj,e1,by omega,by omega,?_,rfl,by omega,by rw [e2];omega⟩;rw [bne_iff_ne];omega
def Ep(sg:Bool)(m m2:Bs):Value:=if m.length<=9/\m2.length<=9 then .tuple #[.int .i64 (if sg then -(val m:Int)else (val m:Int)),.int .i64 (val m2:Nat),.bool true] else .tuple #[.int .i64 0,.int .i64 0,.bool false]
theorem OA{sg:Bool}{m m2:Bs}(h:9<m.length∨9<m2.length):Ep sg m m2=.tuple #[.int .i64 0,.int .i64 0,.bool false]:=if_neg (by omega)
theorem UR{sg:Bool}{m m2:Bs}(h:m.length<=9)(h2:m2.length<=9):Ep sg m m2=.tuple #[.int .i64 (if sg then -(val m:Int)else (val m:Int)),.int .i64 (val m2:Nat),.bool true]:=if_pos ⟨h,h2⟩
theorem He{a b:Value}(h:b=a):Ending.returned a=.returned b:=by rw [h]
/-! ### The walks -/
theorem AfE(s:ByteArray)(m:Bs)(hm:Seg s 0 m)(hs:s.size=0+m.length)(hmax:s.size<=100000)(h0:0<m.length)(w:World) :
  Calls Tryz.prog 59 #[.string s] w (fun e w'=>e=.returned (Ep false m [49])/\w=w'):=by
 have hp:(0:Int)<(s.size:Int):=(by omega);obtain⟨c0,-,hs0,e0,d0,d1,-⟩:=hm.digit' (j:=0) (by omega) (by omega) (by omega);have hc:((c0.toNat:Int) == 45)=false:=(by rw [beq_eq_false_iff_ne];omega);clear d0 d1;have HS:=AjK hs;clear hs;go_enter Tryz.func59,Tryz.ntmps59;go_wp2;clear hc e0 hp
 go_loop [2,3,5] (fun n z i=>∃j:Nat,0<=j/\j<=0+m.length/\j<=0+9/\z=.int .i64 0/\i=.int .i64 (j:Nat)/\n=.int .i64 (val (m.take (j-0)):Nat)) (fun _ _ i=>s.size-(intOf i).toNat)
 case atStart=>exact⟨0,by omega,by omega,by omega,rfl,rfl,by simp [Nf]⟩
 case round=>
  obtain⟨j,hj0,FI,Qu,rfl,rfl,rfl⟩:=hrel;have Yq:j<=s.size:=(by have:=HS.out;omega);by_cases hlt:j<0+m.length
  ·by_cases h9:j=0+9
   ·have Gq:j<s.size:=(by have:=HS.out;omega);obtain⟨c,e,d,-⟩:=hm.digit Gq hj0 hlt;have d1:=d.1;have Fh:((c.toNat:Int) != 47)=true:=(by rw [bne_iff_ne];omega);have E8:(((j:Int)) == 9)=true:=(by rw [beq_iff_eq];omega);have JY:(j:Int)<(s.size:Int):=(by omega);have H7:(0:Int)<=(j:Int):=(by omega);have HV:Hid (Ep false m [49]=.tuple #[.int .i64 0,.int .i64 0,.bool false]):=AjK (OA (.inl (by omega)));clear h9 d d1;go_wp2;go_ret3;exact⟨He HV.out,rfl⟩
   ·obtain⟨c,v,Gq,e,d1,d2,Fh,hv,MP,hn⟩:=hm.digit' hj0 hlt (by omega);have E8:(((j:Int)) == 9)=false:=(by rw [beq_eq_false_iff_ne];omega);have JY:(j:Int)<(s.size:Int):=(by omega);have H7:(0:Int)<=(j:Int):=(by omega);rw [←hv];have HN:=AjK hn;clear hv hn;go_wp2
    go_round
    case rel=>exact⟨j+1,by omega,by omega,by omega,rfl,by go_num,by rw [HN.out]⟩
    case measure=>simp [intOf];omega
  ·have Fo:j=0+m.length:=(by omega);have ht:m.take (j-0)=m:=by rw [Fo];simp
   have MP:((val m:Nat):Int)<=999999999:=by have h1:=LU hm.all;have h2:10^m.length<=10^9:=Nat.pow_le_pow_right (by omega) (by omega);have h3:(10:Nat)^9=1000000000:=(by decide);omega
   have H8:m.length<=9:=(by omega);rw [ht];have H7:(0:Int)<=(j:Int):=(by omega);have hle:(s.size:Int)<=(j:Int):=(by have:=HS.out;omega);have Di:((j:Int) == (s.size:Int))=true:=(by rw [beq_iff_eq];have:=HS.out;omega);have HV:Hid (Ep false m [49]=.tuple #[.int .i64 ((val m:Int)),.int .i64 1,.bool true]):=AjK (UR H8 (by simp));clear ht Fo hlt;go_wp2;go_ret3;exact⟨He HV.out,rfl⟩
theorem AfC(s:ByteArray)(m m2:Bs)(hm:Seg s 0 m)(Q4:Seg s (0+m.length+1) m2)(hs:s.size=0+m.length+1+m2.length)(h2:0<m2.length)(hq:∃h:0+m.length<s.size,s[0+m.length]=47)(hmax:s.size<=100000)(h0:0<m.length)(w:World) :
  Calls Tryz.prog 59 #[.string s] w (fun e w'=>e=.returned (Ep false m m2)/\w=w'):=by
 have hp:(0:Int)<(s.size:Int):=(by omega);obtain⟨c0,-,hs0,e0,d0,d1,-⟩:=hm.digit' (j:=0) (by omega) (by omega) (by omega);have hc:((c0.toNat:Int) == 45)=false:=(by rw [beq_eq_false_iff_ne];omega);clear d0 d1;have HS:=AjK hs;clear hs;go_enter Tryz.func59,Tryz.ntmps59;go_wp2;clear hc e0 hp
 go_loop [2,3,5] (fun n z i=>∃j:Nat,0<=j/\j<=0+m.length/\j<=0+9/\z=.int .i64 0/\i=.int .i64 (j:Nat)/\n=.int .i64 (val (m.take (j-0)):Nat)) (fun _ _ i=>s.size-(intOf i).toNat)
 case atStart=>exact⟨0,by omega,by omega,by omega,rfl,rfl,by simp [Nf]⟩
 case round=>
  obtain⟨j,hj0,FI,Qu,rfl,rfl,rfl⟩:=hrel;have Yq:j<=s.size:=(by have:=HS.out;omega);by_cases hlt:j<0+m.length
  ·by_cases h9:j=0+9
   ·have Gq:j<s.size:=(by have:=HS.out;omega);obtain⟨c,e,d,-⟩:=hm.digit Gq hj0 hlt;have d1:=d.1;have Fh:((c.toNat:Int) != 47)=true:=(by rw [bne_iff_ne];omega);have E8:(((j:Int)) == 9)=true:=(by rw [beq_iff_eq];omega);have JY:(j:Int)<(s.size:Int):=(by omega);have H7:(0:Int)<=(j:Int):=(by omega);have HV:Hid (Ep false m m2=.tuple #[.int .i64 0,.int .i64 0,.bool false]):=AjK (OA (.inl (by omega)));clear h9 d d1;go_wp2;go_ret3;exact⟨He HV.out,rfl⟩
   ·obtain⟨c,v,Gq,e,d1,d2,Fh,hv,MP,hn⟩:=hm.digit' hj0 hlt (by omega);have E8:(((j:Int)) == 9)=false:=(by rw [beq_eq_false_iff_ne];omega);have JY:(j:Int)<(s.size:Int):=(by omega);have H7:(0:Int)<=(j:Int):=(by omega);rw [←hv];have HN:=AjK hn;clear hv hn;go_wp2
    go_round
    case rel=>exact⟨j+1,by omega,by omega,by omega,rfl,by go_num,by rw [HN.out]⟩
    case measure=>simp [intOf];omega
  ·have Fo:j=0+m.length:=(by omega);have ht:m.take (j-0)=m:=by rw [Fo];simp
   have MP:((val m:Nat):Int)<=999999999:=by have h1:=LU hm.all;have h2:10^m.length<=10^9:=Nat.pow_le_pow_right (by omega) (by omega);have h3:(10:Nat)^9=1000000000:=(by decide);omega
   have H8:m.length<=9:=(by omega);rw [ht];have H7:(0:Int)<=(j:Int):=(by omega);have Gq:j<s.size:=(by have:=HS.out;omega);have JY:(j:Int)<(s.size:Int):=(by omega);obtain⟨c,hc⟩:=AjJ (47:UInt8);have e:s[j]=c:=(by rw [hc];obtain⟨_,e⟩:=hq;simp only [Fo];exact e);have Fh:((c.toNat:Int) != 47)=false:=(by rw [hc];rfl);have Di:((j:Int) == (s.size:Int))=false:=(by rw [beq_eq_false_iff_ne];omega);have hsz:s.size=j+1+m2.length:=(by have:=HS.out;omega);have I4:=AjK hsz;rw [←Fo]at Q4;have hjb:j<=0+9:=Qu;clear ht Fo hlt hc hsz;go_wp2;clear Fh e Di
   go_loop [2,3,5] (fun z n i=>∃k:Nat,j+1<=k/\k<=j+1+m2.length/\k<=j+1+9/\z=.int .i64 ((val m:Int))/\i=.int .i64 (k:Nat)/\n=.int .i64 (val (m2.take (k-(j+1))):Nat)) (fun _ _ i=>s.size-(intOf i).toNat)
   case atStart=>exact⟨j+1,by omega,by omega,by omega,rfl,by go_num,by simp [Nf]⟩
   case round=>
    obtain⟨k,hk0,El,pR,rfl,rfl,rfl⟩:=hrel;have Acc:k<=s.size:=(by have:=I4.out;omega);by_cases hlt2:k<j+1+m2.length
    ·by_cases h9:k=j+1+9
     ·have Lv:k<s.size:=(by have:=I4.out;omega);have E8:((k:Int)-((j:Int)+1) == 9)=true:=(by rw [beq_iff_eq];omega);have Yz:(k:Int)<(s.size:Int):=(by omega);have Ys:(0:Int)<=(k:Int):=(by omega);have HV:Hid (Ep false m m2=.tuple #[.int .i64 0,.int .i64 0,.bool false]):=AjK (OA (.inr (by omega)));clear h9;go_wp2;go_ret3;exact⟨He HV.out,rfl⟩
     ·obtain⟨c,v,Lv,e,d1,d2,Fh,hv,AcQ,hn⟩:=Q4.digit' hk0 hlt2 (by omega);have E8:((k:Int)-((j:Int)+1) == 9)=false:=(by rw [beq_eq_false_iff_ne];omega);have Yz:(k:Int)<(s.size:Int):=(by omega);have Ys:(0:Int)<=(k:Int):=(by omega);rw [←hv];have HN:=AjK hn;clear hv hn Fh;go_wp2
      go_round
      case rel=>exact⟨k+1,by omega,by omega,by omega,rfl,by go_num,by rw [HN.out]⟩
      case measure=>simp [intOf];omega
    ·have Qx:k=j+1+m2.length:=(by omega);have MN:m2.take (k-(j+1))=m2:=(by rw [Qx];simp);have HV:Hid (Ep false m m2=.tuple #[.int .i64 ((val m:Int)),.int .i64 (val m2:Nat),.bool true]):=AjK (UR H8 (by omega));have hle:(s.size:Int)<=(k:Int):=(by have:=I4.out;omega);rw [MN];clear MN Qx hlt2;go_wp2;go_ret3;exact⟨He HV.out,rfl⟩
theorem AfF(s:ByteArray)(m:Bs)(hm:Seg s 1 m)(hs:s.size=1+m.length)(hmax:s.size<=100000)(h0:0<m.length)(hc:∃(h:0<s.size),s[0]=45)(w:World) :
  Calls Tryz.prog 59 #[.string s] w (fun e w'=>e=.returned (Ep true m [49])/\w=w'):=by
 have hp:(0:Int)<(s.size:Int):=(by omega);obtain⟨hs0,e0⟩:=hc;obtain⟨c0,hc0⟩:=AjJ (45:UInt8);rw [←hc0]at e0;have hc:((c0.toNat:Int) == 45)=true:=(by rw [hc0];rfl);clear hc0;have HS:=AjK hs;clear hs;go_enter Tryz.func59,Tryz.ntmps59;go_wp2;clear hc e0 hp
 go_loop [2,3,5] (fun n z i=>∃j:Nat,1<=j/\j<=1+m.length/\j<=1+9/\z=.int .i64 0/\i=.int .i64 (j:Nat)/\n=.int .i64 (val (m.take (j-1)):Nat)) (fun _ _ i=>s.size-(intOf i).toNat)
 case atStart=>exact⟨1,by omega,by omega,by omega,rfl,rfl,by simp [Nf]⟩
 case round=>
  obtain⟨j,hj0,FI,Qu,rfl,rfl,rfl⟩:=hrel;have Yq:j<=s.size:=(by have:=HS.out;omega);by_cases hlt:j<1+m.length
  ·by_cases h9:j=1+9
   ·have Gq:j<s.size:=(by have:=HS.out;omega);obtain⟨c,e,d,-⟩:=hm.digit Gq hj0 hlt;have d1:=d.1;have Fh:((c.toNat:Int) != 47)=true:=(by rw [bne_iff_ne];omega);have E8:(((j:Int)-1) == 9)=true:=(by rw [beq_iff_eq];omega);have JY:(j:Int)<(s.size:Int):=(by omega);have H7:(0:Int)<=(j:Int):=(by omega);have HV:Hid (Ep true m [49]=.tuple #[.int .i64 0,.int .i64 0,.bool false]):=AjK (OA (.inl (by omega)));clear h9 d d1;go_wp2;go_ret3;exact⟨He HV.out,rfl⟩
   ·obtain⟨c,v,Gq,e,d1,d2,Fh,hv,MP,hn⟩:=hm.digit' hj0 hlt (by omega);have E8:(((j:Int)-1) == 9)=false:=(by rw [beq_eq_false_iff_ne];omega);have JY:(j:Int)<(s.size:Int):=(by omega);have H7:(0:Int)<=(j:Int):=(by omega);rw [←hv];have HN:=AjK hn;clear hv hn;go_wp2
    go_round
    case rel=>exact⟨j+1,by omega,by omega,by omega,rfl,by go_num,by rw [HN.out]⟩
    case measure=>simp [intOf];omega
  ·have Fo:j=1+m.length:=(by omega);have ht:m.take (j-1)=m:=by rw [Fo];simp
   have MP:((val m:Nat):Int)<=999999999:=by have h1:=LU hm.all;have h2:10^m.length<=10^9:=Nat.pow_le_pow_right (by omega) (by omega);have h3:(10:Nat)^9=1000000000:=(by decide);omega
   have H8:m.length<=9:=(by omega);rw [ht];have H7:(0:Int)<=(j:Int):=(by omega);have hle:(s.size:Int)<=(j:Int):=(by have:=HS.out;omega);have Di:((j:Int) == (s.size:Int))=true:=(by rw [beq_iff_eq];have:=HS.out;omega);have HV:Hid (Ep true m [49]=.tuple #[.int .i64 (-(val m:Int)),.int .i64 1,.bool true]):=AjK (UR H8 (by simp));clear ht Fo hlt;go_wp2;go_ret3;exact⟨He HV.out,rfl⟩
theorem AfD(s:ByteArray)(m m2:Bs)(hm:Seg s 1 m)(Q4:Seg s (1+m.length+1) m2)(hs:s.size=1+m.length+1+m2.length)(h2:0<m2.length)(hq:∃h:1+m.length<s.size,s[1+m.length]=47)(hmax:s.size<=100000)(h0:0<m.length)(hc:∃(h:0<s.size),s[0]=45)(w:World) :
  Calls Tryz.prog 59 #[.string s] w (fun e w'=>e=.returned (Ep true m m2)/\w=w'):=by
 have hp:(0:Int)<(s.size:Int):=(by omega);obtain⟨hs0,e0⟩:=hc;obtain⟨c0,hc0⟩:=AjJ (45:UInt8);rw [←hc0]at e0;have hc:((c0.toNat:Int) == 45)=true:=(by rw [hc0];rfl);clear hc0;have HS:=AjK hs;clear hs;go_enter Tryz.func59,Tryz.ntmps59;go_wp2;clear hc e0 hp
 go_loop [2,3,5] (fun n z i=>∃j:Nat,1<=j/\j<=1+m.length/\j<=1+9/\z=.int .i64 0/\i=.int .i64 (j:Nat)/\n=.int .i64 (val (m.take (j-1)):Nat)) (fun _ _ i=>s.size-(intOf i).toNat)
 case atStart=>exact⟨1,by omega,by omega,by omega,rfl,rfl,by simp [Nf]⟩
 case round=>
  obtain⟨j,hj0,FI,Qu,rfl,rfl,rfl⟩:=hrel;have Yq:j<=s.size:=(by have:=HS.out;omega);by_cases hlt:j<1+m.length
  ·by_cases h9:j=1+9
   ·have Gq:j<s.size:=(by have:=HS.out;omega);obtain⟨c,e,d,-⟩:=hm.digit Gq hj0 hlt;have d1:=d.1;have Fh:((c.toNat:Int) != 47)=true:=(by rw [bne_iff_ne];omega);have E8:(((j:Int)-1) == 9)=true:=(by rw [beq_iff_eq];omega);have JY:(j:Int)<(s.size:Int):=(by omega);have H7:(0:Int)<=(j:Int):=(by omega);have HV:Hid (Ep true m m2=.tuple #[.int .i64 0,.int .i64 0,.bool false]):=AjK (OA (.inl (by omega)));clear h9 d d1;go_wp2;go_ret3;exact⟨He HV.out,rfl⟩
   ·obtain⟨c,v,Gq,e,d1,d2,Fh,hv,MP,hn⟩:=hm.digit' hj0 hlt (by omega);have E8:(((j:Int)-1) == 9)=false:=(by rw [beq_eq_false_iff_ne];omega);have JY:(j:Int)<(s.size:Int):=(by omega);have H7:(0:Int)<=(j:Int):=(by omega);rw [←hv];have HN:=AjK hn;clear hv hn;go_wp2
    go_round
    case rel=>exact⟨j+1,by omega,by omega,by omega,rfl,by go_num,by rw [HN.out]⟩
    case measure=>simp [intOf];omega
  ·have Fo:j=1+m.length:=(by omega);have ht:m.take (j-1)=m:=by rw [Fo];simp
   have MP:((val m:Nat):Int)<=999999999:=by have h1:=LU hm.all;have h2:10^m.length<=10^9:=Nat.pow_le_pow_right (by omega) (by omega);have h3:(10:Nat)^9=1000000000:=(by decide);omega
   have H8:m.length<=9:=(by omega);rw [ht];have H7:(0:Int)<=(j:Int):=(by omega);have Gq:j<s.size:=(by have:=HS.out;omega);have JY:(j:Int)<(s.size:Int):=(by omega);obtain⟨c,hc⟩:=AjJ (47:UInt8);have e:s[j]=c:=(by rw [hc];obtain⟨_,e⟩:=hq;simp only [Fo];exact e);have Fh:((c.toNat:Int) != 47)=false:=(by rw [hc];rfl);have Di:((j:Int) == (s.size:Int))=false:=(by rw [beq_eq_false_iff_ne];omega);have hsz:s.size=j+1+m2.length:=(by have:=HS.out;omega);have I4:=AjK hsz;rw [←Fo]at Q4;have hjb:j<=1+9:=Qu;clear ht Fo hlt hc hsz;go_wp2;clear Fh e Di
   go_loop [2,3,5] (fun z n i=>∃k:Nat,j+1<=k/\k<=j+1+m2.length/\k<=j+1+9/\z=.int .i64 (-(val m:Int))/\i=.int .i64 (k:Nat)/\n=.int .i64 (val (m2.take (k-(j+1))):Nat)) (fun _ _ i=>s.size-(intOf i).toNat)
   case atStart=>exact⟨j+1,by omega,by omega,by omega,rfl,by go_num,by simp [Nf]⟩
   case round=>
    obtain⟨k,hk0,El,pR,rfl,rfl,rfl⟩:=hrel;have Acc:k<=s.size:=(by have:=I4.out;omega);by_cases hlt2:k<j+1+m2.length
    ·by_cases h9:k=j+1+9
     ·have Lv:k<s.size:=(by have:=I4.out;omega);have E8:((k:Int)-((j:Int)+1) == 9)=true:=(by rw [beq_iff_eq];omega);have Yz:(k:Int)<(s.size:Int):=(by omega);have Ys:(0:Int)<=(k:Int):=(by omega);have HV:Hid (Ep true m m2=.tuple #[.int .i64 0,.int .i64 0,.bool false]):=AjK (OA (.inr (by omega)));clear h9;go_wp2;go_ret3;exact⟨He HV.out,rfl⟩
     ·obtain⟨c,v,Lv,e,d1,d2,Fh,hv,AcQ,hn⟩:=Q4.digit' hk0 hlt2 (by omega);have E8:((k:Int)-((j:Int)+1) == 9)=false:=(by rw [beq_eq_false_iff_ne];omega);have Yz:(k:Int)<(s.size:Int):=(by omega);have Ys:(0:Int)<=(k:Int):=(by omega);rw [←hv];have HN:=AjK hn;clear hv hn Fh;go_wp2
      go_round
      case rel=>exact⟨k+1,by omega,by omega,by omega,rfl,by go_num,by rw [HN.out]⟩
      case measure=>simp [intOf];omega
    ·have Qx:k=j+1+m2.length:=(by omega);have MN:m2.take (k-(j+1))=m2:=(by rw [Qx];simp);have HV:Hid (Ep true m m2=.tuple #[.int .i64 (-(val m:Int)),.int .i64 (val m2:Nat),.bool true]):=AjK (UR H8 (by omega));have hle:(s.size:Int)<=(k:Int):=(by have:=I4.out;omega);rw [MN];clear MN Qx hlt2;go_wp2;go_ret3;exact⟨He HV.out,rfl⟩
theorem P5(l:Bs)(j:Nat)(h:j<(⟨l.toArray⟩:ByteArray).size):(⟨l.toArray⟩:ByteArray)[j]=l.getD j 0:=by
 have h':j<l.length:=(by simpa [ByteArray.size]using h);rw [ByteArray.getElem_eq_getElem_data];simp [List.getD,h']
theorem EL(l:Bs):(⟨l.toArray⟩:ByteArray).size=l.length:=by simp [ByteArray.size]
theorem OI(pre m Ee:Bs)(hm:Cy m):Seg ⟨(pre++m++Ee).toArray⟩ pre.length m:=
 ⟨by rw [EL];simp,hm,fun j h h1 h2=>by
  rw [P5];simp only [List.getD_eq_getElem?_getD]
  rw [List.append_assoc,List.getElem?_append_right h1,List.getElem?_append_left (by omega)]⟩
theorem AfA(q:Rat):Rk q=Ep (decide (q<0)) (D q.num.natAbs) (D q.den):=by
 unfold Rk Ep
 split
 ·rw [Ky,Ky];by_cases h:q<0
  ·have:=Iq.2 h;simp only [h,decide_true,if_true]
   congr 4;omega
  ·have:¬q.num<0:=fun k=>h (Iq.1 k);simp only [h,decide_false,Bool.false_eq_true,if_false]
   congr 4;omega
 ·rfl
theorem R9:D 1 = [49]:=by rw [EG (by omega)];rfl
theorem RY{z:Int} : (z<0→I z=45::D z.natAbs)/\(¬z<0→I z=D z.natAbs):=by
 constructor
 ·intro h
  rcases Ds z with⟨n,rfl,e⟩|⟨n,hn,rfl,e⟩
  ·omega
  ·rw [e];simp
 ·intro h
  rcases Ds z with⟨n,rfl,e⟩|⟨n,hn,rfl,e⟩
  ·rw [e];simp
  ·omega
theorem AfS(q:Rat)(hl:(R q).length<=100000)(w:World):Calls Tryz.prog 59 #[S (R q)] w (fun e w'=>e=.returned (Rk q)/\w=w'):=by
 rw [AfA];have hp:=R7 q.num.natAbs;have MK:=R7 q.den;by_cases hd:q.den=1
 ·rw [Pr hd]at hl ⊢;rw [hd,R9];by_cases hn:q.num<0
  ·rw [RY.1 hn]at hl ⊢;rw [decide_eq_true (Iq.1 hn)];have h:=OI [45] (D q.num.natAbs) [] (Ev _);simp only [List.append_nil,List.singleton_append,List.length_singleton]at h;exact AfF _ _ h (by rw [EL];simp;omega) (by rw [EL];exact hl) hp ⟨by rw [EL];simp,rfl⟩ w
  ·rw [RY.2 hn]at hl ⊢;rw [decide_eq_false (fun k=>hn (Iq.2 k))];have h:=OI [] (D q.num.natAbs) [] (Ev _);simp only [List.append_nil,List.nil_append,List.length_nil]at h;exact AfE _ _ h (by rw [EL];simp) (by rw [EL];exact hl) hp w
 ·rw [Se hd]at hl ⊢;by_cases hn:q.num<0
  ·rw [RY.1 hn]at hl ⊢;rw [decide_eq_true (Iq.1 hn)];have h:=OI [45] (D q.num.natAbs) (47::D q.den) (Ev _);have h2:=OI (45::D q.num.natAbs ++ [47]) (D q.den) [] (Ev _);simp only [List.append_nil,List.length_singleton,List.append_assoc,List.cons_append]at h h2;rw [show (45::(D q.num.natAbs ++ [47])).length=1+(D q.num.natAbs).length+1 by simp;omega]at h2;exact AfD _ _ _ h h2 (by rw [EL];simp;omega) MK ⟨by rw [EL];simp;omega,by rw [P5];simp [List.getD,Nat.add_comm 1]⟩ (by rw [EL];exact hl) hp ⟨by rw [EL];simp,rfl⟩ w
  ·rw [RY.2 hn]at hl ⊢;rw [decide_eq_false (fun k=>hn (Iq.2 k))];have h:=OI [] (D q.num.natAbs) (47::D q.den) (Ev _);have h2:=OI (D q.num.natAbs ++ [47]) (D q.den) [] (Ev _);simp only [List.append_nil,List.nil_append,List.length_nil,List.append_assoc,List.cons_append]at h h2;rw [show List.length (D q.num.natAbs ++ [(47:UInt8)])=0+(D q.num.natAbs).length+1 by simp]at h2;exact AfC _ _ _ h h2 (by rw [EL];simp;omega) MK ⟨by rw [EL];simp,by rw [P5];simp [List.getD]⟩ (by rw [EL];exact hl) hp w
end Go.Proofs.YtnfedbopbcegjaaGreatDoor
