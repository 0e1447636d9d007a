/- K03: GeA GeB GeC GeD GeE GeF GeH Rat RQ RQ2. -/
import Derived.Test.YtgnejnampofhoaaGreatDoorK02
set_option maxRecDepth 100000
set_option maxHeartbeats 4000000
namespace Kl
open Go
theorem uE:∀{l m:Bs} {c:UInt8},c∉l→Lib.indexByte (l++c::m) c=l.length
 | [],m,c,_=>by simp [Lib.indexByte]
 | b::l,m,c,h=>by rw [List.cons_append,Lib.indexByte,uE (l:=l) (fun k=>h (List.mem_cons_of_mem _ k))];have:(b == c)=false:=(by rw [beq_eq_false_iff_ne];rintro rfl;exact h (List.mem_cons_self ..));have h2:((l.length:Int) == -1)=false:=(by rw [beq_eq_false_iff_ne];omega);rw [this,h2];simp
theorem uF:∀{l:Bs} {c:UInt8},c∉l→Lib.indexByte l c = -1
 | [],c,_=>rfl
 | b::l,c,h=>by rw [Lib.indexByte,uF (l:=l) (fun k=>h (List.mem_cons_of_mem _ k))];have:(b == c)=false:=(by rw [beq_eq_false_iff_ne];rintro rfl;exact h (List.mem_cons_self ..));rw [this];simp
theorem Oj{l m:Bs}(h:(47:UInt8)∉l):Lib.cut (l++47::m) [47]=(l,m,true):=by
 unfold Lib.cut;rw [Lib.index_one,uE h,if_pos (by omega)];simp
theorem Xk{l:Bs}(h:(47:UInt8)∉l):Lib.cut l [47]=(l,[],false):=by
 unfold Lib.cut;rw [Lib.index_one,uF h,if_neg (by omega)]
theorem PW{q:Rat}(h:q.den=1):R q=I q.num:=if_pos h
theorem Tg{q:Rat}(h:q.den≠1):R q=I q.num++47::D q.den:=if_neg h
def FG(n:Int)(d:Nat):Bs:=if d=1 then I n else I n++47::D d
theorem MM(q:Rat):R q=FG q.num q.den:=rfl
theorem Tf(q:Rat):Lib.cut (R q) [47]=if q.den=1 then (I q.num,[],false)else (I q.num,D q.den,true):=by
 by_cases h:q.den=1
 ·rw [PW h,Xk (Wu _),if_pos h]
 ·rw [Tg h,Oj (Wu _),if_neg h]
theorem Ti{p q:Rat}(h:R p=R q):p=q:=by
 have h2:=Tf p;rw [h,Tf q]at h2;by_cases hq:q.den=1
 ·by_cases hp:p.den=1
  ·rw [if_pos hq,if_pos hp]at h2;have:=NW (congrArg (·.1) h2);exact Rat.ext this.symm (by rw [hp,hq])
  ·rw [if_pos hq,if_neg hp]at h2;have:=congrArg (·.2.2) h2;simp at this
 ·by_cases hp:p.den=1
  ·rw [if_neg hq,if_pos hp]at h2;have:=congrArg (·.2.2) h2;simp at this
  ·rw [if_neg hq,if_neg hp]at h2;have h1:=NW (congrArg (·.1) h2);have h3:=S7 (congrArg (·.2.1) h2);exact Rat.ext h1.symm h3.symm
theorem lw:I 0 = [48]:=by rw [show (0:Int)=((0:Nat):Int)from rfl,ER,Fz (by omega)];rfl
theorem lm:I 1 = [49]:=by rw [show (1:Int)=((1:Nat):Int)from rfl,ER,Fz (by omega)];rfl
theorem JJ:R 0 = [48]:=by rw [PW (by rfl)];exact lw
theorem Tj:R 1 = [49]:=by rw [PW (by rfl)];exact lm
theorem fW{q:Rat} : R q = [48]↔q=0:=⟨fun h=>Ti (by rw [h,JJ]),fun h=>by rw [h,JJ]⟩
theorem l8{q:Rat} : R q = [49]↔q=1:=⟨fun h=>Ti (by rw [h,Tj]),fun h=>by rw [h,Tj]⟩
theorem II{q:Rat} : q.num<0↔q<0:=by
 rw [←Int.not_le,Rat.num_nonneg,Rat.not_le]
theorem vZ{q:Rat} : 0<q.num↔0<q:=by
 rw [Rat.lt_iff];simp
theorem fQ(z:Int):(z<0/\I z=45::I (-z))∨(0<=z/\∃c l,I z=c::l/\ES c/\c≠45):=by
 rcases DD z with⟨n,rfl,e⟩|⟨n,hn,rfl,e⟩
 ·refine .inr ⟨by omega,?_⟩;rw [e]
  match hd:D n,MB n with
  | c::r,_=>have:=E0 n c (by rw [hd];simp);exact⟨c,r,rfl,this,by rintro rfl;exact absurd this.1 (by decide)⟩
 ·exact .inl ⟨by omega,by rw [e,Int.neg_neg,ER]⟩
theorem Aah{n:Int}{d:Nat}(h:n<0):FG n d=45::FG (-n) d:=by
 rcases fQ n with⟨_,e⟩|⟨h0,_⟩
 ·unfold FG;rw [e];split<;>rfl
 ·omega
theorem fY{q:Rat}(h:q<0):R q=45::R (-q):=by
 rw [MM,MM,Rat.neg_num,Rat.neg_den,Aah (II.2 h)]
theorem Wx(q:Rat):(q<0/\R q=45::R (-q))∨(0<=q/\∃c l,R q=c::l/\ES c/\c≠45):=by
 rcases fQ q.num with⟨h,_⟩|⟨h,c,l,e,h1,h2⟩
 ·exact .inl ⟨II.1 h,fY (II.1 h)⟩
 ·refine .inr ⟨Rat.num_nonneg.1 h,?_⟩;rw [MM];unfold FG;rw [e]
  split
  ·exact⟨c,l,rfl,h1,h2⟩
  ·exact⟨c,_,rfl,h1,h2⟩
/-! ### Lowest terms -/
theorem vM(n:Int){d:Nat}(hd:0<d):(mkRat n d).num=n/(Nat.gcd n.natAbs d:Nat)/\(mkRat n d).den=d/Nat.gcd n.natAbs d:=by
 rw [Rat.num_mkRat,Rat.den_mkRat,if_neg (by omega),if_neg (by omega),Nat.gcd_comm];exact⟨rfl,rfl⟩
theorem fX(n:Int){d:Nat}(hd:0<d):R (mkRat n d)=FG (n/(Nat.gcd n.natAbs d:Nat)) (d/Nat.gcd n.natAbs d):=by
 obtain⟨h1,h2⟩:=vM n hd;rw [MM,h1,h2]
/-! ### How great a number is -/
structure Sz(k:Nat)(q:Rat):Prop where
 num:q.num.natAbs<10^k
 den:q.den<10^k
theorem Sz.mono{a b:Nat}{q:Rat}(h:Sz a q)(hab:a<=b):Sz b q:=
 have e:10^a<=10^b:=Nat.pow_le_pow_right (by omega) hab
 ⟨Nat.lt_of_lt_of_le h.num e,Nat.lt_of_lt_of_le h.den e⟩
theorem aR(n:Int)(g:Nat)(hg:(g:Int)∣n):(n/g).natAbs<=n.natAbs:=by
 obtain⟨k,rfl⟩:=hg;by_cases h:g=0
 ·subst h;simp
 ·rw [Int.mul_ediv_cancel_left _ (by omega),Int.natAbs_mul];exact Nat.le_mul_of_pos_left _ (by simp;omega)
theorem Sz.mkRat{k:Nat}{n:Int}{d:Nat}(hd:0<d)(h1:n.natAbs<10^k)(h2:d<10^k):Sz k (mkRat n d):=by
 obtain⟨e1,e2⟩:=vM n hd;refine⟨?_,?_⟩
 ·rw [e1];exact Nat.lt_of_le_of_lt (aR _ _ (Int.natAbs_dvd_natAbs.1 (by rw [Int.natAbs_natCast];exact Nat.gcd_dvd_left ..))) h1
 ·rw [e2];exact Nat.lt_of_le_of_lt (Nat.div_le_self _ _) h2
theorem KI{x y a b:Nat}(hx:x<10^a)(hy:y<10^b):x*y<10^(a+b):=by
 rw [Nat.pow_add];exact Nat.mul_lt_mul'' hx hy
theorem mz{x y a:Nat}(hx:x<10^a)(hy:y<10^a):x+y<10^(a+1):=by
 rw [Nat.pow_succ];omega
theorem Sz.add{a b:Nat}{p q:Rat}(hp:Sz a p)(hq:Sz b q):Sz (a+b+1) (p+q):=by
 rw [Rat.add_def'];have h1:=KI hp.num hq.den;have h2:=KI hq.num hp.den;rw [Nat.add_comm b a]at h2;refine Sz.mkRat (Nat.mul_pos p.den_pos q.den_pos) ?_ ?_
 ·have h3:=Int.natAbs_add_le (p.num*q.den) (q.num*p.den);rw [Int.natAbs_mul,Int.natAbs_mul,Int.natAbs_natCast,Int.natAbs_natCast]at h3;exact Nat.lt_of_le_of_lt h3 (mz h1 h2)
 ·exact Nat.lt_of_lt_of_le (KI hp.den hq.den) (Nat.pow_le_pow_right (by omega) (by omega))
theorem Sz.mul{a b:Nat}{p q:Rat}(hp:Sz a p)(hq:Sz b q):Sz (a+b) (p*q):=by
 rw [Rat.mul_def'];refine Sz.mkRat (Nat.mul_pos p.den_pos q.den_pos) ?_ (KI hp.den hq.den);rw [Int.natAbs_mul];exact KI hp.num hq.num
theorem Sz.neg{a:Nat}{p:Rat}(hp:Sz a p):Sz a (-p):=⟨by rw [Rat.neg_num,Int.natAbs_neg];exact hp.num,by rw [Rat.neg_den];exact hp.den⟩
theorem Sz.sub{a b:Nat}{p q:Rat}(hp:Sz a p)(hq:Sz b q):Sz (a+b+1) (p-q):=by
 rw [Rat.sub_eq_add_neg];exact hp.add hq.neg
theorem Sz.inv{a:Nat}{p:Rat}(ha:0<a)(hp:Sz a p):Sz a p⁻¹:=by
 refine⟨?_,?_⟩
 ·rw [Rat.num_inv,Int.natAbs_mul,Int.natAbs_natCast];have:p.num.sign.natAbs<=1:=by rw [Int.natAbs_sign];split<;>omega
  calc _<=1*p.den:=Nat.mul_le_mul_right _ this
   _<_:=by rw [Nat.one_mul];exact hp.den
 ·rw [Rat.den_inv]
  split
  ·exact Nat.one_lt_pow (by omega) (by omega)
  ·exact hp.num
theorem Sz.div{a b:Nat}{p q:Rat}(hb:0<b)(hp:Sz a p)(hq:Sz b q):Sz (a+b) (p/q):=by
 rw [Rat.div_def];exact hp.mul (hq.inv hb)
theorem Sz.int{k:Nat}{z:Int}(hk:0<k)(h:z.natAbs<10^k):Sz k (z:Rat):=⟨h,Nat.one_lt_pow (by omega) (by omega)⟩
end Kl
namespace Go.Proofs.YtgnejnampofhoaaGreatDoor
open Go.RowKit Kl
def Sm(q:Rat):Value:=if (D q.num.natAbs).length<=9/\(D q.den).length<=9 then .tuple #[.int .i64 q.num,.int .i64 q.den,.bool true] else .tuple #[.int .i64 0,.int .i64 0,.bool false]
structure Seg(s:ByteArray)(b:Nat)(m:Bs):Prop where
 le:b+m.length<=s.size
 all:C4 m
 at_:∀(j:Nat) (h:j<s.size),b<=j→j<b+m.length→s[j]=m.getD (j-b) 0
theorem Seg.digit{s:ByteArray}{b:Nat}{m:Bs}(h:Seg s b m){j:Nat}(hj:j<s.size)(h1:b<=j)(h2:j<b+m.length) :
  ∃c:UInt8,s[j]=c/\ES c/\val (m.take (j+1-b))=val (m.take (j-b))*10+(c.toNat-48):=by
 have e:=h.at_ j hj h1 h2;have hl:j-b<m.length:=(by omega);refine⟨m[j-b],?_,h.all _ (Aj0 hl),?_⟩
 ·rw [e];simp [List.getD,hl]
 ·rw [show j+1-b=j-b+1 by omega,Aj2 hl,dQ];rfl
theorem AgY{m:Bs}(h:C4 m){k:Nat} : val (m.take k)<10^k:=by
 have h1:=M9 (nt h k);have h2:10^(m.take k).length<=10^k:=Nat.pow_le_pow_right (by omega) (by rw [List.length_take];omega);omega
theorem Seg.digit'{s:ByteArray}{b:Nat}{m:Bs}(h:Seg s b m){j:Nat}(h1:b<=j)(h2:j<b+m.length)(h9:j<b+9) :
  ∃(c:UInt8) (v:Nat) (hj:j<s.size),s[j]=c/\(48:Int)<=(c.toNat:Int)/\(c.toNat:Int)<=57/\((c.toNat:Int) != 47)=true/\v=val (m.take (j-b))/\(v:Int)<=99999999/\
   ((val (m.take (j+1-b)):Nat):Int)=10*(v:Int)+((c.toNat:Int)-48):=by
 have hj:j<s.size:=(by have:=h.le;omega);obtain⟨c,e1,d,e2⟩:=h.digit hj h1 h2;have hv:=AgY h.all (k:=j-b);have h8:10^(j-b)<=10^8:=Nat.pow_le_pow_right (by omega) (by omega);have h10:(10:Nat)^8=100000000:=(by decide);have:=d.1;have:=d.2;refine⟨c,_,hj,e1,by omega,by omega,?_,rfl,by omega,by rw [e2];omega⟩;rw [bne_iff_ne];omega
def Ew(sg:Bool)(m m2:Bs):Value:=if m.length<=9/\m2.length<=9 then .tuple #[.int .i64 (if sg then -(val m:Int)else (val m:Int)),.int .i64 (val m2:Nat),.bool true] else .tuple #[.int .i64 0,.int .i64 0,.bool false]
theorem Po{sg:Bool}{m m2:Bs}(h:9<m.length∨9<m2.length):Ew sg m m2=.tuple #[.int .i64 0,.int .i64 0,.bool false]:=if_neg (by omega)
theorem Vl{sg:Bool}{m m2:Bs}(h:m.length<=9)(h2:m2.length<=9):Ew sg m m2=.tuple #[.int .i64 (if sg then -(val m:Int)else (val m:Int)),.int .i64 (val m2:Nat),.bool true]:=if_pos ⟨h,h2⟩
theorem Ij{a b:Value}(h:b=a):Ending.returned a=.returned b:=by rw [h]
/-! ### The walks -/
theorem AeV(s:ByteArray)(m:Bs)(hm:Seg s 0 m)(hs:s.size=0+m.length)(hmax:s.size<=100000)(h0:0<m.length)(w:World) :
  Calls Tryz.prog 235 #[.string s] w (fun e w'=>e=.returned (Ew false m [49])/\w=w'):=by
 have hp:(0:Int)<(s.size:Int):=(by omega);obtain⟨c0,-,hs0,e0,d0,d1,-⟩:=hm.digit' (j:=0) (by omega) (by omega) (by omega);have hc:((c0.toNat:Int) == 45)=false:=(by rw [beq_eq_false_iff_ne];omega);clear d0 d1;have HS:=Ajw hs;clear hs;go_enter Tryz.func235,Tryz.ntmps235;go_wp2;clear hc e0 hp
 go_loop [2,3,5] (fun n z i=>∃j:Nat,0<=j/\j<=0+m.length/\j<=0+9/\z=.int .i64 0/\i=.int .i64 (j:Nat)/\n=.int .i64 (val (m.take (j-0)):Nat)) (fun _ _ i=>s.size-(intOf i).toNat)
 case atStart=>exact⟨0,by omega,by omega,by omega,rfl,rfl,by simp [NH]⟩
 case round=>
  obtain⟨j,hj0,Ku,Rl,rfl,rfl,rfl⟩:=hrel;have Zf:j<=s.size:=(by have:=HS.out;omega);by_cases hlt:j<0+m.length
  ·by_cases h9:j=0+9
   ·have GU:j<s.size:=(by have:=HS.out;omega);obtain⟨c,e,d,-⟩:=hm.digit GU hj0 hlt;have d1:=d.1;have FM:((c.toNat:Int) != 47)=true:=(by rw [bne_iff_ne];omega);have I3:(((j:Int)) == 9)=true:=(by rw [beq_iff_eq];omega);have Kw:(j:Int)<(s.size:Int):=(by omega);have I6:(0:Int)<=(j:Int):=(by omega);have HV:Hid (Ew false m [49]=.tuple #[.int .i64 0,.int .i64 0,.bool false]):=Ajw (Po (.inl (by omega)));clear h9 d d1;go_wp2;go_ret3;exact⟨Ij HV.out,rfl⟩
   ·obtain⟨c,v,GU,e,d1,d2,FM,hv,N2,hn⟩:=hm.digit' hj0 hlt (by omega);have I3:(((j:Int)) == 9)=false:=(by rw [beq_eq_false_iff_ne];omega);have Kw:(j:Int)<(s.size:Int):=(by omega);have I6:(0:Int)<=(j:Int):=(by omega);rw [←hv];have HN:=Ajw hn;clear hv hn;go_wp2
    go_round
    case rel=>exact⟨j+1,by omega,by omega,by omega,rfl,by go_num,by rw [HN.out]⟩
    case measure=>simp [intOf];omega
  ·have DK:j=0+m.length:=(by omega);have ht:m.take (j-0)=m:=by rw [DK];simp
   have N2:((val m:Nat):Int)<=999999999:=by have h1:=M9 hm.all;have h2:10^m.length<=10^9:=Nat.pow_le_pow_right (by omega) (by omega);have h3:(10:Nat)^9=1000000000:=(by decide);omega
   have Ch:m.length<=9:=(by omega);rw [ht];have I6:(0:Int)<=(j:Int):=(by omega);have hle:(s.size:Int)<=(j:Int):=(by have:=HS.out;omega);have AB:((j:Int) == (s.size:Int))=true:=(by rw [beq_iff_eq];have:=HS.out;omega);have HV:Hid (Ew false m [49]=.tuple #[.int .i64 ((val m:Int)),.int .i64 1,.bool true]):=Ajw (Vl Ch (by simp));clear ht DK hlt;go_wp2;go_ret3;exact⟨Ij HV.out,rfl⟩
theorem AeT(s:ByteArray)(m m2:Bs)(hm:Seg s 0 m)(Mi:Seg s (0+m.length+1) m2)(hs:s.size=0+m.length+1+m2.length)(h2:0<m2.length)(hq:∃h:0+m.length<s.size,s[0+m.length]=47)(hmax:s.size<=100000)(h0:0<m.length)(w:World) :
  Calls Tryz.prog 235 #[.string s] w (fun e w'=>e=.returned (Ew false m m2)/\w=w'):=by
 have hp:(0:Int)<(s.size:Int):=(by omega);obtain⟨c0,-,hs0,e0,d0,d1,-⟩:=hm.digit' (j:=0) (by omega) (by omega) (by omega);have hc:((c0.toNat:Int) == 45)=false:=(by rw [beq_eq_false_iff_ne];omega);clear d0 d1;have HS:=Ajw hs;clear hs;go_enter Tryz.func235,Tryz.ntmps235;go_wp2;clear hc e0 hp
 go_loop [2,3,5] (fun n z i=>∃j:Nat,0<=j/\j<=0+m.length/\j<=0+9/\z=.int .i64 0/\i=.int .i64 (j:Nat)/\n=.int .i64 (val (m.take (j-0)):Nat)) (fun _ _ i=>s.size-(intOf i).toNat)
 case atStart=>exact⟨0,by omega,by omega,by omega,rfl,rfl,by simp [NH]⟩
 case round=>
  obtain⟨j,hj0,Ku,Rl,rfl,rfl,rfl⟩:=hrel;have Zf:j<=s.size:=(by have:=HS.out;omega);by_cases hlt:j<0+m.length
  ·by_cases h9:j=0+9
   ·have GU:j<s.size:=(by have:=HS.out;omega);obtain⟨c,e,d,-⟩:=hm.digit GU hj0 hlt;have d1:=d.1;have FM:((c.toNat:Int) != 47)=true:=(by rw [bne_iff_ne];omega);have I3:(((j:Int)) == 9)=true:=(by rw [beq_iff_eq];omega);have Kw:(j:Int)<(s.size:Int):=(by omega);have I6:(0:Int)<=(j:Int):=(by omega);have HV:Hid (Ew false m m2=.tuple #[.int .i64 0,.int .i64 0,.bool false]):=Ajw (Po (.inl (by omega)));clear h9 d d1;go_wp2;go_ret3;exact⟨Ij HV.out,rfl⟩
   ·obtain⟨c,v,GU,e,d1,d2,FM,hv,N2,hn⟩:=hm.digit' hj0 hlt (by omega);have I3:(((j:Int)) == 9)=false:=(by rw [beq_eq_false_iff_ne];omega);have Kw:(j:Int)<(s.size:Int):=(by omega);have I6:(0:Int)<=(j:Int):=(by omega);rw [←hv];have HN:=Ajw hn;clear hv hn;go_wp2
    go_round
    case rel=>exact⟨j+1,by omega,by omega,by omega,rfl,by go_num,by rw [HN.out]⟩
    case measure=>simp [intOf];omega
  ·have DK:j=0+m.length:=(by omega);have ht:m.take (j-0)=m:=by rw [DK];simp
   have N2:((val m:Nat):Int)<=999999999:=by have h1:=M9 hm.all;have h2:10^m.length<=10^9:=Nat.pow_le_pow_right (by omega) (by omega);have h3:(10:Nat)^9=1000000000:=(by decide);omega
   have Ch:m.length<=9:=(by omega);rw [ht];have I6:(0:Int)<=(j:Int):=(by omega);have GU:j<s.size:=(by have:=HS.out;omega);have Kw:(j:Int)<(s.size:Int):=(by omega);obtain⟨c,hc⟩:=Ajv (47:UInt8);have e:s[j]=c:=(by rw [hc];obtain⟨_,e⟩:=hq;simp only [DK];exact e);have FM:((c.toNat:Int) != 47)=false:=(by rw [hc];rfl);have AB:((j:Int) == (s.size:Int))=false:=(by rw [beq_eq_false_iff_ne];omega);have hsz:s.size=j+1+m2.length:=(by have:=HS.out;omega);have IU:=Ajw hsz;rw [←DK]at Mi;have hjb:j<=0+9:=Rl;clear ht DK hlt hc hsz;go_wp2;clear FM e AB
   go_loop [2,3,5] (fun z n i=>∃k:Nat,j+1<=k/\k<=j+1+m2.length/\k<=j+1+9/\z=.int .i64 ((val m:Int))/\i=.int .i64 (k:Nat)/\n=.int .i64 (val (m2.take (k-(j+1))):Nat)) (fun _ _ i=>s.size-(intOf i).toNat)
   case atStart=>exact⟨j+1,by omega,by omega,by omega,rfl,by go_num,by simp [NH]⟩
   case round=>
    obtain⟨k,hk0,Dn,hk9,rfl,rfl,rfl⟩:=hrel;have Abr:k<=s.size:=(by have:=IU.out;omega);by_cases hlt2:k<j+1+m2.length
    ·by_cases h9:k=j+1+9
     ·have I7:k<s.size:=(by have:=IU.out;omega);have I3:((k:Int)-((j:Int)+1) == 9)=true:=(by rw [beq_iff_eq];omega);have Zn:(k:Int)<(s.size:Int):=(by omega);have Zg:(0:Int)<=(k:Int):=(by omega);have HV:Hid (Ew false m m2=.tuple #[.int .i64 0,.int .i64 0,.bool false]):=Ajw (Po (.inr (by omega)));clear h9;go_wp2;go_ret3;exact⟨Ij HV.out,rfl⟩
     ·obtain⟨c,v,I7,e,d1,d2,FM,hv,Acf,hn⟩:=Mi.digit' hk0 hlt2 (by omega);have I3:((k:Int)-((j:Int)+1) == 9)=false:=(by rw [beq_eq_false_iff_ne];omega);have Zn:(k:Int)<(s.size:Int):=(by omega);have Zg:(0:Int)<=(k:Int):=(by omega);rw [←hv];have HN:=Ajw hn;clear hv hn FM;go_wp2
      go_round
      case rel=>exact⟨k+1,by omega,by omega,by omega,rfl,by go_num,by rw [HN.out]⟩
      case measure=>simp [intOf];omega
    ·have Ro:k=j+1+m2.length:=(by omega);have Mq:m2.take (k-(j+1))=m2:=(by rw [Ro];simp);have HV:Hid (Ew false m m2=.tuple #[.int .i64 ((val m:Int)),.int .i64 (val m2:Nat),.bool true]):=Ajw (Vl Ch (by omega));have hle:(s.size:Int)<=(k:Int):=(by have:=IU.out;omega);rw [Mq];clear Mq Ro hlt2;go_wp2;go_ret3;exact⟨Ij HV.out,rfl⟩
theorem AeW(s:ByteArray)(m:Bs)(hm:Seg s 1 m)(hs:s.size=1+m.length)(hmax:s.size<=100000)(h0:0<m.length)(hc:∃(h:0<s.size),s[0]=45)(w:World) :
  Calls Tryz.prog 235 #[.string s] w (fun e w'=>e=.returned (Ew true m [49])/\w=w'):=by
 have hp:(0:Int)<(s.size:Int):=(by omega);obtain⟨hs0,e0⟩:=hc;obtain⟨c0,hc0⟩:=Ajv (45:UInt8);rw [←hc0]at e0;have hc:((c0.toNat:Int) == 45)=true:=(by rw [hc0];rfl);clear hc0;have HS:=Ajw hs;clear hs;go_enter Tryz.func235,Tryz.ntmps235;go_wp2;clear hc e0 hp
 go_loop [2,3,5] (fun n z i=>∃j:Nat,1<=j/\j<=1+m.length/\j<=1+9/\z=.int .i64 0/\i=.int .i64 (j:Nat)/\n=.int .i64 (val (m.take (j-1)):Nat)) (fun _ _ i=>s.size-(intOf i).toNat)
 case atStart=>exact⟨1,by omega,by omega,by omega,rfl,rfl,by simp [NH]⟩
 case round=>
  obtain⟨j,hj0,Ku,Rl,rfl,rfl,rfl⟩:=hrel;have Zf:j<=s.size:=(by have:=HS.out;omega);by_cases hlt:j<1+m.length
  ·by_cases h9:j=1+9
   ·have GU:j<s.size:=(by have:=HS.out;omega);obtain⟨c,e,d,-⟩:=hm.digit GU hj0 hlt;have d1:=d.1;have FM:((c.toNat:Int) != 47)=true:=(by rw [bne_iff_ne];omega);have I3:(((j:Int)-1) == 9)=true:=(by rw [beq_iff_eq];omega);have Kw:(j:Int)<(s.size:Int):=(by omega);have I6:(0:Int)<=(j:Int):=(by omega);have HV:Hid (Ew true m [49]=.tuple #[.int .i64 0,.int .i64 0,.bool false]):=Ajw (Po (.inl (by omega)));clear h9 d d1;go_wp2;go_ret3;exact⟨Ij HV.out,rfl⟩
   ·obtain⟨c,v,GU,e,d1,d2,FM,hv,N2,hn⟩:=hm.digit' hj0 hlt (by omega);have I3:(((j:Int)-1) == 9)=false:=(by rw [beq_eq_false_iff_ne];omega);have Kw:(j:Int)<(s.size:Int):=(by omega);have I6:(0:Int)<=(j:Int):=(by omega);rw [←hv];have HN:=Ajw hn;clear hv hn;go_wp2
    go_round
    case rel=>exact⟨j+1,by omega,by omega,by omega,rfl,by go_num,by rw [HN.out]⟩
    case measure=>simp [intOf];omega
  ·have DK:j=1+m.length:=(by omega);have ht:m.take (j-1)=m:=by rw [DK];simp
   have N2:((val m:Nat):Int)<=999999999:=by have h1:=M9 hm.all;have h2:10^m.length<=10^9:=Nat.pow_le_pow_right (by omega) (by omega);have h3:(10:Nat)^9=1000000000:=(by decide);omega
   have Ch:m.length<=9:=(by omega);rw [ht];have I6:(0:Int)<=(j:Int):=(by omega);have hle:(s.size:Int)<=(j:Int):=(by have:=HS.out;omega);have AB:((j:Int) == (s.size:Int))=true:=(by rw [beq_iff_eq];have:=HS.out;omega);have HV:Hid (Ew true m [49]=.tuple #[.int .i64 (-(val m:Int)),.int .i64 1,.bool true]):=Ajw (Vl Ch (by simp));clear ht DK hlt;go_wp2;go_ret3;exact⟨Ij HV.out,rfl⟩
theorem AeU(s:ByteArray)(m m2:Bs)(hm:Seg s 1 m)(Mi:Seg s (1+m.length+1) m2)(hs:s.size=1+m.length+1+m2.length)(h2:0<m2.length)(hq:∃h:1+m.length<s.size,s[1+m.length]=47)(hmax:s.size<=100000)(h0:0<m.length)(hc:∃(h:0<s.size),s[0]=45)(w:World) :
  Calls Tryz.prog 235 #[.string s] w (fun e w'=>e=.returned (Ew true m m2)/\w=w'):=by
 have hp:(0:Int)<(s.size:Int):=(by omega);obtain⟨hs0,e0⟩:=hc;obtain⟨c0,hc0⟩:=Ajv (45:UInt8);rw [←hc0]at e0;have hc:((c0.toNat:Int) == 45)=true:=(by rw [hc0];rfl);clear hc0;have HS:=Ajw hs;clear hs;go_enter Tryz.func235,Tryz.ntmps235;go_wp2;clear hc e0 hp
 go_loop [2,3,5] (fun n z i=>∃j:Nat,1<=j/\j<=1+m.length/\j<=1+9/\z=.int .i64 0/\i=.int .i64 (j:Nat)/\n=.int .i64 (val (m.take (j-1)):Nat)) (fun _ _ i=>s.size-(intOf i).toNat)
 case atStart=>exact⟨1,by omega,by omega,by omega,rfl,rfl,by simp [NH]⟩
 case round=>
  obtain⟨j,hj0,Ku,Rl,rfl,rfl,rfl⟩:=hrel;have Zf:j<=s.size:=(by have:=HS.out;omega);by_cases hlt:j<1+m.length
  ·by_cases h9:j=1+9
   ·have GU:j<s.size:=(by have:=HS.out;omega);obtain⟨c,e,d,-⟩:=hm.digit GU hj0 hlt;have d1:=d.1;have FM:((c.toNat:Int) != 47)=true:=(by rw [bne_iff_ne];omega);have I3:(((j:Int)-1) == 9)=true:=(by rw [beq_iff_eq];omega);have Kw:(j:Int)<(s.size:Int):=(by omega);have I6:(0:Int)<=(j:Int):=(by omega);have HV:Hid (Ew true m m2=.tuple #[.int .i64 0,.int .i64 0,.bool false]):=Ajw (Po (.inl (by omega)));clear h9 d d1;go_wp2;go_ret3;exact⟨Ij HV.out,rfl⟩
   ·obtain⟨c,v,GU,e,d1,d2,FM,hv,N2,hn⟩:=hm.digit' hj0 hlt (by omega);have I3:(((j:Int)-1) == 9)=false:=(by rw [beq_eq_false_iff_ne];omega);have Kw:(j:Int)<(s.size:Int):=(by omega);have I6:(0:Int)<=(j:Int):=(by omega);rw [←hv];have HN:=Ajw hn;clear hv hn;go_wp2
    go_round
    case rel=>exact⟨j+1,by omega,by omega,by omega,rfl,by go_num,by rw [HN.out]⟩
    case measure=>simp [intOf];omega
  ·have DK:j=1+m.length:=(by omega);have ht:m.take (j-1)=m:=by rw [DK];simp
   have N2:((val m:Nat):Int)<=999999999:=by have h1:=M9 hm.all;have h2:10^m.length<=10^9:=Nat.pow_le_pow_right (by omega) (by omega);have h3:(10:Nat)^9=1000000000:=(by decide);omega
   have Ch:m.length<=9:=(by omega);rw [ht];have I6:(0:Int)<=(j:Int):=(by omega);have GU:j<s.size:=(by have:=HS.out;omega);have Kw:(j:Int)<(s.size:Int):=(by omega);obtain⟨c,hc⟩:=Ajv (47:UInt8);have e:s[j]=c:=(by rw [hc];obtain⟨_,e⟩:=hq;simp only [DK];exact e);have FM:((c.toNat:Int) != 47)=false:=(by rw [hc];rfl);have AB:((j:Int) == (s.size:Int))=false:=(by rw [beq_eq_false_iff_ne];omega);have hsz:s.size=j+1+m2.length:=(by have:=HS.out;omega);have IU:=Ajw hsz;rw [←DK]at Mi;have hjb:j<=1+9:=Rl;clear ht DK hlt hc hsz;go_wp2;clear FM e AB
   go_loop [2,3,5] (fun z n i=>∃k:Nat,j+1<=k/\k<=j+1+m2.length/\k<=j+1+9/\z=.int .i64 (-(val m:Int))/\i=.int .i64 (k:Nat)/\n=.int .i64 (val (m2.take (k-(j+1))):Nat)) (fun _ _ i=>s.size-(intOf i).toNat)
   case atStart=>exact⟨j+1,by omega,by omega,by omega,rfl,by go_num,by simp [NH]⟩
   case round=>
    obtain⟨k,hk0,Dn,hk9,rfl,rfl,rfl⟩:=hrel;have Abr:k<=s.size:=(by have:=IU.out;omega);by_cases hlt2:k<j+1+m2.length
    ·by_cases h9:k=j+1+9
     ·have I7:k<s.size:=(by have:=IU.out;omega);have I3:((k:Int)-((j:Int)+1) == 9)=true:=(by rw [beq_iff_eq];omega);have Zn:(k:Int)<(s.size:Int):=(by omega);have Zg:(0:Int)<=(k:Int):=(by omega);have HV:Hid (Ew true m m2=.tuple #[.int .i64 0,.int .i64 0,.bool false]):=Ajw (Po (.inr (by omega)));clear h9;go_wp2;go_ret3;exact⟨Ij HV.out,rfl⟩
     ·obtain⟨c,v,I7,e,d1,d2,FM,hv,Acf,hn⟩:=Mi.digit' hk0 hlt2 (by omega);have I3:((k:Int)-((j:Int)+1) == 9)=false:=(by rw [beq_eq_false_iff_ne];omega);have Zn:(k:Int)<(s.size:Int):=(by omega);have Zg:(0:Int)<=(k:Int):=(by omega);rw [←hv];have HN:=Ajw hn;clear hv hn FM;go_wp2
      go_round
      case rel=>exact⟨k+1,by omega,by omega,by omega,rfl,by go_num,by rw [HN.out]⟩
      case measure=>simp [intOf];omega
    ·have Ro:k=j+1+m2.length:=(by omega);have Mq:m2.take (k-(j+1))=m2:=(by rw [Ro];simp);have HV:Hid (Ew true m m2=.tuple #[.int .i64 (-(val m:Int)),.int .i64 (val m2:Nat),.bool true]):=Ajw (Vl Ch (by omega));have hle:(s.size:Int)<=(k:Int):=(by have:=IU.out;omega);rw [Mq];clear Mq Ro hlt2;go_wp2;go_ret3;exact⟨Ij HV.out,rfl⟩
theorem Qi(l:Bs)(j:Nat)(h:j<(⟨l.toArray⟩:ByteArray).size):(⟨l.toArray⟩:ByteArray)[j]=l.getD j 0:=by
 have h':j<l.length:=(by simpa [ByteArray.size]using h);rw [ByteArray.getElem_eq_getElem_data];simp [List.getD,h']
theorem EY(l:Bs):(⟨l.toArray⟩:ByteArray).size=l.length:=by simp [ByteArray.size]
theorem Py(pre m suf:Bs)(hm:C4 m):Seg ⟨(pre++m++suf).toArray⟩ pre.length m:=
 ⟨by rw [EY];simp,hm,fun j h h1 h2=>by
  rw [Qi];simp only [List.getD_eq_getElem?_getD]
  rw [List.append_assoc,List.getElem?_append_right h1,List.getElem?_append_left (by omega)]⟩
theorem AeR(q:Rat):Sm q=Ew (decide (q<0)) (D q.num.natAbs) (D q.den):=by
 unfold Sm Ew
 split
 ·rw [Le,Le];by_cases h:q<0
  ·have:=II.2 h;simp only [h,decide_true,if_true]
   congr 4;omega
  ·have:¬q.num<0:=fun k=>h (II.1 k);simp only [h,decide_false,Bool.false_eq_true,if_false]
   congr 4;omega
 ·rfl
theorem S9:D 1 = [49]:=by rw [Fz (by omega)];rfl
theorem Ta{z:Int} : (z<0→I z=45::D z.natAbs)/\(¬z<0→I z=D z.natAbs):=by
 constructor
 ·intro h
  rcases DD z with⟨n,rfl,e⟩|⟨n,hn,rfl,e⟩
  ·omega
  ·rw [e];simp
 ·intro h
  rcases DD z with⟨n,rfl,e⟩|⟨n,hn,rfl,e⟩
  ·rw [e];simp
  ·omega
theorem Afj(q:Rat)(hl:(R q).length<=100000)(w:World):Calls Tryz.prog 235 #[S (R q)] w (fun e w'=>e=.returned (Sm q)/\w=w'):=by
 rw [AeR];have hp:=S8 q.num.natAbs;have Z1:=S8 q.den;by_cases hd:q.den=1
 ·rw [PW hd]at hl ⊢;rw [hd,S9];by_cases hn:q.num<0
  ·rw [Ta.1 hn]at hl ⊢;rw [decide_eq_true (II.1 hn)];have h:=Py [45] (D q.num.natAbs) [] (E0 _);simp only [List.append_nil,List.singleton_append,List.length_singleton]at h;exact AeW _ _ h (by rw [EY];simp;omega) (by rw [EY];exact hl) hp ⟨by rw [EY];simp,rfl⟩ w
  ·rw [Ta.2 hn]at hl ⊢;rw [decide_eq_false (fun k=>hn (II.2 k))];have h:=Py [] (D q.num.natAbs) [] (E0 _);simp only [List.append_nil,List.nil_append,List.length_nil]at h;exact AeV _ _ h (by rw [EY];simp) (by rw [EY];exact hl) hp w
 ·rw [Tg hd]at hl ⊢;by_cases hn:q.num<0
  ·rw [Ta.1 hn]at hl ⊢;rw [decide_eq_true (II.1 hn)];have h:=Py [45] (D q.num.natAbs) (47::D q.den) (E0 _);have h2:=Py (45::D q.num.natAbs ++ [47]) (D q.den) [] (E0 _);simp only [List.append_nil,List.length_singleton,List.append_assoc,List.cons_append]at h h2;rw [show (45::(D q.num.natAbs ++ [47])).length=1+(D q.num.natAbs).length+1 by simp;omega]at h2;exact AeU _ _ _ h h2 (by rw [EY];simp;omega) Z1 ⟨by rw [EY];simp;omega,by rw [Qi];simp [List.getD,Nat.add_comm 1]⟩ (by rw [EY];exact hl) hp ⟨by rw [EY];simp,rfl⟩ w
  ·rw [Ta.2 hn]at hl ⊢;rw [decide_eq_false (fun k=>hn (II.2 k))];have h:=Py [] (D q.num.natAbs) (47::D q.den) (E0 _);have h2:=Py (D q.num.natAbs ++ [47]) (D q.den) [] (E0 _);simp only [List.append_nil,List.nil_append,List.length_nil,List.append_assoc,List.cons_append]at h h2;rw [show List.length (D q.num.natAbs ++ [(47:UInt8)])=0+(D q.num.natAbs).length+1 by simp]at h2;exact AeT _ _ _ h h2 (by rw [EY];simp;omega) Z1 ⟨by rw [EY];simp,by rw [Qi];simp [List.getD]⟩ (by rw [EY];exact hl) hp w
end Go.Proofs.YtgnejnampofhoaaGreatDoor
