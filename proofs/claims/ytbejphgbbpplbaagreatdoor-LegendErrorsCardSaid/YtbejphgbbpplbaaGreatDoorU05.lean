/- U05: Rat Chk Drn. -/
import Derived.Test.YtbejphgbbpplbaaGreatDoorU01
import Derived.Lib.IndexMore
namespace Kl
open Go
theorem qy:∀{l m:Bs} {c:UInt8},c∉l→Lib.indexByte (l++c::m) c=l.length
 | [],m,c,_=>by simp [Lib.indexByte]
 | b::l,m,c,h=>by rw [List.cons_append,Lib.indexByte,qy (l:=l) (fun k=>h (List.mem_cons_of_mem _ k))];have:(b == c)=false:=(by rw [beq_eq_false_iff_ne];rintro rfl;exact h (List.mem_cons_self ..));have h2:((l.length:Int) == -1)=false:=(by rw [beq_eq_false_iff_ne];omega);rw [this,h2];simp
theorem qz:∀{l:Bs} {c:UInt8},c∉l→Lib.indexByte l c = -1
 | [],c,_=>rfl
 | b::l,c,h=>by rw [Lib.indexByte,qz (l:=l) (fun k=>h (List.mem_cons_of_mem _ k))];have:(b == c)=false:=(by rw [beq_eq_false_iff_ne];rintro rfl;exact h (List.mem_cons_self ..));rw [this];simp
theorem Qd{l m:Bs}(h:(47:UInt8)∉l):Lib.cut (l++47::m) [47]=(l,m,true):=by
 unfold Lib.cut;rw [Lib.index_one,qy h,if_pos (by omega)];simp
theorem bK{l:Bs}(h:(47:UInt8)∉l):Lib.cut l [47]=(l,[],false):=by
 unfold Lib.cut;rw [Lib.index_one,qz h,if_neg (by omega)]
theorem Sy{q:Rat}(h:q.den=1):R q=I q.num:=if_pos h
theorem Vx{q:Rat}(h:q.den≠1):R q=I q.num++47::D q.den:=if_neg h
def Fu(n:Int)(d:Nat):Bs:=if d=1 then I n else I n++47::D d
theorem Lb(q:Rat):R q=Fu q.num q.den:=rfl
theorem Vw(q:Rat):Lib.cut (R q) [47]=if q.den=1 then (I q.num,[],false)else (I q.num,D q.den,true):=by
 by_cases h:q.den=1
 ·rw [Sy h,bK (ZK _),if_pos h]
 ·rw [Vx h,Qd (ZK _),if_neg h]
theorem Sx{p q:Rat}(h:R p=R q):p=q:=by
 have h2:=Vw p;rw [h,Vw q]at h2;by_cases hq:q.den=1
 ·by_cases hp:p.den=1
  ·rw [if_pos hq,if_pos hp]at h2;have:=PL (congrArg (·.1) h2);exact Rat.ext this.symm (by rw [hp,hq])
  ·rw [if_pos hq,if_neg hp]at h2;have:=congrArg (·.2.2) h2;simp at this
 ·by_cases hp:p.den=1
  ·rw [if_neg hq,if_pos hp]at h2;have:=congrArg (·.2.2) h2;simp at this
  ·rw [if_neg hq,if_neg hp]at h2;have h1:=PL (congrArg (·.1) h2);have h3:=UX (congrArg (·.2.1) h2);exact Rat.ext h1.symm h3.symm
theorem Ade:I 0 = [48]:=by rw [show (0:Int)=((0:Nat):Int)from rfl,FM,FI (by omega)];rfl
theorem Adc:I 1 = [49]:=by rw [show (1:Int)=((1:Nat):Int)from rfl,FM,FI (by omega)];rfl
theorem Ka:R 0 = [48]:=by rw [Sy (by rfl)];exact Ade
theorem Vy:R 1 = [49]:=by rw [Sy (by rfl)];exact Adc
theorem rG{q:Rat} : R q = [48]↔q=0:=⟨fun h=>Sx (by rw [h,Ka]),fun h=>by rw [h,Ka]⟩
theorem Adn{q:Rat} : R q = [49]↔q=1:=⟨fun h=>Sx (by rw [h,Vy]),fun h=>by rw [h,Vy]⟩
theorem JA{q:Rat} : q.num<0↔q<0:=by
 rw [←Int.not_le,Rat.num_nonneg,Rat.not_le]
theorem xf{q:Rat} : 0<q.num↔0<q:=by
 rw [Rat.lt_iff];simp
theorem qX(z:Int):(z<0/\I z=45::I (-z))∨(0<=z/\∃c l,I z=c::l/\FN c/\c≠45):=by
 rcases Ei z with⟨n,rfl,e⟩|⟨n,hn,rfl,e⟩
 ·refine .inr ⟨by omega,?_⟩;rw [e]
  match hd:D n,Ob n with
  | c::r,_=>have:=ES n c (by rw [hd];simp);exact⟨c,r,rfl,this,by rintro rfl;exact absurd this.1 (by decide)⟩
 ·exact .inl ⟨by omega,by rw [e,Int.neg_neg,FM]⟩
theorem AgI{n:Int}{d:Nat}(h:n<0):Fu n d=45::Fu (-n) d:=by
 rcases qX n with⟨_,e⟩|⟨h0,_⟩
 ·unfold Fu;rw [e];split<;>rfl
 ·omega
theorem rJ{q:Rat}(h:q<0):R q=45::R (-q):=by
 rw [Lb,Lb,Rat.neg_num,Rat.neg_den,AgI (JA.2 h)]
theorem ZN(q:Rat):(q<0/\R q=45::R (-q))∨(0<=q/\∃c l,R q=c::l/\FN c/\c≠45):=by
 rcases qX q.num with⟨h,_⟩|⟨h,c,l,e,h1,h2⟩
 ·exact .inl ⟨JA.1 h,rJ (JA.1 h)⟩
 ·refine .inr ⟨Rat.num_nonneg.1 h,?_⟩;rw [Lb];unfold Fu;rw [e]
  split
  ·exact⟨c,l,rfl,h1,h2⟩
  ·exact⟨c,_,rfl,h1,h2⟩
/-! ### Lowest terms -/
theorem vk(n:Int){d:Nat}(hd:0<d):(mkRat n d).num=n/(Nat.gcd n.natAbs d:Nat)/\(mkRat n d).den=d/Nat.gcd n.natAbs d:=by
 rw [Rat.num_mkRat,Rat.den_mkRat,if_neg (by omega),if_neg (by omega),Nat.gcd_comm];exact⟨rfl,rfl⟩
theorem rI(n:Int){d:Nat}(hd:0<d):R (mkRat n d)=Fu (n/(Nat.gcd n.natAbs d:Nat)) (d/Nat.gcd n.natAbs d):=by
 obtain⟨h1,h2⟩:=vk n hd;rw [Lb,h1,h2]
/-! ### How great a number is -/
structure Sz(k:Nat)(q:Rat):Prop where
 num:q.num.natAbs<10^k
 den:q.den<10^k
theorem Sz.mono{a b:Nat}{q:Rat}(h:Sz a q)(hab:a<=b):Sz b q:=
 have e:10^a<=10^b:=Nat.pow_le_pow_right (by omega) hab
 ⟨Nat.lt_of_lt_of_le h.num e,Nat.lt_of_lt_of_le h.den e⟩
theorem lR(n:Int)(g:Nat)(hg:(g:Int)∣n):(n/g).natAbs<=n.natAbs:=by
 obtain⟨k,rfl⟩:=hg;by_cases h:g=0
 ·subst h;simp
 ·rw [Int.mul_ediv_cancel_left _ (by omega),Int.natAbs_mul];exact Nat.le_mul_of_pos_left _ (by simp;omega)
theorem Sz.mkRat{k:Nat}{n:Int}{d:Nat}(hd:0<d)(h1:n.natAbs<10^k)(h2:d<10^k):Sz k (mkRat n d):=by
 obtain⟨e1,e2⟩:=vk n hd;refine⟨?_,?_⟩
 ·rw [e1];exact Nat.lt_of_le_of_lt (lR _ _ (Int.natAbs_dvd_natAbs.1 (by rw [Int.natAbs_natCast];exact Nat.gcd_dvd_left ..))) h1
 ·rw [e2];exact Nat.lt_of_le_of_lt (Nat.div_le_self _ _) h2
theorem NH{x y a b:Nat}(hx:x<10^a)(hy:y<10^b):x*y<10^(a+b):=by
 rw [Nat.pow_add];exact Nat.mul_lt_mul'' hx hy
theorem rZ{x y a:Nat}(hx:x<10^a)(hy:y<10^a):x+y<10^(a+1):=by
 rw [Nat.pow_succ];omega
theorem Sz.add{a b:Nat}{p q:Rat}(hp:Sz a p)(hq:Sz b q):Sz (a+b+1) (p+q):=by
 rw [Rat.add_def'];have h1:=NH hp.num hq.den;have h2:=NH hq.num hp.den;rw [Nat.add_comm b a]at h2;refine Sz.mkRat (Nat.mul_pos p.den_pos q.den_pos) ?_ ?_
 ·have h3:=Int.natAbs_add_le (p.num*q.den) (q.num*p.den);rw [Int.natAbs_mul,Int.natAbs_mul,Int.natAbs_natCast,Int.natAbs_natCast]at h3;exact Nat.lt_of_le_of_lt h3 (rZ h1 h2)
 ·exact Nat.lt_of_lt_of_le (NH hp.den hq.den) (Nat.pow_le_pow_right (by omega) (by omega))
theorem Sz.mul{a b:Nat}{p q:Rat}(hp:Sz a p)(hq:Sz b q):Sz (a+b) (p*q):=by
 rw [Rat.mul_def'];refine Sz.mkRat (Nat.mul_pos p.den_pos q.den_pos) ?_ (NH hp.den hq.den);rw [Int.natAbs_mul];exact NH hp.num hq.num
theorem Sz.neg{a:Nat}{p:Rat}(hp:Sz a p):Sz a (-p):=⟨by rw [Rat.neg_num,Int.natAbs_neg];exact hp.num,by rw [Rat.neg_den];exact hp.den⟩
theorem Sz.sub{a b:Nat}{p q:Rat}(hp:Sz a p)(hq:Sz b q):Sz (a+b+1) (p-q):=by
 rw [Rat.sub_eq_add_neg];exact hp.add hq.neg
theorem Sz.inv{a:Nat}{p:Rat}(ha:0<a)(hp:Sz a p):Sz a p⁻¹:=by
 refine⟨?_,?_⟩
 ·rw [Rat.num_inv,Int.natAbs_mul,Int.natAbs_natCast];have:p.num.sign.natAbs<=1:=by rw [Int.natAbs_sign];split<;>omega
  calc _<=1*p.den:=Nat.mul_le_mul_right _ this
   _<_:=by rw [Nat.one_mul];exact hp.den
 ·rw [Rat.den_inv]
  split
  ·exact Nat.one_lt_pow (by omega) (by omega)
  ·exact hp.num
theorem Sz.div{a b:Nat}{p q:Rat}(hb:0<b)(hp:Sz a p)(hq:Sz b q):Sz (a+b) (p/q):=by
 rw [Rat.div_def];exact hp.mul (hq.inv hb)
theorem Sz.int{k:Nat}{z:Int}(hk:0<k)(h:z.natAbs<10^k):Sz k (z:Rat):=⟨h,Nat.one_lt_pow (by omega) (by omega)⟩
end Kl
namespace Kl
open Go
def KZ(l:Bs):Prop:=∃z:Int,l=I z/\(D z.natAbs).length<=200
structure Zh(t:Bs)(mn:Bool):Prop where
 ne:t≠[]
 len:t.length<=200
 zero:∀m,t=48::m→m = []/\mn=false
 all:Cb t
theorem AjK(l:Bs):([45].isPrefixOf l=true/\∃m,l=45::m/\Lib.trimPrefix l [45]=m)∨([45].isPrefixOf l=false/\Lib.trimPrefix l [45]=l):=by
 match l with
 | []=>exact .inr ⟨rfl,rfl⟩
 | c::m=>
  by_cases h:c=45
  ·subst h;exact .inl ⟨by simp [List.isPrefixOf],m,rfl,by unfold Lib.trimPrefix Lib.hasPrefix;simp [List.isPrefixOf]⟩
  ·have:[45].isPrefixOf (c::m)=false:=by simp only [List.isPrefixOf,Bool.and_true];rw [beq_eq_false_iff_ne];exact fun e=>h e.symm
   exact .inr ⟨this,by unfold Lib.trimPrefix Lib.hasPrefix;rw [this];rfl⟩
theorem uL(l:Bs):KZ l↔Zh (Lib.trimPrefix l [45]) ([45].isPrefixOf l):=by
 rcases AjK l with⟨h1,m,rfl,h2⟩|⟨h1,h2⟩
 ·rw [h1,h2];constructor
  ·rintro⟨z,e,hl⟩
   rcases Ei z with⟨n,rfl,e2⟩|⟨n,hn,rfl,e2⟩
   ·rw [e2]at e;exact absurd e.symm (Zk n m)
   ·rw [e2]at e;obtain rfl:m=D n:=(by simpa using e);have hc:=tV n;refine⟨hc.ne,by simpa using hl,fun q e3=>?_,hc.all⟩
    exfalso
    obtain⟨c,r,e4,_,h48⟩:=Zi n hn;rw [e3]at e4;simp at e4;exact h48 e4.1.symm
  ·intro h;have hc:Can m:=⟨h.ne,h.all,fun q e=>(h.zero q e).1⟩;have e:=pI hc
   have hn:0<val m:=by
    rcases Nat.eq_zero_or_pos (val m)with h0|h0
    ·rw [h0,FI (by omega)]at e;have:=(h.zero [] e.symm).2;simp at this
    ·exact h0
   refine⟨-(val m:Int),by rw [ZJ _ hn,e],?_⟩;rw [show (-(val m:Int)).natAbs=val m by omega,e];exact h.len
 ·rw [h1,h2];constructor
  ·rintro⟨z,e,hl⟩
   rcases Ei z with⟨n,rfl,e2⟩|⟨n,hn,rfl,e2⟩
   ·rw [e2]at e;subst e;have hc:=tV n;exact⟨hc.ne,by simpa using hl,fun q e3=>⟨hc.head q e3,rfl⟩,hc.all⟩
   ·rw [e2]at e;subst e;simp [List.isPrefixOf]at h1
  ·intro h;have hc:Can l:=⟨h.ne,h.all,fun q e=>(h.zero q e).1⟩;have e:=pI hc;exact⟨(val l:Int),by rw [FM,e],by simp only [Int.natAbs_natCast];rw [e];exact h.len⟩
def Cc(l:Bs):Prop:=∃q:Rat,l=R q/\(D q.num.natAbs).length<=200/\(D q.den).length<=200
theorem Aft(l:Bs):(∃n d,l=n++47::d/\(47:UInt8)∉n/\Lib.cut l [47]=(n,d,true))∨((47:UInt8)∉l/\Lib.cut l [47]=(l,[],false)):=by
 by_cases h:(47:UInt8)∈l
 ·obtain⟨n,d,e,hn⟩:=List.eq_append_cons_of_mem h;exact .inl ⟨n,d,e,hn,by rw [e];exact Qd hn⟩
 ·exact .inr ⟨h,bK h⟩
theorem mF{n d:Bs}(hn:(47:UInt8)∉n):Cc (n++47::d)↔∃a b:Int,n=I a/\d=I b/\(D a.natAbs).length<=200/\(D b.natAbs).length<=200/\1<b/\a≠0/\Int.gcd a b=1:=by
 constructor
 ·rintro⟨q,e,h1,h2⟩;have hc:=Vw q;rw [←e,Qd hn]at hc;by_cases hd:q.den=1
  ·rw [if_pos hd]at hc;simp at hc
  ·rw [if_neg hd]at hc;simp only [Prod.mk.injEq,and_true]at hc;refine⟨q.num,q.den,hc.1,by rw [hc.2,FM],h1,by simpa using h2,by have:=q.den_pos;omega,fun h0=>?_,?_⟩
   ·have:=q.reduced;rw [h0]at this;simp at this;exact hd this
   ·have:=q.reduced;unfold Nat.Coprime at this;unfold Int.gcd;rw [Int.natAbs_natCast];exact this
 ·rintro⟨a,b,rfl,rfl,h1,h2,hb,ha,hg⟩;obtain⟨b,rfl⟩:=Int.eq_ofNat_of_zero_le (show 0<=b by omega);unfold Int.gcd at hg;rw [Int.natAbs_natCast]at hg h2;refine⟨⟨a,b,by omega,hg⟩,?_,h1,h2⟩;rw [Vx (by show b≠1;omega),FM]
theorem AlB{l:Bs}(hn:(47:UInt8)∉l):Cc l↔KZ l:=by
 constructor
 ·rintro⟨q,e,h1,h2⟩;by_cases hd:q.den=1
  ·exact⟨q.num,by rw [e,Sy hd],h1⟩
  ·rw [e,Vx hd]at hn;simp at hn
 ·rintro⟨z,rfl,h⟩;exact⟨(z:Rat),(rH z).symm,h,by show (D 1).length<=200;rw [FI (by omega)];simp⟩
end Kl
namespace Go.Proofs.YtbejphgbbpplbaaGreatDoor
open Go.RowKit Kl
def Ann{α:Type} : Result α→World
 | .ok _ w=>w
 | .halt _ w=>w
theorem AdR{α:Type}(a:Ask α):∀(w:World),w.drawn<=(w.ask a).2.drawn:=by
 induction a with
 | done a=>intro w;exact ArZ _
 | ask what range k ih=>
  intro w;unfold World.ask;simp only []
  split
  ·exact ih _ _
  ·exact Asl (Nat.le_succ w.drawn) (ih _ {w with drawn:=w.drawn+1})
theorem AoD(w:World)(c:Sys):w.drawn<=(w.sys c).2.drawn:=by
 have h:=AdR (Kernel.perform c w.os) w;unfold World.sys
 split
 ·exact ArZ _
 ·rename_i r os w' _ he
  rw [he]at h;exact h
theorem Agl{ε α β:Type}{x:Except ε α}{f:α→Except ε β}{y:β}(h:(x >>= f)=.ok y):∃a,x=.ok a/\f a=.ok y:=by
 cases x with
 | error e=>cases h
 | ok a=>exact⟨a,rfl,h⟩
theorem Apl{p:Program}{w w':World}{a:Addr}{u:TypeId}{k:Addr}{v:Value}{at_:Bool}{l:List Addr}(h:w.viewStore p a u k v at_=.ok (w',l)):w'.drawn=w.drawn:=by
 unfold World.viewStore at h;simp only []at h
 repeat' first
  | (cases h;done)
  | (simp only [pure,Except.pure,Except.ok.injEq,Prod.mk.injEq]at h;obtain⟨rfl,_⟩:=h;rfl)
  | (obtain⟨_,_,h⟩:=Agl h)
  | split at h
theorem Agy{p:Program}{w w':World}{a:Addr}{v:Value}{at_:Bool}{l:List Addr}(h:w.farStore p a v at_=.ok (w',l)):w'.drawn=w.drawn:=by
 unfold World.farStore at h
 split at h
 ·split at h
  ·rename_i hv;simp only [Except.ok.injEq]at h;subst h;exact Apl hv
  ·cases h
 ·cases h
theorem Aaz (p : Program) {α : Type} (s : Sem α) : ∀ (w : World), w.drawn ≤ (Ann (s.run p w)).drawn := by
  induction s with
  | pure a => intro w; exact ArZ _
  | load m a k ih => intro w; simp only [Sem.run]; (repeat' split) <;> first | exact ih _ _ | exact ArZ _
  | store m a v k ih =>
    intro w
    cases v <;> simp only [Sem.run] <;> first
      | exact ArZ _
      | (split
         · split
           · exact ArZ _
           · exact ih (w.setCell a _)
         · split
           · rename_i hf; rw [← Agy hf]; exact ih _
           · exact ArZ _)
  | new o k ih => intro w; simp only [Sem.run]; exact ih w.heap.size { w with heap := w.heap.push o }
  | shape r k ih => intro w; simp only [Sem.run]; exact ih _ _
  | freeze a n k ih =>
    intro w; simp only [Sem.run]
    refine Asl (Nat.le_of_eq ?_) (ih (w.freeze a n))
    unfold World.freeze; split <;> rfl
  | frozen a k ih => intro w; simp only [Sem.run]; exact ih _ _
  | getObj r k ih => intro w; simp only [Sem.run]; split <;> first | exact ih _ _ | exact ArZ _
  | setObj r o k ih => intro w; simp only [Sem.run]; split <;> first | exact ih { w with heap := w.heap.setIfInBounds r o } | exact ArZ _
  | choose q k ih => intro w; simp only [Sem.run]; split <;> first | exact ih _ _ | exact Asl (Nat.le_succ w.drawn) (ih _ { w with drawn := w.drawn + 1 })
  | sys c k ih => intro w; simp only [Sem.run]; exact Asl (AoD w c) (ih _ _)
  | program k ih => intro w; simp only [Sem.run]; exact ih _ _
  | mark m k ih => intro w; simp only [Sem.run]; exact ih _
  | halt h => intro w; exact ArZ _
theorem Hj{p:Program}{α:Type}{s:Sem α}{w w':World}{a:α}(h:s.run p w=.ok a w'):w.drawn<=w'.drawn:=by
 have:=Aaz p s w;rw [h]at this;exact this
theorem YG{p:Program}{α:Type}{s:Sem α}{w w':World}{a:Halt}(h:s.run p w=.halt a w'):w.drawn<=w'.drawn:=by
 have:=Aaz p s w;rw [h]at this;exact this
theorem UM{p:Program}{α:Type}{s:Sem α}{w w':World}{a:α}{es es':Array Event}(h:s.runT p w es=(.ok a w',es')):w.drawn<=w'.drawn:=by
 have e:=Sem.runT_fst p s w es;rw [h]at e;exact Hj e.symm
theorem nG{p:Program}{α:Type}{s:Sem α}{w w':World}{a:Halt}{es es':Array Event}(h:s.runT p w es=(.halt a w',es')):w.drawn<=w'.drawn:=by
 have e:=Sem.runT_fst p s w es;rw [h]at e;exact YG e.symm
theorem YF{p:Program}{α:Type}{s:Sem α}{w w':World}{a:α}{es:Array Event}(h:(s.runT p w es).1=.ok a w'):w.drawn<=w'.drawn:=Hj ((Sem.runT_fst p s w es).symm.trans h)
theorem Aay{p:Program}{α:Type}{s:Sem α}{w w':World}{a:Halt}{es:Array Event}(h:(s.runT p w es).1=.halt a w'):w.drawn<=w'.drawn:=YG ((Sem.runT_fst p s w es).symm.trans h)
def CW(w:World):GStep→Prop
 | .go _ w' _=>w.drawn<=w'.drawn
 | .comm _ _ _ _ w' _=>w.drawn<=w'.drawn
 | .spawn _ _ w' _=>w.drawn<=w'.drawn
 | .count _ w' _=>w.drawn<=w'.drawn
 | .timer _ _ w' _=>w.drawn<=w'.drawn
 | .alone _ _ w' _=>w.drawn<=w'.drawn
 | .newcoro _ _ _ w' _=>w.drawn<=w'.drawn
 | .coroswitch _ _ _ w' _=>w.drawn<=w'.drawn
 | .collect _ w' _=>w.drawn<=w'.drawn
 | .watch _ w' _=>w.drawn<=w'.drawn
 | .ended _ _ _=>True
theorem K8{w:World}{es:Array Event}{g:GStep}(h:CW w g):CW w (GStep.after es g):=by cases g<;>exact h
theorem G1{w w':World}{g:GStep}(h:w.drawn<=w'.drawn)(k:CW w' g):CW w g:=by
 cases g<;>first|exact Asl h k|trivial
theorem Al2(fr:Frame)(l:List ByteArray)(m:String)(b:Bool)(w:World):CW w (dieOf fr l m b w):=ArZ _
theorem Yy(fr:Frame)(m:String)(w:World):CW w (endThrow fr m w):=ArZ _
theorem Al3(w:World)(fd:Nat)(t:ByteArray)(o:Outcome):CW w (endWith w fd t o):=by
 unfold endWith;simp only []
 repeat' first
  | trivial
  | split
theorem mC(p:Program)(fr:Frame)(v:Value)(w:World):CW w (endPrinting p fr v w):=by
 unfold endPrinting;simp only []
 repeat' first
  | trivial
  | exact Yy _ _ _
  | split
theorem xq(p:Program)(fr:Frame)(cs:List Frame)(d:Option Dying)(m:String)(w:World):CW w (endFatal p fr cs d m w):=by
 unfold endFatal;simp only []
 repeat' first
  | trivial
  | (rename_i h;exact G1 (Hj h) (Al2 _ _ _ _ _))
  | split
theorem Al9(p:Program)(fr:Frame)(d:Dying)(f:Fatal)(w:World):CW w (writeOn p fr d f w):=by
 unfold writeOn;simp only []
 repeat' first
  | trivial
  | (rename_i h;exact UM h)
  | (rename_i h;exact nG h)
  | split
theorem Al1(p:Program)(fr:Frame)(d:Dying)(w:World):CW w (die p fr d w):=by
 unfold die;simp only []
 repeat' first
  | trivial
  | exact Al9 _ _ _ _ _
  | exact Al3 _ _ _ _
  | exact ArZ _
  | (rename_i h;exact Hj h)
  | (rename_i h;exact UM h)
  | (rename_i h;exact G1 (nG h) (mC _ _ _ _))
  | (rename_i h;exact K8 (YF h))
  | (rename_i h;exact K8 (G1 (Aay h) (mC _ _ _ _)))
  | split
theorem Al5{w:World}{c:Prop}[Decidable c]{a b:GStep}(ha:CW w a)(hb:CW w b):CW w (if c then a else b):=by split<;>assumption
theorem mD(p:Program)(b:Bool)(fr:Frame)(cs:List Frame)(d:Option Dying)(v:Value)(w:World):CW w (doReturn p b fr cs d v w):=by
 unfold doReturn;simp only []
 repeat' first
  | trivial
  | exact ArZ _
  | split
theorem Al0(p:Program)(fr:Frame)(cs:List Frame)(dy:Option Dying)(d:Deferred)(w:World):CW w (callDeferred p fr cs dy d w):=by
 unfold callDeferred;refine Al5 trivial ?_
 ·generalize hx:(invoke d.target d.args).runT p w #[]=x;obtain⟨r,es⟩:=x;simp only [];refine K8 ?_
  cases r with
  | ok a w'=>
   have hd:=UM hx
   cases a<;>(try simp only [])<;>repeat' first
    | trivial
    | exact hd
    | (injections;done)
    | (injections;subst_vars;exact hd)
    | split
  | halt h w'=>
   have hd:=nG hx
   cases h<;>(try simp only [])<;>repeat' first
    | trivial
    | exact hd
    | (injections;done)
    | (injections;subst_vars;exact hd)
    | exact G1 hd (xq _ _ _ _ _ _)
    | exact G1 hd (Yy _ _ _)
    | split
theorem mB(p:Program)(fr:Frame)(cs:List Frame)(d:Option Dying)(g:Nat)(w:World):CW w (early p fr cs d g w):=by
 unfold early;simp only []
 repeat' first
  | trivial
  | exact ArZ _
  | (refine G1 (Hj (by assumption)) ?_)
  | split
theorem Al8 (p : Program) (b : Bool) (fr : Frame) (cs : List Frame) (d : Option Dying) (w : World) : CW w (unwind p b fr cs d w) := by
  unfold unwind
  split
  · generalize hx : (Instr.takeDeferred _).runT p w #[] = x
    obtain ⟨r, es⟩ := x
    simp only []
    refine K8 ?_
    cases r with
    | ok a w' => exact UM hx
    | halt h w' => trivial
  · exact Al0 _ _ _ _ _ _
  · repeat' first
      | trivial
      | exact ArZ _
      | (rename_i h; exact Hj h)
      | exact mC _ _ _ _
      | exact mD _ _ _ _ _ _ _
      | (generalize hx : (results _ _).runT p w #[] = x
         obtain ⟨r, es⟩ := x
         simp only []
         refine K8 ?_
         cases r with
         | ok a w' => exact G1 (UM hx) (mD _ _ _ _ _ _ _)
         | halt h w' => cases h <;> trivial)
      | split
theorem Yx(p:Program)(b:Bool)(fr:Frame)(cs:List Frame)(d:Option Dying)(s:Sem Next)(w:World):CW w (stepG.apply p b fr cs d s w):=by
 unfold stepG.apply
 have hr:(if b=true then s.runT p w #[] else (s.run p w,#[])).1=s.run p w:=by
  split
  ·exact Sem.runT_fst p s w #[]
  ·rfl
 generalize hx:(if b=true then s.runT p w #[] else (s.run p w,#[]))=x at hr;obtain⟨r,es⟩:=x;simp only []at hr;simp only [];refine K8 ?_
 cases r with
 | ok a w'=>
  have hd:=Hj hr.symm
  cases a<;>(try simp only [])<;>repeat' first
   | trivial
   | exact hd
   | (injections;done)
   | (injections;subst_vars;exact hd)
   | (injections;subst_vars;exact G1 hd (mB _ _ _ _ _ _))
   | exact G1 hd (Yy _ _ _)
   | split
 | halt h w'=>
  have hd:=YG hr.symm
  cases h<;>(try simp only [])<;>repeat' first
   | trivial
   | exact hd
   | (injections;done)
   | (injections;subst_vars;exact hd)
   | (injections;subst_vars;exact G1 hd (mB _ _ _ _ _ _))
   | exact G1 hd (xq _ _ _ _ _ _)
   | exact G1 hd (Yy _ _ _)
   | exact G1 hd (mB _ _ _ _ _ _)
   | split
theorem Al6(p:Program)(b:Bool)(fr:Frame)(cs:List Frame)(d:Option Dying)(w:World):CW w (stepG.oper p b fr cs d w):=by
 unfold stepG.oper
 split
 ·trivial
 ·split<;>exact Yx _ _ _ _ _ _ _
theorem xp{α:Type}{w:World}(o:Option α)(a:GStep)(f:α→GStep)(ha:CW w a)(h:∀x,CW w (f x)):CW w (o.elim a f):=by
 cases o
 ·exact ha
 ·exact h _
theorem Al4(p:Program)(m b:Bool)(fr:Frame)(cs:List Frame)(d:Option Dying)(w:World):CW w (stepG.exec p m b fr cs d w):=by
 unfold stepG.exec;simp only []
 split
 all_goals repeat' first
  | trivial
  | exact ArZ _
  | exact Al6 _ _ _ _ _ _
  | exact Yx _ _ _ _ _ _ _
  | (rename_i h;exact Hj h)
  | refine xp _ _ _ ?_ (fun _=>ArZ _)
  | exact xp _ _ _ trivial (fun _=>Yx _ _ _ _ _ _ _)
  | (rename_i h;exact K8 (G1 (YF h) (mD _ _ _ _ _ _ _)))
  | (rename_i h;exact K8 (G1 (YF h) (Yx _ _ _ _ _ _ _)))
  | (rename_i h;exact K8 (YF h))
  | (rename_i h;exact K8 (Aay h))
  | split
theorem Al7(p:Program)(m:Bool)(g:Goroutine)(w:World)(b:Bool):CW w (stepG p m g w b):=by
 obtain⟨fr,callers,status,dying,offers⟩:=g;simp only [stepG]
 split
 ·exact Al1 _ _ _ _
 ·exact Al4 _ _ _ _ _ _ _
 ·exact Al8 _ _ _ _ _ _
/-! ### The machine -/
def NL(w:World):Stepped→Prop
 | .next m=>w.drawn<=m.world.drawn
 | .ended _ _=>True
theorem Pq{w w':World}{g:Stepped}(h:w.drawn<=w'.drawn)(k:NL w' g):NL w g:=by
 cases g<;>first|exact Asl h k|trivial
def UC(w:World):Move→Prop
 | .goroutine m _=>w.drawn<=m.world.drawn
 | .machine s _=>NL w s
theorem UD{w w':World}{g:Move}(h:w.drawn<=w'.drawn)(k:UC w' g):UC w g:=by
 cases g
 ·exact Asl h k
 ·exact Pq h k
theorem App{rest:Rest}{cases:Array CommCase}{w w':World}(h:waitingAt rest cases w=some w'):w'.drawn=w.drawn:=by
 unfold waitingAt at h
 repeat' first
  | (cases h;done)
  | (simp only [Ase]at h;subst h;rfl)
  | split at h
theorem AlC(p:Program)(rest:Rest)(gs:Array Goroutine)(i:Nat)(g:Goroutine)(cases:Array CommCase)(b:Bool)(shape:CommShape)(w:World):NL w (communicate p rest gs i g cases b shape w).1:=by
 unfold communicate;simp only []
 repeat' first
  | trivial
  | exact ArZ _
  | (refine Pq (Hj (by assumption)) ?_)
  | (refine Pq (YG (by assumption)) ?_)
  | (rename_i h;exact Nat.le_of_eq (App h).symm)
  | split
theorem xt(p:Program)(gs:Array Goroutine)(rest:Rest)(w:World):NL w (look p gs rest w):=by
 unfold look;simp only []
 repeat' first
  | trivial
  | exact ArZ _
  | (refine Pq (Hj (by assumption)) ?_)
  | split
theorem AlE(p:Program)(m:Machine)(k:Nat):NL m.world (serve p m k):=by
 unfold serve;simp only []
 repeat' first
  | trivial
  | exact ArZ _
  | split
theorem AoM{m m':Machine}{op:TimerOp}{v:Value}(h:timerOp m op=.ok (v,m')):m'.world.drawn=m.world.drawn:=by
 have hd:∀(w:World) (c:Nat),(drain w c).2.drawn=w.drawn:=by intro w c;unfold drain;split<;>rfl
 have hr:∀(m:Machine) (k:Nat) (t:Timer) (a b:Nat),(retime m k t a b).2.world.drawn=m.world.drawn:=by
  intro m k t a b;unfold retime
  cases t.chan with
  | none=>rfl
  | some c=>exact hd _ _
 have hn:∀(m m0:Machine) (var:Addr) (f:Nat→Timer→Value×Machine),(∀k t,(f k t).2.world.drawn=m0.world.drawn)→∀{v m'},timerOp.named m var f=.ok (v,m')→m'.world.drawn=m0.world.drawn:=by
  intro m m0 var f hf v m' h;unfold timerOp.named at h
  split at h
  ·simp only [Except.ok.injEq]at h;have:=hf (by assumption) (m.rest.timers.getD (by assumption) default);rw [h]at this;exact this
  ·cases h
 have ho:∀{m m':Machine} {var:Addr},timerOp.opened m var=some m'→m'.world.drawn=m.world.drawn:=by
  intro m m' var h;unfold timerOp.opened at h
  repeat' first
   | (cases h;done)
   | (simp only [Ase]at h;subst h;rfl)
   | split at h
 unfold timerOp at h;simp only []at h
 repeat' first
  | (cases h;done)
  | (simp only [Except.ok.injEq,Prod.mk.injEq]at h;obtain⟨_,rfl⟩:=h;rfl)
  | exact hn _ _ _ _ (fun k t=>hr _ _ _ _ _) h
  | (rename_i h1;exact(hn _ _ _ _ (fun k t=>hr _ _ _ _ _) h).trans (ho h1))
  | split at h
theorem AlD(p:Program)(m:Machine)(i:Nat)(b:Bool):NL m.world (runT p m i b).1:=by
 simp only [runT];generalize m.gs.swapAt! _ _=gg;have hs:=Al7 p (i == 0) gg.1 m.world b
 revert hs
 generalize stepG p _ gg.1 m.world b=s;intro hs
 cases s<;>simp only [CW]at hs<;>(try simp only [])
 all_goals repeat' first
  | trivial
  | exact hs
  | exact Pq hs (AlC _ _ _ _ _ _ _ _ _)
  | exact Pq hs (xt _ _ _ _)
  | (rename_i h;exact Asl hs (Nat.le_of_eq (AoM h).symm))
  | split
theorem Ad4{p:Program}{α:Type}{s:Sem α}{W w':World}{gs:Array Goroutine}{rest:Rest}{t:Nat}{a:α}(h:s.run p (Machine.advanceTo ⟨W,gs,rest⟩ t).world=.ok a w'):W.drawn<=w'.drawn:=by have:=Hj h;exact this
theorem mE(p:Program)(m:Machine):UC m.world (askOn p m):=by
 unfold askOn;simp only []
 repeat' first
  | trivial
  | exact ArZ _
  | exact AlE _ _ _
  | (refine UD (Hj (by assumption)) ?_)
  | (refine UD (Ad4 (by assumption)) ?_)
  | split
theorem xr(p:Program)(m:Machine):UC m.world (ask p m):=by
 unfold ask
 split
 ·split
  ·trivial
  ·refine UD (Hj (by assumption)) ?_;have:=xt p m.gs m.rest (by assumption)
   split
   ·rename_i h;rw [h]at this;exact UD this (mE _ _)
   ·rename_i e _;cases e<;>first|exact absurd rfl (by assumption)|trivial
  ·exact UD (Hj (by assumption)) (mE _ _)
 ·exact mE _ _
theorem AlA(p:Program)(m:Machine):UC m.world (move p m):=by
 unfold move
 repeat' first
  | trivial
  | exact ArZ _
  | exact xr p _
  | exact xr p {m with rest:={m.rest with slice:=none}}
  | split
theorem AlF(p:Program)(m:Machine):NL m.world (step p m):=by
 have hm:=AlA p m;unfold step stepT
 cases h:move p m with
 | goroutine m1 i=>rw [h]at hm;exact Pq hm (AlD p m1 i true)
 | machine s ops=>rw [h]at hm;exact hm
theorem Aax(p:Program):∀(n:Nat) (m m':Machine),runN p n m=.next m'→m.world.drawn<=m'.world.drawn
 | 0,m,m',h=>by simp only [runN,Stepped.next.injEq]at h;rw [h];exact ArZ _
 | n+1,m,m',h=>by
  have hs:=AlF p m;unfold runN at h
  cases h1:step p m with
  | next m1=>rw [h1]at h hs;exact Asl hs (Aax p n m1 m' h)
  | ended o w=>rw [h1]at h;cases h
theorem Steps.drawn{P:Program}{m m':Machine}(h:Steps P m m'):m.world.drawn<=m'.world.drawn:=by
 obtain⟨n,hn⟩:=h;exact Aax P n m m' hn
theorem Calls.drawn{P:Program}{f:FuncId}{args:Array Value}{w:World}{R:Ending→World→Prop}(h:Calls P f args w R)(hr:∀e w',R e w'→∃v,e=.returned v):Calls P f args w fun e w'=>R e w'/\w.drawn<=w'.drawn:=by
 intro cs;obtain⟨e,w',fr,h1,h2,h3⟩:=h cs;obtain⟨v,rfl⟩:=hr e w' h1;exact⟨_,w',fr,⟨h1,Steps.drawn h2⟩,h2,h3⟩
theorem Aa.grow{w w':World}(h:Aa w w')(hd:w.drawn<=w'.drawn):∃q os,w'=Go.Sort.grow (w.drewN q) os:=by
 refine⟨w'.drawn-w.drawn,w'.heap.extract w.heap.size w'.heap.size,?_⟩
 have hh:w.heap++w'.heap.extract w.heap.size w'.heap.size=w'.heap:=by
  apply Array.ext_getElem?;intro i;rw [Array.getElem?_append]
  split
  ·rename_i hi;exact(h.block i hi).symm
  ·rename_i hi
   rw [Array.getElem?_extract]
   split
   ·congr 1;omega
   ·rw [Array.getElem?_eq_none (by omega)]
 have h1:=h.os;have h2:=h.tape;have h3:=h.output;unfold Go.Sort.grow World.drewN;simp only;rw [hh,Nat.add_sub_of_le hd,←h1,←h2,←h3]
end Go.Proofs.YtbejphgbbpplbaaGreatDoor
