/- Z08: Int6 Int7. -/
import Derived.Test.YtdaefncphfeaeaaGreatDoorZ06
set_option maxRecDepth 100000
set_option maxHeartbeats 1000000
namespace Go.Proofs.YtdaefncphfeaeaaGreatDoor
open Go.RowKit Kl
theorem uz(n:Nat):[45].isPrefixOf (D n)=false:=by
 match hd:D n,IX n with
 | c::r,_=>have:=(C7 n c (by rw [hd];simp)).1;simp only [List.isPrefixOf,Bool.and_true];rw [beq_eq_false_iff_ne];rintro rfl;exact absurd this (by decide)
theorem ve(l:Bs):[45].isPrefixOf (45::l)=true:=by simp [List.isPrefixOf]
theorem AoE(n:Nat):Lib.trimPrefix (D n) [45]=D n:=by unfold Lib.trimPrefix Lib.hasPrefix;rw [uz];rfl
theorem AoF(l:Bs):Lib.trimPrefix (45::l) [45]=l:=by unfold Lib.trimPrefix Lib.hasPrefix;rw [ve];rfl
theorem pD(z:Int):Lib.trimPrefix (I z) [45]=D z.natAbs:=by
 rcases Ed z with⟨n,rfl,e⟩|⟨n,_,rfl,e⟩
 ·rw [e,AoE];simp
 ·rw [e,AoF];simp
theorem vd(z:Int):[45].isPrefixOf (I z)=decide (z<0):=by
 rcases Ed z with⟨n,rfl,e⟩|⟨n,_,rfl,e⟩
 ·rw [e,uz];symm;rw [decide_eq_false_iff_not];omega
 ·rw [e,ve];symm;rw [decide_eq_true_eq];omega
theorem ML:I 0 = [48]:=by rw [show (0:Int)=((0:Nat):Int)from rfl,Ci,Ew (by omega)];rfl
theorem Ad4{z:Int} : I z = [48]↔z=0:=by
 constructor
 ·intro h;exact Qa (by rw [h,ML])
 ·rintro rfl;exact ML
theorem MK:I 1 = [49]:=by rw [show (1:Int)=((1:Nat):Int)from rfl,Ci,Ew (by omega)];rfl
theorem Ad3{z:Int} : I z = [49]↔z=1:=by
 constructor
 ·intro h;exact Qa (by rw [h,MK])
 ·rintro rfl;exact MK
theorem MJ{z:Int}(h:z≠0):(I z == [48])=false:=by rw [beq_eq_false_iff_ne];exact fun e=>h (Ad4.1 e)
theorem rQ{z:Int}(h:z≠1):(I z == [49])=false:=by rw [beq_eq_false_iff_ne];exact fun e=>h (Ad3.1 e)
def Av(z:Int):Prop:=z.natAbs<Big
theorem Av.len{z:Int}(h:Av z):(I z).length<=4001:=G3 (k:=WH) (by decide) h
def Fb(z:Int):Int:=if z=0 then 0 else if z<0 then -1 else 1
theorem AnT{z:Int}(h:z=0):Fb z=0:=by unfold Fb;rw [if_pos h]
theorem V8{z:Int}(h:z<0):Fb z = -1:=by unfold Fb;rw [if_neg (by omega),if_pos h]
theorem RU{z:Int}(h:0<z):Fb z=1:=by unfold Fb;rw [if_neg (by omega),if_neg (by omega)]
theorem NT(z:Int)(w:World):Calls Tryz.prog 148 #[S (I z)] w (AQ (Fb z) w):=by
 by_cases h0:z=0
 ·subst h0;rw [ML];go_enter Tryz.func148,Tryz.ntmps148;go_wp2;go_ret;exact⟨rfl,Aa.refl _⟩
 ·have h1:=MJ h0;have hp:=vd z;by_cases hn:z<0
  ·rw [decide_eq_true hn]at hp;go_enter Tryz.func148,Tryz.ntmps148
   go_wp2_with (go_at_call 222;refine(zM (I z) [45] _).mono ?_;rintro e w1 ⟨rfl,hx1⟩)
   go_ret;exact⟨DJ (V8 hn),hx1⟩
  ·rw [decide_eq_false hn]at hp;go_enter Tryz.func148,Tryz.ntmps148
   go_wp2_with (go_at_call 222;refine(zM (I z) [45] _).mono ?_;rintro e w1 ⟨rfl,hx1⟩)
   go_ret;exact⟨DJ (RU (by omega)),hx1⟩
theorem Ad6{z:Int} : (z=0→I (-z)=I z)/\(0<z→I (-z)=45::I z)/\(z<0→I z=45::I (-z)):=by
 refine⟨fun h=>by rw [h];rfl,fun h=>?_,fun h=>?_⟩
 ·rcases Ed z with⟨n,rfl,e⟩|⟨n,hn,rfl,e⟩
  ·rw [e,Qb n (by omega)]
  ·omega
 ·rcases Ed z with⟨n,rfl,e⟩|⟨n,hn,rfl,e⟩
  ·omega
  ·rw [e,Int.neg_neg,Ci]
theorem P6(z:Int)(hb:Av z)(w:World):Calls Tryz.prog 72 #[S (I z)] w (A0 (I (-z)) w):=by
 obtain⟨e0,e1,e2⟩:=Ad6 (z:=z)
 rcases Int.lt_trichotomy z 0 with h|h|h
 ·rw [e2 h];have hs:=NT z;rw [V8 h,e2 h]at hs;clear e0 e1 e2;go_enter Tryz.func72,Tryz.ntmps72
  go_wp2_with (go_at_call 148;((with_reducible refine(hs _).mono ?_);rintro e w1 ⟨rfl,hx1⟩))
  go_ret;exact⟨Ch (by rw [OG];simp),hx1⟩
 ·subst h;have hs:=NT 0;rw [AnT rfl]at hs;clear e0 e1 e2;go_enter Tryz.func72,Tryz.ntmps72
  go_wp2_with (go_at_call 148;((with_reducible refine(hs _).mono ?_);rintro e w1 ⟨rfl,hx1⟩))
  go_ret;exact⟨rfl,hx1⟩
 ·rw [e1 h];have hs:=NT z;rw [RU h]at hs;have FQ:=hb.len;clear e0 e1 e2;go_enter Tryz.func72,Tryz.ntmps72
  go_wp2_with (go_at_call 148;((with_reducible refine(hs _).mono ?_);rintro e w1 ⟨rfl,hx1⟩))
  go_ret;exact⟨Ch (by apply ByteArray.ext;simp),hx1⟩
theorem P7(z:Int)(h0:-9223372036854775808<=z)(h1:z<=9223372036854775807)(w:World)(hw:Ai w):Calls Tryz.prog 77 #[.int .i64 z] w (A0 (I z) w):=by
 have hi:=J0 z h0 h1 w hw;clear h0 h1;go_enter Tryz.func77,Tryz.ntmps77
 go_wp2_with (go_at_call 101;((with_reducible refine hi.mono ?_);rintro e w1 ⟨rfl,hx1⟩))
 go_ret;exact⟨rfl,hx1⟩
def PH(z:Int)(k:Nat):Value:=if (I z).length<=k then .tuple #[.int .i64 z,.bool true] else .tuple #[.int .i64 0,.bool false]
theorem Aat(z:Int)(k:Nat)(hk:k<=18)(w:World):Calls Tryz.prog 142 #[S (I z),.int .i64 (k:Nat)] w (Bg (PH z k) w):=by
 by_cases h:(I z).length<=k
 ·have hz:z.natAbs<10^18:=by
   rcases Ed z with⟨n,rfl,e⟩|⟨n,hn,rfl,e⟩
   ·rw [e]at h;simpa using J1 (n:=n) (k:=18) (by omega)
   ·rw [e,List.length_cons]at h;simpa using J1 (n:=n) (k:=18) (by omega)
  have ha:=O6 z (by omega) (by omega) w;have hq:PH z k=.tuple #[.int .i64 z,.bool true]:=if_pos h;rw [hq];clear hz hq;go_enter Tryz.func142,Tryz.ntmps142
  go_wp2_with (go_at_call 57;((with_reducible refine ha.mono ?_);rintro e w1 ⟨rfl,hx1⟩))
  go_quiet (fail)
  go_wp2;go_ret2;exact⟨rfl,hx1.drewN _⟩
 ·have hq:PH z k=.tuple #[.int .i64 0,.bool false]:=if_neg h;rw [hq];have h':k<(I z).length:=(by omega);clear hq h;go_enter Tryz.func142,Tryz.ntmps142;go_wp2;go_ret2;exact⟨rfl,Aa.refl _⟩
attribute [local go_sem] Tc vY
theorem own_base{w:World}{base:Nat}{e:TypeId}{size n:Nat}{v:Value}{xs:List Value}(h:w.ownsRow base e size v (n+1) xs):base<=w.heap.size:=by
 rcases h.2 with⟨_,h0⟩|⟨g,cap,cur,rfl,hb,hg,_⟩
 ·omega
 ·have:=(Array.getElem?_eq_some_iff.1 hg).1;omega
theorem Cc.setCell{w:World}{A:Option Addr}{c:Nat}{l:List Nat}(h:Cc w A c l){p:Addr}{v u:Value}(hp:w.cell? p=some v)(hv:∀n,v≠.int .u64 n):Cc (w.setCell p u) A c l:=
 ⟨h.cap,h.max,h.len,fun h0=>by
  obtain⟨b,o,e,hc⟩:=h.ad h0;refine⟨b,o,e,fun j hj=>?_⟩
  have hne:p≠⟨b,o+j,none⟩:=by rintro rfl;rw [hc j hj]at hp;exact hv _ (Option.some.inj hp).symm
  rw [World.cell?_setCell_other _ _ _ _ hne]
  exact hc j hj⟩
structure O0(n:Nat)(s:Bs)(o:List Nat):Prop where
 all:BP s
 lt:∀x∈o,x<1000000000
 len:s.length+o.length<=4001
 sum:n=val s*1000000000^o.length+Ah 1000000000 o
theorem O0.start{n:Nat}(h:(D n).length<=4001):O0 n (D n) []:=⟨C7 n,by simp,by simpa using h,by simp [Ah,F3]⟩
theorem O0.step{n k:Nat}{s:Bs}{o:List Nat}(h:O0 n s o)(hk:k<s.length)(NB:k+9=s.length∨(k=0/\s.length<9)):O0 n (s.take k) (o ++ [val (s.drop k)])/\BP (s.drop k)/\s.drop k≠[]/\val (s.drop k)<1000000000:=by
 have hd:=dA h.all k;have hv:=GU hd;have FM:(s.drop k).length<=9:=(by rw [List.length_drop];omega);have hp:10^(s.drop k).length<=10^9:=Nat.pow_le_pow_right (by omega) FM
 have Et:val (s.drop k)<1000000000:=by have e:(10:Nat)^9=1000000000:=(by decide);omega
 refine⟨⟨SE h.all k,?_,?_,?_⟩,hd,?_,Et⟩
 ·intro x hx
  rcases List.mem_append.1 hx with hx|hx
  ·exact h.lt x hx
  ·simp at hx;subst hx;exact Et
 ·have:=h.len;rw [List.length_take,List.length_append,List.length_singleton];omega
 ·have hs:val s=val (s.take k)*10^(s.drop k).length+val (s.drop k):=by
   conv=>lhs;rw [←List.take_append_drop k s]
   rw [val_append]
  have hs2:val s=val (s.take k)*1000000000+val (s.drop k):=by
   rcases NB with e|⟨rfl,_⟩
   ·rw [hs,show (s.drop k).length=9 by rw [List.length_drop];omega]
   ·simp [G1]
  rw [Ho,List.length_append,List.length_singleton,Nat.pow_succ];have:=h.sum;rw [hs2]at this;rw [this];generalize 1000000000^o.length=p;generalize val (s.take k)=a;generalize val (s.drop k)=b;rw [Nat.add_mul,Nat.mul_assoc,Nat.mul_comm 1000000000 p,Nat.mul_comm b p];omega
 ·intro e;have:(s.drop k).length=0:=(by rw [e];rfl);rw [List.length_drop]at this;omega
def AdQ(z:Int)(w:World)(e:Ending)(w':World):Prop:=∃v,e=.returned (.agg #[.bool (decide (z<0)),v])/\Rd w' v (pc 1000000000 z.natAbs)/\Aa w w'
def pB:Value→Nat | .string t=>t.size|_=>0
def AdF(n b0:Nat)(W0:World)(s p:Value)(wr:World):Prop:=
 ∃(t:Bs) (o:List Nat),O0 n t o/\s=S t/\wr.ownsRow b0 230 1 p o.length (Bq o)/\b0<=wr.heap.size/\Aa W0 wr
theorem nE(z:Int)(hz:Av z)(w:World):Calls Tryz.prog 143 #[S (I z)] w (AdQ z w):=by
 have FQ:=hz.len;have QG:=SY (I z) [45];rw [pD,vd]at QG;obtain⟨n,hn⟩:=AcG z.natAbs
 have FM:(D n).length<=4001:=by
  rw [hn]
  rcases Ed z with⟨m,rfl,e⟩|⟨m,_,rfl,e⟩
  ·rw [e]at FQ;simpa using FQ
  ·rw [e,List.length_cons]at FQ;have:(-(m:Int)).natAbs=m:=(by omega);rw [this];omega
 rw [←hn]at QG;have HN:=Asb hn;clear hn;have hmk:=Zl ((D n).length/9+1) (by omega) (((D n).length:Int)/9+1) (by omega);go_enter Tryz.func143,Tryz.ntmps143
 go_wp2_with (go_at_call 212;((with_reducible refine(QG _).mono ?_);rintro e w1 ⟨rfl,hx1⟩))
 clear QG hmk;have how:=Z4 w1 w1.heap.size ((D n).length/9+1) (Asf _) (by omega);have gb:=hx1.alloc (.cells (madeCells #[.int .u64 0] ((D n).length/9+1)) 230);have lE:=hx1.size;simp only [Asn]at lE
 go_loopw [3,5] (fun s p wr=>AdF n w1.heap.size (w.alloc (.cells #[.bool false,.slice none 0 0] 201)) s p wr)
  (fun s _ _=>pB s)
 case atStart=>exact⟨D n,[],O0.start FM,rfl,how,by simp,gb⟩
 case round=>
  obtain⟨t,o,hO,rfl,hown,hsz,Ac⟩:=hrel;clear how gb hx1;have Gy:=hO.len;by_cases h0:t = []
  ·subst h0;have Cy:=hO.sum;rw [G1,Nat.zero_mul,Nat.zero_add]at Cy;have HS:=Asb Cy;clear Cy;(go_wp2_with fail);have AU:Rd wr u5 o:=Rd.of_own hown (by omega);(with_reducible refine(trim_c _ _ _ AU hO.lt).mono ?_);rintro e w2 ⟨v2,rfl,hv2,hx2⟩;have Rn:=Ac.trans hx2;obtain⟨hc2,hf2⟩:=Rn.cells;obtain⟨A2,c2,rfl,hr2⟩:=hv2;go_wp2;refine bodyPost_ret (v:=.agg #[.bool (decide (z<0)),.slice A2 (pc 1000000000 (Ah 1000000000 o)).length c2]) (by simp [results,Tryz.results143,go_sem,hc2]) rfl ?_;refine⟨_,rfl,?_,?_⟩
   ·rw [←HN.out,HS.out];have e0:=hc2 w.heap.size 0 (by simp);have e1:=hc2 w.heap.size 1 (by simp);rw [World.cell?_alloc_at _ _ _ _ rfl]at e0 e1;refine⟨A2,c2,rfl,(hr2.setCell e0 (by simp)).setCell (v:=.slice none 0 0) ?_ (by simp)⟩;rw [World.cell?_setCell_other _ _ _ _ (by simp)];exact e1
   ·exact(((Aa.refl w).alloc _).trans Rn |>.setCell (Asf _) _).setCell (Asf _) _
  ·have U9:0<t.length:=List.length_pos_iff.2 h0;clear h0;by_cases h9:t.length<9
   ·obtain⟨XE,TQ,I8,ew⟩:=hO.step (k:=0) U9 (.inr ⟨rfl,h9⟩);simp only [List.take_zero,List.drop_zero]at XE TQ I8 ew;have kT:=Aae t I8 TQ (by omega) (by omega);clear I8;have hmax:max ((t.length:Int)-9) 0=0:=(by omega);(go_wp2_with fail);(with_reducible refine(kT _).mono ?_);rintro e w3 ⟨rfl,hx3⟩;(go_wp2_with fail);have Ft:=Rx (Ap hown hx3);have lF:=Asq hsz hx3.size
    go_region_law ((refine Abn rfl _ _ rfl w3.drew w1.heap.size u5 o.length o rfl Ft (by omega) _ (val t) rfl rfl lF ?_;intro v4 w4 GK Af))
    go_wp2;simp only [List.getElem_toArray,List.getElem_cons_succ,List.getElem_cons_zero,Act.put,List.setIfInBounds_toArray,List.set_cons_succ,List.set_cons_zero];go_roundw
    case rel=>exact⟨[],_,XE,by simp;rfl,by simpa using GK,own_base GK,Af _ ((Ac.trans hx3).drew) (by simp;omega)⟩
    case measure=>simp [pB,IR];omega
   ·obtain⟨k,hk⟩:=AcG (t.length-9);have Co:k<t.length:=(by omega);have NB:k+9=t.length:=(by omega);obtain⟨XE,TQ,I8,ew⟩:=hO.step (k:=k) Co (.inl NB);have kT:=Aae (t.drop k) I8 TQ (by omega) (by simp;omega);clear I8;have hmax:max ((t.length:Int)-9) 0=k:=(by omega);have Kb:(k:Int)<=(t.length:Int):=(by omega);have hk0:(0:Int)<=(k:Int):=(by omega);have HK:=Asb hk;have HK9:=Asb NB;clear hk NB;(go_wp2_with fail);(with_reducible refine(kT _).mono ?_);rintro e w3 ⟨rfl,hx3⟩;(go_wp2_with fail);have Ft:=Rx (Ap hown hx3);have lF:=Asq hsz hx3.size
    go_region_law ((refine Abn rfl _ _ rfl w3.drew w1.heap.size u5 o.length o rfl Ft (by omega) _ (val (t.drop k)) rfl rfl lF ?_;intro v4 w4 GK Af))
    go_wp2;simp only [List.getElem_toArray,List.getElem_cons_succ,List.getElem_cons_zero,Act.put,List.setIfInBounds_toArray,List.set_cons_succ,List.set_cons_zero];go_roundw
    case rel=>exact⟨t.take k,_,XE,rfl,by simpa using GK,own_base GK,Af _ ((Ac.trans hx3).drew) (by simp;omega)⟩
    case measure=>simp [pB,IR];omega
end Go.Proofs.YtdaefncphfeaeaaGreatDoor
