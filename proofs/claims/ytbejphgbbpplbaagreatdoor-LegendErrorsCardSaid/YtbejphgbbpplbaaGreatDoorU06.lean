/- U06: LGJ1 Draw RQ RQ2. -/
import Derived.Test.YtbejphgbbpplbaaGreatDoorRows
import Derived.ProofKit
import Derived.SevenTiedAt
import Derived.Test.YtbejphgbbpplbaaGreatDoorU05
set_option maxRecDepth 100000
set_option maxHeartbeats 4000000
namespace Go.Proofs.YtbejphgbbpplbaaGreatDoor
theorem Ak2:true=Tryz.pinned.checked.prog.looks []:=by kernel_rfl
end Go.Proofs.YtbejphgbbpplbaaGreatDoor
namespace Kl
structure Pt where
 x:Rat
 y:Rat
structure Sg where
 a:Pt
 b:Pt
structure Cv where
 low:Pt
 high:Pt
 W:Nat
 H:Nat
structure Cv.Ok(c:Cv):Prop where
 x:c.low.x<c.high.x
 y:c.low.y<c.high.y
 w1:1<=c.W
 w2:c.W<=2000
 h1:1<=c.H
 h2:c.H<=2000
def D5(a b k:Rat):Rat:=a+k*(b-a)
def vw(part whole:Rat)(size:Nat):Int:=(part*(size:Rat)/whole+1/2).floor
def SH(c:Cv)(p:Pt):Int:=vw (p.x-c.low.x) (c.high.x-c.low.x) c.W
def UK(c:Cv)(p:Pt):Int:=vw (c.high.y-p.y) (c.high.y-c.low.y) c.H
def atR(s:Sg)(k:Rat):Pt:=⟨D5 s.a.x s.b.x k,D5 s.a.y s.b.y k⟩
def IH(a b:Rat):Rat:=if a<b then b else a
def II(a b:Rat):Rat:=if b<a then b else a
def C4(fr way:Rat):Option (Rat×Rat)→Option (Rat×Rat)
 | none=>none
 | some (l,h)=>if way=0 then (if 0<=fr then some (l,h)else none)else if 0 < way then some (IH l (-fr / way),h)else some (l,II h (-fr / way))
/-! ### Pixels -/
/-! ### Neighbours -/
end Kl
namespace Go.Proofs.YtbejphgbbpplbaaGreatDoor
open Go.RowKit Kl
def UH(q:Rat):Value:=if (D q.num.natAbs).length<=9/\(D q.den).length<=9 then .tuple #[.int .i64 q.num,.int .i64 q.den,.bool true] else .tuple #[.int .i64 0,.int .i64 0,.bool false]
structure Seg(s:ByteArray)(b:Nat)(m:Bs):Prop where
 le:b+m.length<=s.size
 all:Cb m
 at_:∀(j:Nat) (h:j<s.size),b<=j→j<b+m.length→s[j]=m.getD (j-b) 0
theorem Seg.digit{s:ByteArray}{b:Nat}{m:Bs}(h:Seg s b m){j:Nat}(hj:j<s.size)(h1:b<=j)(h2:j<b+m.length) :
  ∃c:UInt8,s[j]=c/\FN c/\val (m.take (j+1-b))=val (m.take (j-b))*10+(c.toNat-48):=by
 have e:=h.at_ j hj h1 h2;have hl:j-b<m.length:=(by omega);refine⟨m[j-b],?_,h.all _ (Asa hl),?_⟩
 ·rw [e];simp [List.getD,hl]
 ·rw [show j+1-b=j-b+1 by omega,Asd hl,oR];rfl
theorem Apj{m:Bs}(h:Cb m){k:Nat} : val (m.take k)<10^k:=by
 have h1:=KQ (ZX h k);have h2:10^(m.take k).length<=10^k:=Nat.pow_le_pow_right (by omega) (by rw [List.length_take];omega);omega
theorem Seg.digit'{s:ByteArray}{b:Nat}{m:Bs}(h:Seg s b m){j:Nat}(h1:b<=j)(h2:j<b+m.length)(h9:j<b+9) :
  ∃(c:UInt8) (v:Nat) (hj:j<s.size),s[j]=c/\(48:Int)<=(c.toNat:Int)/\(c.toNat:Int)<=57/\((c.toNat:Int) != 47)=true/\v=val (m.take (j-b))/\(v:Int)<=99999999/\
   ((val (m.take (j+1-b)):Nat):Int)=10*(v:Int)+((c.toNat:Int)-48):=by
 have hj:j<s.size:=(by have:=h.le;omega);obtain⟨c,e1,d,e2⟩:=h.digit hj h1 h2;have hv:=Apj h.all (k:=j-b);have h8:10^(j-b)<=10^8:=Nat.pow_le_pow_right (by omega) (by omega);have h10:(10:Nat)^8=100000000:=(by decide);have:=d.1;have:=d.2;refine⟨c,_,hj,e1,by omega,by omega,?_,rfl,by omega,by rw [e2];omega⟩;rw [bne_iff_ne];omega
def Fl(sg:Bool)(m m2:Bs):Value:=if m.length<=9/\m2.length<=9 then .tuple #[.int .i64 (if sg then -(val m:Int)else (val m:Int)),.int .i64 (val m2:Nat),.bool true] else .tuple #[.int .i64 0,.int .i64 0,.bool false]
theorem Rx{sg:Bool}{m m2:Bs}(h:9<m.length∨9<m2.length):Fl sg m m2=.tuple #[.int .i64 0,.int .i64 0,.bool false]:=if_neg (by omega)
theorem YA{sg:Bool}{m m2:Bs}(h:m.length<=9)(h2:m2.length<=9):Fl sg m m2=.tuple #[.int .i64 (if sg then -(val m:Int)else (val m:Int)),.int .i64 (val m2:Nat),.bool true]:=if_pos ⟨h,h2⟩
theorem IQ{a b:Value}(h:b=a):Ending.returned a=.returned b:=by rw [h]
/-! ### The walks -/
theorem AmC(s:ByteArray)(m:Bs)(hm:Seg s 0 m)(hs:s.size=0+m.length)(hmax:s.size<=100000)(h0:0<m.length)(w:World) :
  Calls Tryz.prog 142 #[.string s] w (fun e w'=>e=.returned (Fl false m [49])/\w=w'):=by
 have hp:(0:Int)<(s.size:Int):=(by omega);obtain⟨c0,-,hs0,e0,d0,d1,-⟩:=hm.digit' (j:=0) (by omega) (by omega) (by omega);have hc:((c0.toNat:Int) == 45)=false:=(by rw [beq_eq_false_iff_ne];omega);clear d0 d1;have HS:=ArW hs;clear hs;go_enter Tryz.func142,Tryz.ntmps142;go_wp2;clear hc e0 hp
 go_loop [2,3,5] (fun n z i=>∃j:Nat,0<=j/\j<=0+m.length/\j<=0+9/\z=.int .i64 0/\i=.int .i64 (j:Nat)/\n=.int .i64 (val (m.take (j-0)):Nat)) (fun _ _ i=>s.size-(intOf i).toNat)
 case atStart=>exact⟨0,by omega,by omega,by omega,rfl,rfl,by simp [Mw]⟩
 case round=>
  obtain⟨j,hj0,Fy,TS,rfl,rfl,rfl⟩:=hrel;have iO:j<=s.size:=(by have:=HS.out;omega);by_cases hlt:j<0+m.length
  ·by_cases h9:j=0+9
   ·have Ib:j<s.size:=(by have:=HS.out;omega);obtain⟨c,e,d,-⟩:=hm.digit Ib hj0 hlt;have d1:=d.1;have Gt:((c.toNat:Int) != 47)=true:=(by rw [bne_iff_ne];omega);have Fw:(((j:Int)) == 9)=true:=(by rw [beq_iff_eq];omega);have LE:(j:Int)<(s.size:Int):=(by omega);have Jz:(0:Int)<=(j:Int):=(by omega);have HV:Hid (Fl false m [49]=.tuple #[.int .i64 0,.int .i64 0,.bool false]):=ArW (Rx (.inl (by omega)));clear h9 d d1;go_wp2;go_ret3;exact⟨IQ HV.out,rfl⟩
   ·obtain⟨c,v,Ib,e,d1,d2,Gt,hv,Kx,hn⟩:=hm.digit' hj0 hlt (by omega);have Fw:(((j:Int)) == 9)=false:=(by rw [beq_eq_false_iff_ne];omega);have LE:(j:Int)<(s.size:Int):=(by omega);have Jz:(0:Int)<=(j:Int):=(by omega);rw [←hv];have HN:=ArW hn;clear hv hn;go_wp2
    go_round
    case rel=>exact⟨j+1,by omega,by omega,by omega,rfl,by go_num,by rw [HN.out]⟩
    case measure=>simp [intOf];omega
  ·have Gx:j=0+m.length:=(by omega);have ht:m.take (j-0)=m:=by rw [Gx];simp
   have Kx:((val m:Nat):Int)<=999999999:=by have h1:=KQ hm.all;have h2:10^m.length<=10^9:=Nat.pow_le_pow_right (by omega) (by omega);have h3:(10:Nat)^9=1000000000:=(by decide);omega
   have Fz:m.length<=9:=(by omega);rw [ht];have Jz:(0:Int)<=(j:Int):=(by omega);have hle:(s.size:Int)<=(j:Int):=(by have:=HS.out;omega);have Dy:((j:Int) == (s.size:Int))=true:=(by rw [beq_iff_eq];have:=HS.out;omega);have HV:Hid (Fl false m [49]=.tuple #[.int .i64 ((val m:Int)),.int .i64 1,.bool true]):=ArW (YA Fz (by simp));clear ht Gx hlt;go_wp2;go_ret3;exact⟨IQ HV.out,rfl⟩
theorem AmA(s:ByteArray)(m m2:Bs)(hm:Seg s 0 m)(LG:Seg s (0+m.length+1) m2)(hs:s.size=0+m.length+1+m2.length)(h2:0<m2.length)(hq:∃h:0+m.length<s.size,s[0+m.length]=47)(hmax:s.size<=100000)(h0:0<m.length)(w:World) :
  Calls Tryz.prog 142 #[.string s] w (fun e w'=>e=.returned (Fl false m m2)/\w=w'):=by
 have hp:(0:Int)<(s.size:Int):=(by omega);obtain⟨c0,-,hs0,e0,d0,d1,-⟩:=hm.digit' (j:=0) (by omega) (by omega) (by omega);have hc:((c0.toNat:Int) == 45)=false:=(by rw [beq_eq_false_iff_ne];omega);clear d0 d1;have HS:=ArW hs;clear hs;go_enter Tryz.func142,Tryz.ntmps142;go_wp2;clear hc e0 hp
 go_loop [2,3,5] (fun n z i=>∃j:Nat,0<=j/\j<=0+m.length/\j<=0+9/\z=.int .i64 0/\i=.int .i64 (j:Nat)/\n=.int .i64 (val (m.take (j-0)):Nat)) (fun _ _ i=>s.size-(intOf i).toNat)
 case atStart=>exact⟨0,by omega,by omega,by omega,rfl,rfl,by simp [Mw]⟩
 case round=>
  obtain⟨j,hj0,Fy,TS,rfl,rfl,rfl⟩:=hrel;have iO:j<=s.size:=(by have:=HS.out;omega);by_cases hlt:j<0+m.length
  ·by_cases h9:j=0+9
   ·have Ib:j<s.size:=(by have:=HS.out;omega);obtain⟨c,e,d,-⟩:=hm.digit Ib hj0 hlt;have d1:=d.1;have Gt:((c.toNat:Int) != 47)=true:=(by rw [bne_iff_ne];omega);have Fw:(((j:Int)) == 9)=true:=(by rw [beq_iff_eq];omega);have LE:(j:Int)<(s.size:Int):=(by omega);have Jz:(0:Int)<=(j:Int):=(by omega);have HV:Hid (Fl false m m2=.tuple #[.int .i64 0,.int .i64 0,.bool false]):=ArW (Rx (.inl (by omega)));clear h9 d d1;go_wp2;go_ret3;exact⟨IQ HV.out,rfl⟩
   ·obtain⟨c,v,Ib,e,d1,d2,Gt,hv,Kx,hn⟩:=hm.digit' hj0 hlt (by omega);have Fw:(((j:Int)) == 9)=false:=(by rw [beq_eq_false_iff_ne];omega);have LE:(j:Int)<(s.size:Int):=(by omega);have Jz:(0:Int)<=(j:Int):=(by omega);rw [←hv];have HN:=ArW hn;clear hv hn;go_wp2
    go_round
    case rel=>exact⟨j+1,by omega,by omega,by omega,rfl,by go_num,by rw [HN.out]⟩
    case measure=>simp [intOf];omega
  ·have Gx:j=0+m.length:=(by omega);have ht:m.take (j-0)=m:=by rw [Gx];simp
   have Kx:((val m:Nat):Int)<=999999999:=by have h1:=KQ hm.all;have h2:10^m.length<=10^9:=Nat.pow_le_pow_right (by omega) (by omega);have h3:(10:Nat)^9=1000000000:=(by decide);omega
   have Fz:m.length<=9:=(by omega);rw [ht];have Jz:(0:Int)<=(j:Int):=(by omega);have Ib:j<s.size:=(by have:=HS.out;omega);have LE:(j:Int)<(s.size:Int):=(by omega);obtain⟨c,hc⟩:=ArV (47:UInt8);have e:s[j]=c:=(by rw [hc];obtain⟨_,e⟩:=hq;simp only [Gx];exact e);have Gt:((c.toNat:Int) != 47)=false:=(by rw [hc];rfl);have Dy:((j:Int) == (s.size:Int))=false:=(by rw [beq_eq_false_iff_ne];omega);have hsz:s.size=j+1+m2.length:=(by have:=HS.out;omega);have JQ:=ArW hsz;rw [←Gx]at LG;have hjb:j<=0+9:=TS;clear ht Gx hlt hc hsz;go_wp2;clear Gt e Dy
   go_loop [2,3,5] (fun z n i=>∃k:Nat,j+1<=k/\k<=j+1+m2.length/\k<=j+1+9/\z=.int .i64 ((val m:Int))/\i=.int .i64 (k:Nat)/\n=.int .i64 (val (m2.take (k-(j+1))):Nat)) (fun _ _ i=>s.size-(intOf i).toNat)
   case atStart=>exact⟨j+1,by omega,by omega,by omega,rfl,by go_num,by simp [Mw]⟩
   case round=>
    obtain⟨k,hk0,BX,Xo,rfl,rfl,rfl⟩:=hrel;have Aik:k<=s.size:=(by have:=JQ.out;omega);by_cases hlt2:k<j+1+m2.length
    ·by_cases h9:k=j+1+9
     ·have J0:k<s.size:=(by have:=JQ.out;omega);have Fw:((k:Int)-((j:Int)+1) == 9)=true:=(by rw [beq_iff_eq];omega);have jB:(k:Int)<(s.size:Int):=(by omega);have iP:(0:Int)<=(k:Int):=(by omega);have HV:Hid (Fl false m m2=.tuple #[.int .i64 0,.int .i64 0,.bool false]):=ArW (Rx (.inr (by omega)));clear h9;go_wp2;go_ret3;exact⟨IQ HV.out,rfl⟩
     ·obtain⟨c,v,J0,e,d1,d2,Gt,hv,Ajn,hn⟩:=LG.digit' hk0 hlt2 (by omega);have Fw:((k:Int)-((j:Int)+1) == 9)=false:=(by rw [beq_eq_false_iff_ne];omega);have jB:(k:Int)<(s.size:Int):=(by omega);have iP:(0:Int)<=(k:Int):=(by omega);rw [←hv];have HN:=ArW hn;clear hv hn Gt;go_wp2
      go_round
      case rel=>exact⟨k+1,by omega,by omega,by omega,rfl,by go_num,by rw [HN.out]⟩
      case measure=>simp [intOf];omega
    ·have TX:k=j+1+m2.length:=(by omega);have GY:m2.take (k-(j+1))=m2:=(by rw [TX];simp);have HV:Hid (Fl false m m2=.tuple #[.int .i64 ((val m:Int)),.int .i64 (val m2:Nat),.bool true]):=ArW (YA Fz (by omega));have hle:(s.size:Int)<=(k:Int):=(by have:=JQ.out;omega);rw [GY];clear GY TX hlt2;go_wp2;go_ret3;exact⟨IQ HV.out,rfl⟩
theorem AmD(s:ByteArray)(m:Bs)(hm:Seg s 1 m)(hs:s.size=1+m.length)(hmax:s.size<=100000)(h0:0<m.length)(hc:∃(h:0<s.size),s[0]=45)(w:World) :
  Calls Tryz.prog 142 #[.string s] w (fun e w'=>e=.returned (Fl true m [49])/\w=w'):=by
 have hp:(0:Int)<(s.size:Int):=(by omega);obtain⟨hs0,e0⟩:=hc;obtain⟨c0,hc0⟩:=ArV (45:UInt8);rw [←hc0]at e0;have hc:((c0.toNat:Int) == 45)=true:=(by rw [hc0];rfl);clear hc0;have HS:=ArW hs;clear hs;go_enter Tryz.func142,Tryz.ntmps142;go_wp2;clear hc e0 hp
 go_loop [2,3,5] (fun n z i=>∃j:Nat,1<=j/\j<=1+m.length/\j<=1+9/\z=.int .i64 0/\i=.int .i64 (j:Nat)/\n=.int .i64 (val (m.take (j-1)):Nat)) (fun _ _ i=>s.size-(intOf i).toNat)
 case atStart=>exact⟨1,by omega,by omega,by omega,rfl,rfl,by simp [Mw]⟩
 case round=>
  obtain⟨j,hj0,Fy,TS,rfl,rfl,rfl⟩:=hrel;have iO:j<=s.size:=(by have:=HS.out;omega);by_cases hlt:j<1+m.length
  ·by_cases h9:j=1+9
   ·have Ib:j<s.size:=(by have:=HS.out;omega);obtain⟨c,e,d,-⟩:=hm.digit Ib hj0 hlt;have d1:=d.1;have Gt:((c.toNat:Int) != 47)=true:=(by rw [bne_iff_ne];omega);have Fw:(((j:Int)-1) == 9)=true:=(by rw [beq_iff_eq];omega);have LE:(j:Int)<(s.size:Int):=(by omega);have Jz:(0:Int)<=(j:Int):=(by omega);have HV:Hid (Fl true m [49]=.tuple #[.int .i64 0,.int .i64 0,.bool false]):=ArW (Rx (.inl (by omega)));clear h9 d d1;go_wp2;go_ret3;exact⟨IQ HV.out,rfl⟩
   ·obtain⟨c,v,Ib,e,d1,d2,Gt,hv,Kx,hn⟩:=hm.digit' hj0 hlt (by omega);have Fw:(((j:Int)-1) == 9)=false:=(by rw [beq_eq_false_iff_ne];omega);have LE:(j:Int)<(s.size:Int):=(by omega);have Jz:(0:Int)<=(j:Int):=(by omega);rw [←hv];have HN:=ArW hn;clear hv hn;go_wp2
    go_round
    case rel=>exact⟨j+1,by omega,by omega,by omega,rfl,by go_num,by rw [HN.out]⟩
    case measure=>simp [intOf];omega
  ·have Gx:j=1+m.length:=(by omega);have ht:m.take (j-1)=m:=by rw [Gx];simp
   have Kx:((val m:Nat):Int)<=999999999:=by have h1:=KQ hm.all;have h2:10^m.length<=10^9:=Nat.pow_le_pow_right (by omega) (by omega);have h3:(10:Nat)^9=1000000000:=(by decide);omega
   have Fz:m.length<=9:=(by omega);rw [ht];have Jz:(0:Int)<=(j:Int):=(by omega);have hle:(s.size:Int)<=(j:Int):=(by have:=HS.out;omega);have Dy:((j:Int) == (s.size:Int))=true:=(by rw [beq_iff_eq];have:=HS.out;omega);have HV:Hid (Fl true m [49]=.tuple #[.int .i64 (-(val m:Int)),.int .i64 1,.bool true]):=ArW (YA Fz (by simp));clear ht Gx hlt;go_wp2;go_ret3;exact⟨IQ HV.out,rfl⟩
theorem AmB(s:ByteArray)(m m2:Bs)(hm:Seg s 1 m)(LG:Seg s (1+m.length+1) m2)(hs:s.size=1+m.length+1+m2.length)(h2:0<m2.length)(hq:∃h:1+m.length<s.size,s[1+m.length]=47)(hmax:s.size<=100000)(h0:0<m.length)(hc:∃(h:0<s.size),s[0]=45)(w:World) :
  Calls Tryz.prog 142 #[.string s] w (fun e w'=>e=.returned (Fl true m m2)/\w=w'):=by
 have hp:(0:Int)<(s.size:Int):=(by omega);obtain⟨hs0,e0⟩:=hc;obtain⟨c0,hc0⟩:=ArV (45:UInt8);rw [←hc0]at e0;have hc:((c0.toNat:Int) == 45)=true:=(by rw [hc0];rfl);clear hc0;have HS:=ArW hs;clear hs;go_enter Tryz.func142,Tryz.ntmps142;go_wp2;clear hc e0 hp
 go_loop [2,3,5] (fun n z i=>∃j:Nat,1<=j/\j<=1+m.length/\j<=1+9/\z=.int .i64 0/\i=.int .i64 (j:Nat)/\n=.int .i64 (val (m.take (j-1)):Nat)) (fun _ _ i=>s.size-(intOf i).toNat)
 case atStart=>exact⟨1,by omega,by omega,by omega,rfl,rfl,by simp [Mw]⟩
 case round=>
  obtain⟨j,hj0,Fy,TS,rfl,rfl,rfl⟩:=hrel;have iO:j<=s.size:=(by have:=HS.out;omega);by_cases hlt:j<1+m.length
  ·by_cases h9:j=1+9
   ·have Ib:j<s.size:=(by have:=HS.out;omega);obtain⟨c,e,d,-⟩:=hm.digit Ib hj0 hlt;have d1:=d.1;have Gt:((c.toNat:Int) != 47)=true:=(by rw [bne_iff_ne];omega);have Fw:(((j:Int)-1) == 9)=true:=(by rw [beq_iff_eq];omega);have LE:(j:Int)<(s.size:Int):=(by omega);have Jz:(0:Int)<=(j:Int):=(by omega);have HV:Hid (Fl true m m2=.tuple #[.int .i64 0,.int .i64 0,.bool false]):=ArW (Rx (.inl (by omega)));clear h9 d d1;go_wp2;go_ret3;exact⟨IQ HV.out,rfl⟩
   ·obtain⟨c,v,Ib,e,d1,d2,Gt,hv,Kx,hn⟩:=hm.digit' hj0 hlt (by omega);have Fw:(((j:Int)-1) == 9)=false:=(by rw [beq_eq_false_iff_ne];omega);have LE:(j:Int)<(s.size:Int):=(by omega);have Jz:(0:Int)<=(j:Int):=(by omega);rw [←hv];have HN:=ArW hn;clear hv hn;go_wp2
    go_round
    case rel=>exact⟨j+1,by omega,by omega,by omega,rfl,by go_num,by rw [HN.out]⟩
    case measure=>simp [intOf];omega
  ·have Gx:j=1+m.length:=(by omega);have ht:m.take (j-1)=m:=by rw [Gx];simp
   have Kx:((val m:Nat):Int)<=999999999:=by have h1:=KQ hm.all;have h2:10^m.length<=10^9:=Nat.pow_le_pow_right (by omega) (by omega);have h3:(10:Nat)^9=1000000000:=(by decide);omega
   have Fz:m.length<=9:=(by omega);rw [ht];have Jz:(0:Int)<=(j:Int):=(by omega);have Ib:j<s.size:=(by have:=HS.out;omega);have LE:(j:Int)<(s.size:Int):=(by omega);obtain⟨c,hc⟩:=ArV (47:UInt8);have e:s[j]=c:=(by rw [hc];obtain⟨_,e⟩:=hq;simp only [Gx];exact e);have Gt:((c.toNat:Int) != 47)=false:=(by rw [hc];rfl);have Dy:((j:Int) == (s.size:Int))=false:=(by rw [beq_eq_false_iff_ne];omega);have hsz:s.size=j+1+m2.length:=(by have:=HS.out;omega);have JQ:=ArW hsz;rw [←Gx]at LG;have hjb:j<=1+9:=TS;clear ht Gx hlt hc hsz;go_wp2;clear Gt e Dy
   go_loop [2,3,5] (fun z n i=>∃k:Nat,j+1<=k/\k<=j+1+m2.length/\k<=j+1+9/\z=.int .i64 (-(val m:Int))/\i=.int .i64 (k:Nat)/\n=.int .i64 (val (m2.take (k-(j+1))):Nat)) (fun _ _ i=>s.size-(intOf i).toNat)
   case atStart=>exact⟨j+1,by omega,by omega,by omega,rfl,by go_num,by simp [Mw]⟩
   case round=>
    obtain⟨k,hk0,BX,Xo,rfl,rfl,rfl⟩:=hrel;have Aik:k<=s.size:=(by have:=JQ.out;omega);by_cases hlt2:k<j+1+m2.length
    ·by_cases h9:k=j+1+9
     ·have J0:k<s.size:=(by have:=JQ.out;omega);have Fw:((k:Int)-((j:Int)+1) == 9)=true:=(by rw [beq_iff_eq];omega);have jB:(k:Int)<(s.size:Int):=(by omega);have iP:(0:Int)<=(k:Int):=(by omega);have HV:Hid (Fl true m m2=.tuple #[.int .i64 0,.int .i64 0,.bool false]):=ArW (Rx (.inr (by omega)));clear h9;go_wp2;go_ret3;exact⟨IQ HV.out,rfl⟩
     ·obtain⟨c,v,J0,e,d1,d2,Gt,hv,Ajn,hn⟩:=LG.digit' hk0 hlt2 (by omega);have Fw:((k:Int)-((j:Int)+1) == 9)=false:=(by rw [beq_eq_false_iff_ne];omega);have jB:(k:Int)<(s.size:Int):=(by omega);have iP:(0:Int)<=(k:Int):=(by omega);rw [←hv];have HN:=ArW hn;clear hv hn Gt;go_wp2
      go_round
      case rel=>exact⟨k+1,by omega,by omega,by omega,rfl,by go_num,by rw [HN.out]⟩
      case measure=>simp [intOf];omega
    ·have TX:k=j+1+m2.length:=(by omega);have GY:m2.take (k-(j+1))=m2:=(by rw [TX];simp);have HV:Hid (Fl true m m2=.tuple #[.int .i64 (-(val m:Int)),.int .i64 (val m2:Nat),.bool true]):=ArW (YA Fz (by omega));have hle:(s.size:Int)<=(k:Int):=(by have:=JQ.out;omega);rw [GY];clear GY TX hlt2;go_wp2;go_ret3;exact⟨IQ HV.out,rfl⟩
theorem SB(l:Bs)(j:Nat)(h:j<(⟨l.toArray⟩:ByteArray).size):(⟨l.toArray⟩:ByteArray)[j]=l.getD j 0:=by
 have h':j<l.length:=(by simpa [ByteArray.size]using h);rw [ByteArray.getElem_eq_getElem_data];simp [List.getD,h']
theorem FQ(l:Bs):(⟨l.toArray⟩:ByteArray).size=l.length:=by simp [ByteArray.size]
theorem RB(pre m suf:Bs)(hm:Cb m):Seg ⟨(pre++m++suf).toArray⟩ pre.length m:=
 ⟨by rw [FQ];simp,hm,fun j h h1 h2=>by
  rw [SB];simp only [List.getD_eq_getElem?_getD]
  rw [List.append_assoc,List.getElem?_append_right h1,List.getElem?_append_left (by omega)]⟩
theorem Am8(q:Rat):UH q=Fl (decide (q<0)) (D q.num.natAbs) (D q.den):=by
 unfold UH Fl
 split
 ·rw [KO,KO];by_cases h:q<0
  ·have:=JA.2 h;simp only [h,decide_true,if_true]
   congr 4;omega
  ·have:¬q.num<0:=fun k=>h (JA.1 k);simp only [h,decide_false,Bool.false_eq_true,if_false]
   congr 4;omega
 ·rfl
theorem UZ:D 1 = [49]:=by rw [FI (by omega)];rfl
theorem Vt{z:Int} : (z<0→I z=45::D z.natAbs)/\(¬z<0→I z=D z.natAbs):=by
 constructor
 ·intro h
  rcases Ei z with⟨n,rfl,e⟩|⟨n,hn,rfl,e⟩
  ·omega
  ·rw [e];simp
 ·intro h
  rcases Ei z with⟨n,rfl,e⟩|⟨n,hn,rfl,e⟩
  ·rw [e];simp
  ·omega
theorem AmR(q:Rat)(hl:(R q).length<=100000)(w:World):Calls Tryz.prog 142 #[S (R q)] w (fun e w'=>e=.returned (UH q)/\w=w'):=by
 rw [Am8];have hp:=UY q.num.natAbs;have J2:=UY q.den;by_cases hd:q.den=1
 ·rw [Sy hd]at hl ⊢;rw [hd,UZ];by_cases hn:q.num<0
  ·rw [Vt.1 hn]at hl ⊢;rw [decide_eq_true (JA.1 hn)];have h:=RB [45] (D q.num.natAbs) [] (ES _);simp only [List.append_nil,List.singleton_append,List.length_singleton]at h;exact AmD _ _ h (by rw [FQ];simp;omega) (by rw [FQ];exact hl) hp ⟨by rw [FQ];simp,rfl⟩ w
  ·rw [Vt.2 hn]at hl ⊢;rw [decide_eq_false (fun k=>hn (JA.2 k))];have h:=RB [] (D q.num.natAbs) [] (ES _);simp only [List.append_nil,List.nil_append,List.length_nil]at h;exact AmC _ _ h (by rw [FQ];simp) (by rw [FQ];exact hl) hp w
 ·rw [Vx hd]at hl ⊢;by_cases hn:q.num<0
  ·rw [Vt.1 hn]at hl ⊢;rw [decide_eq_true (JA.1 hn)];have h:=RB [45] (D q.num.natAbs) (47::D q.den) (ES _);have h2:=RB (45::D q.num.natAbs ++ [47]) (D q.den) [] (ES _);simp only [List.append_nil,List.length_singleton,List.append_assoc,List.cons_append]at h h2;rw [show (45::(D q.num.natAbs ++ [47])).length=1+(D q.num.natAbs).length+1 by simp;omega]at h2;exact AmB _ _ _ h h2 (by rw [FQ];simp;omega) J2 ⟨by rw [FQ];simp;omega,by rw [SB];simp [List.getD,Nat.add_comm 1]⟩ (by rw [FQ];exact hl) hp ⟨by rw [FQ];simp,rfl⟩ w
  ·rw [Vt.2 hn]at hl ⊢;rw [decide_eq_false (fun k=>hn (JA.2 k))];have h:=RB [] (D q.num.natAbs) (47::D q.den) (ES _);have h2:=RB (D q.num.natAbs ++ [47]) (D q.den) [] (ES _);simp only [List.append_nil,List.nil_append,List.length_nil,List.append_assoc,List.cons_append]at h h2;rw [show List.length (D q.num.natAbs ++ [(47:UInt8)])=0+(D q.num.natAbs).length+1 by simp]at h2;exact AmA _ _ _ h h2 (by rw [FQ];simp;omega) J2 ⟨by rw [FQ];simp,by rw [SB];simp [List.getD]⟩ (by rw [FQ];exact hl) hp w
end Go.Proofs.YtbejphgbbpplbaaGreatDoor
