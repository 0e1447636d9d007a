/- Z08: LGJ1 RQ RQ2. -/
import Derived.Test.YtjalkoacphhgdaaGreatDoorRows
import Derived.ProofKit
import Derived.SevenTiedAt
import Derived.Test.YtjalkoacphhgdaaGreatDoorZ05
set_option maxRecDepth 100000
set_option maxHeartbeats 4000000
namespace Go.Proofs.YtjalkoacphhgdaaGreatDoor
theorem Ag1:true=Tryz.pinned.checked.prog.looks []:=by kernel_rfl
end Go.Proofs.YtjalkoacphhgdaaGreatDoor
namespace Go.Proofs.YtjalkoacphhgdaaGreatDoor
open Go.RowKit Kl
def PV(q:Rat):Value:=if (D q.num.natAbs).length<=9/\(D q.den).length<=9 then .tuple #[.int .i64 q.num,.int .i64 q.den,.bool true] else .tuple #[.int .i64 0,.int .i64 0,.bool false]
structure Seg(s:ByteArray)(b:Nat)(m:Bs):Prop where
 le:b+m.length<=s.size
 all:B9 m
 at_:∀(j:Nat) (h:j<s.size),b<=j→j<b+m.length→s[j]=m.getD (j-b) 0
theorem Seg.digit{s:ByteArray}{b:Nat}{m:Bs}(h:Seg s b m){j:Nat}(hj:j<s.size)(h1:b<=j)(h2:j<b+m.length) :
  ∃c:UInt8,s[j]=c/\Fc c/\val (m.take (j+1-b))=val (m.take (j-b))*10+(c.toNat-48):=by
 have e:=h.at_ j hj h1 h2;have hl:j-b<m.length:=(by omega);refine⟨m[j-b],?_,h.all _ (Anp hl),?_⟩
 ·rw [e];simp [List.getD,hl]
 ·rw [show j+1-b=j-b+1 by omega,Anr hl,jT];rfl
theorem AkF{m:Bs}(h:B9 m){k:Nat} : val (m.take k)<10^k:=by
 have h1:=JS (Yt h k);have h2:10^(m.take k).length<=10^k:=Nat.pow_le_pow_right (by omega) (by rw [List.length_take];omega);omega
theorem Seg.digit'{s:ByteArray}{b:Nat}{m:Bs}(h:Seg s b m){j:Nat}(h1:b<=j)(h2:j<b+m.length)(h9:j<b+9) :
  ∃(c:UInt8) (v:Nat) (hj:j<s.size),s[j]=c/\(48:Int)<=(c.toNat:Int)/\(c.toNat:Int)<=57/\((c.toNat:Int) != 47)=true/\v=val (m.take (j-b))/\(v:Int)<=99999999/\
   ((val (m.take (j+1-b)):Nat):Int)=10*(v:Int)+((c.toNat:Int)-48):=by
 have hj:j<s.size:=(by have:=h.le;omega);obtain⟨c,e1,d,e2⟩:=h.digit hj h1 h2;have hv:=AkF h.all (k:=j-b);have h8:10^(j-b)<=10^8:=Nat.pow_le_pow_right (by omega) (by omega);have h10:(10:Nat)^8=100000000:=(by decide);have:=d.1;have:=d.2;refine⟨c,_,hj,e1,by omega,by omega,?_,rfl,by omega,by rw [e2];omega⟩;rw [bne_iff_ne];omega
def Eu(sg:Bool)(m m2:Bs):Value:=if m.length<=9/\m2.length<=9 then .tuple #[.int .i64 (if sg then -(val m:Int)else (val m:Int)),.int .i64 (val m2:Nat),.bool true] else .tuple #[.int .i64 0,.int .i64 0,.bool false]
theorem PX{sg:Bool}{m m2:Bs}(h:9<m.length∨9<m2.length):Eu sg m m2=.tuple #[.int .i64 0,.int .i64 0,.bool false]:=if_neg (by omega)
theorem WT{sg:Bool}{m m2:Bs}(h:m.length<=9)(h2:m2.length<=9):Eu sg m m2=.tuple #[.int .i64 (if sg then -(val m:Int)else (val m:Int)),.int .i64 (val m2:Nat),.bool true]:=if_pos ⟨h,h2⟩
theorem Ii{a b:Value}(h:b=a):Ending.returned a=.returned b:=by rw [h]
/-! ### The walks -/
theorem Ai0(s:ByteArray)(m:Bs)(hm:Seg s 0 m)(hs:s.size=0+m.length)(hmax:s.size<=100000)(h0:0<m.length)(w:World) :
  Calls Tryz.prog 143 #[.string s] w (fun e w'=>e=.returned (Eu false m [49])/\w=w'):=by
 have hp:(0:Int)<(s.size:Int):=(by omega);obtain⟨c0,-,hs0,e0,d0,d1,-⟩:=hm.digit' (j:=0) (by omega) (by omega) (by omega);have hc:((c0.toNat:Int) == 45)=false:=(by rw [beq_eq_false_iff_ne];omega);clear d0 d1;have HS:=Anl hs;clear hs;go_enter Tryz.func143,Tryz.ntmps143;go_wp2;clear hc e0 hp
 go_loop [2,3,5] (fun n z i=>∃j:Nat,0<=j/\j<=0+m.length/\j<=0+9/\z=.int .i64 0/\i=.int .i64 (j:Nat)/\n=.int .i64 (val (m.take (j-0)):Nat)) (fun _ _ i=>s.size-(intOf i).toNat)
 case atStart=>exact⟨0,by omega,by omega,by omega,rfl,rfl,by simp [JU]⟩
 case round=>
  obtain⟨j,hj0,Mr,Se,rfl,rfl,rfl⟩:=hrel;have bN:j<=s.size:=(by have:=HS.out;omega);by_cases hlt:j<0+m.length
  ·by_cases h9:j=0+9
   ·have FI:j<s.size:=(by have:=HS.out;omega);obtain⟨c,e,d,-⟩:=hm.digit FI hj0 hlt;have d1:=d.1;have FD:((c.toNat:Int) != 47)=true:=(by rw [bne_iff_ne];omega);have I9:(((j:Int)) == 9)=true:=(by rw [beq_iff_eq];omega);have KJ:(j:Int)<(s.size:Int):=(by omega);have IG:(0:Int)<=(j:Int):=(by omega);have HV:Hid (Eu false m [49]=.tuple #[.int .i64 0,.int .i64 0,.bool false]):=Anl (PX (.inl (by omega)));clear h9 d d1;go_wp2;go_ret3;exact⟨Ii HV.out,rfl⟩
   ·obtain⟨c,v,FI,e,d1,d2,FD,hv,JB,hn⟩:=hm.digit' hj0 hlt (by omega);have I9:(((j:Int)) == 9)=false:=(by rw [beq_eq_false_iff_ne];omega);have KJ:(j:Int)<(s.size:Int):=(by omega);have IG:(0:Int)<=(j:Int):=(by omega);rw [←hv];have HN:=Anl hn;clear hv hn;go_wp2
    go_round
    case rel=>exact⟨j+1,by omega,by omega,by omega,rfl,by go_num,by rw [HN.out]⟩
    case measure=>simp [intOf];omega
  ·have FH:j=0+m.length:=(by omega);have ht:m.take (j-0)=m:=by rw [FH];simp
   have JB:((val m:Nat):Int)<=999999999:=by have h1:=JS hm.all;have h2:10^m.length<=10^9:=Nat.pow_le_pow_right (by omega) (by omega);have h3:(10:Nat)^9=1000000000:=(by decide);omega
   have C3:m.length<=9:=(by omega);rw [ht];have IG:(0:Int)<=(j:Int):=(by omega);have hle:(s.size:Int)<=(j:Int):=(by have:=HS.out;omega);have CY:((j:Int) == (s.size:Int))=true:=(by rw [beq_iff_eq];have:=HS.out;omega);have HV:Hid (Eu false m [49]=.tuple #[.int .i64 ((val m:Int)),.int .i64 1,.bool true]):=Anl (WT C3 (by simp));clear ht FH hlt;go_wp2;go_ret3;exact⟨Ii HV.out,rfl⟩
theorem Aiy(s:ByteArray)(m m2:Bs)(hm:Seg s 0 m)(II:Seg s (0+m.length+1) m2)(hs:s.size=0+m.length+1+m2.length)(h2:0<m2.length)(hq:∃h:0+m.length<s.size,s[0+m.length]=47)(hmax:s.size<=100000)(h0:0<m.length)(w:World) :
  Calls Tryz.prog 143 #[.string s] w (fun e w'=>e=.returned (Eu false m m2)/\w=w'):=by
 have hp:(0:Int)<(s.size:Int):=(by omega);obtain⟨c0,-,hs0,e0,d0,d1,-⟩:=hm.digit' (j:=0) (by omega) (by omega) (by omega);have hc:((c0.toNat:Int) == 45)=false:=(by rw [beq_eq_false_iff_ne];omega);clear d0 d1;have HS:=Anl hs;clear hs;go_enter Tryz.func143,Tryz.ntmps143;go_wp2;clear hc e0 hp
 go_loop [2,3,5] (fun n z i=>∃j:Nat,0<=j/\j<=0+m.length/\j<=0+9/\z=.int .i64 0/\i=.int .i64 (j:Nat)/\n=.int .i64 (val (m.take (j-0)):Nat)) (fun _ _ i=>s.size-(intOf i).toNat)
 case atStart=>exact⟨0,by omega,by omega,by omega,rfl,rfl,by simp [JU]⟩
 case round=>
  obtain⟨j,hj0,Mr,Se,rfl,rfl,rfl⟩:=hrel;have bN:j<=s.size:=(by have:=HS.out;omega);by_cases hlt:j<0+m.length
  ·by_cases h9:j=0+9
   ·have FI:j<s.size:=(by have:=HS.out;omega);obtain⟨c,e,d,-⟩:=hm.digit FI hj0 hlt;have d1:=d.1;have FD:((c.toNat:Int) != 47)=true:=(by rw [bne_iff_ne];omega);have I9:(((j:Int)) == 9)=true:=(by rw [beq_iff_eq];omega);have KJ:(j:Int)<(s.size:Int):=(by omega);have IG:(0:Int)<=(j:Int):=(by omega);have HV:Hid (Eu false m m2=.tuple #[.int .i64 0,.int .i64 0,.bool false]):=Anl (PX (.inl (by omega)));clear h9 d d1;go_wp2;go_ret3;exact⟨Ii HV.out,rfl⟩
   ·obtain⟨c,v,FI,e,d1,d2,FD,hv,JB,hn⟩:=hm.digit' hj0 hlt (by omega);have I9:(((j:Int)) == 9)=false:=(by rw [beq_eq_false_iff_ne];omega);have KJ:(j:Int)<(s.size:Int):=(by omega);have IG:(0:Int)<=(j:Int):=(by omega);rw [←hv];have HN:=Anl hn;clear hv hn;go_wp2
    go_round
    case rel=>exact⟨j+1,by omega,by omega,by omega,rfl,by go_num,by rw [HN.out]⟩
    case measure=>simp [intOf];omega
  ·have FH:j=0+m.length:=(by omega);have ht:m.take (j-0)=m:=by rw [FH];simp
   have JB:((val m:Nat):Int)<=999999999:=by have h1:=JS hm.all;have h2:10^m.length<=10^9:=Nat.pow_le_pow_right (by omega) (by omega);have h3:(10:Nat)^9=1000000000:=(by decide);omega
   have C3:m.length<=9:=(by omega);rw [ht];have IG:(0:Int)<=(j:Int):=(by omega);have FI:j<s.size:=(by have:=HS.out;omega);have KJ:(j:Int)<(s.size:Int):=(by omega);obtain⟨c,hc⟩:=Ank (47:UInt8);have e:s[j]=c:=(by rw [hc];obtain⟨_,e⟩:=hq;simp only [FH];exact e);have FD:((c.toNat:Int) != 47)=false:=(by rw [hc];rfl);have CY:((j:Int) == (s.size:Int))=false:=(by rw [beq_eq_false_iff_ne];omega);have hsz:s.size=j+1+m2.length:=(by have:=HS.out;omega);have Jl:=Anl hsz;rw [←FH]at II;have hjb:j<=0+9:=Se;clear ht FH hlt hc hsz;go_wp2;clear FD e CY
   go_loop [2,3,5] (fun z n i=>∃k:Nat,j+1<=k/\k<=j+1+m2.length/\k<=j+1+9/\z=.int .i64 ((val m:Int))/\i=.int .i64 (k:Nat)/\n=.int .i64 (val (m2.take (k-(j+1))):Nat)) (fun _ _ i=>s.size-(intOf i).toNat)
   case atStart=>exact⟨j+1,by omega,by omega,by omega,rfl,by go_num,by simp [JU]⟩
   case round=>
    obtain⟨k,hk0,Ca,NI,rfl,rfl,rfl⟩:=hrel;have Aew:k<=s.size:=(by have:=Jl.out;omega);by_cases hlt2:k<j+1+m2.length
    ·by_cases h9:k=j+1+9
     ·have IH:k<s.size:=(by have:=Jl.out;omega);have I9:((k:Int)-((j:Int)+1) == 9)=true:=(by rw [beq_iff_eq];omega);have bX:(k:Int)<(s.size:Int):=(by omega);have bO:(0:Int)<=(k:Int):=(by omega);have HV:Hid (Eu false m m2=.tuple #[.int .i64 0,.int .i64 0,.bool false]):=Anl (PX (.inr (by omega)));clear h9;go_wp2;go_ret3;exact⟨Ii HV.out,rfl⟩
     ·obtain⟨c,v,IH,e,d1,d2,FD,hv,Afo,hn⟩:=II.digit' hk0 hlt2 (by omega);have I9:((k:Int)-((j:Int)+1) == 9)=false:=(by rw [beq_eq_false_iff_ne];omega);have bX:(k:Int)<(s.size:Int):=(by omega);have bO:(0:Int)<=(k:Int):=(by omega);rw [←hv];have HN:=Anl hn;clear hv hn FD;go_wp2
      go_round
      case rel=>exact⟨k+1,by omega,by omega,by omega,rfl,by go_num,by rw [HN.out]⟩
      case measure=>simp [intOf];omega
    ·have Sj:k=j+1+m2.length:=(by omega);have M5:m2.take (k-(j+1))=m2:=(by rw [Sj];simp);have HV:Hid (Eu false m m2=.tuple #[.int .i64 ((val m:Int)),.int .i64 (val m2:Nat),.bool true]):=Anl (WT C3 (by omega));have hle:(s.size:Int)<=(k:Int):=(by have:=Jl.out;omega);rw [M5];clear M5 Sj hlt2;go_wp2;go_ret3;exact⟨Ii HV.out,rfl⟩
theorem Ai1(s:ByteArray)(m:Bs)(hm:Seg s 1 m)(hs:s.size=1+m.length)(hmax:s.size<=100000)(h0:0<m.length)(hc:∃(h:0<s.size),s[0]=45)(w:World) :
  Calls Tryz.prog 143 #[.string s] w (fun e w'=>e=.returned (Eu true m [49])/\w=w'):=by
 have hp:(0:Int)<(s.size:Int):=(by omega);obtain⟨hs0,e0⟩:=hc;obtain⟨c0,hc0⟩:=Ank (45:UInt8);rw [←hc0]at e0;have hc:((c0.toNat:Int) == 45)=true:=(by rw [hc0];rfl);clear hc0;have HS:=Anl hs;clear hs;go_enter Tryz.func143,Tryz.ntmps143;go_wp2;clear hc e0 hp
 go_loop [2,3,5] (fun n z i=>∃j:Nat,1<=j/\j<=1+m.length/\j<=1+9/\z=.int .i64 0/\i=.int .i64 (j:Nat)/\n=.int .i64 (val (m.take (j-1)):Nat)) (fun _ _ i=>s.size-(intOf i).toNat)
 case atStart=>exact⟨1,by omega,by omega,by omega,rfl,rfl,by simp [JU]⟩
 case round=>
  obtain⟨j,hj0,Mr,Se,rfl,rfl,rfl⟩:=hrel;have bN:j<=s.size:=(by have:=HS.out;omega);by_cases hlt:j<1+m.length
  ·by_cases h9:j=1+9
   ·have FI:j<s.size:=(by have:=HS.out;omega);obtain⟨c,e,d,-⟩:=hm.digit FI hj0 hlt;have d1:=d.1;have FD:((c.toNat:Int) != 47)=true:=(by rw [bne_iff_ne];omega);have I9:(((j:Int)-1) == 9)=true:=(by rw [beq_iff_eq];omega);have KJ:(j:Int)<(s.size:Int):=(by omega);have IG:(0:Int)<=(j:Int):=(by omega);have HV:Hid (Eu true m [49]=.tuple #[.int .i64 0,.int .i64 0,.bool false]):=Anl (PX (.inl (by omega)));clear h9 d d1;go_wp2;go_ret3;exact⟨Ii HV.out,rfl⟩
   ·obtain⟨c,v,FI,e,d1,d2,FD,hv,JB,hn⟩:=hm.digit' hj0 hlt (by omega);have I9:(((j:Int)-1) == 9)=false:=(by rw [beq_eq_false_iff_ne];omega);have KJ:(j:Int)<(s.size:Int):=(by omega);have IG:(0:Int)<=(j:Int):=(by omega);rw [←hv];have HN:=Anl hn;clear hv hn;go_wp2
    go_round
    case rel=>exact⟨j+1,by omega,by omega,by omega,rfl,by go_num,by rw [HN.out]⟩
    case measure=>simp [intOf];omega
  ·have FH:j=1+m.length:=(by omega);have ht:m.take (j-1)=m:=by rw [FH];simp
   have JB:((val m:Nat):Int)<=999999999:=by have h1:=JS hm.all;have h2:10^m.length<=10^9:=Nat.pow_le_pow_right (by omega) (by omega);have h3:(10:Nat)^9=1000000000:=(by decide);omega
   have C3:m.length<=9:=(by omega);rw [ht];have IG:(0:Int)<=(j:Int):=(by omega);have hle:(s.size:Int)<=(j:Int):=(by have:=HS.out;omega);have CY:((j:Int) == (s.size:Int))=true:=(by rw [beq_iff_eq];have:=HS.out;omega);have HV:Hid (Eu true m [49]=.tuple #[.int .i64 (-(val m:Int)),.int .i64 1,.bool true]):=Anl (WT C3 (by simp));clear ht FH hlt;go_wp2;go_ret3;exact⟨Ii HV.out,rfl⟩
theorem Aiz(s:ByteArray)(m m2:Bs)(hm:Seg s 1 m)(II:Seg s (1+m.length+1) m2)(hs:s.size=1+m.length+1+m2.length)(h2:0<m2.length)(hq:∃h:1+m.length<s.size,s[1+m.length]=47)(hmax:s.size<=100000)(h0:0<m.length)(hc:∃(h:0<s.size),s[0]=45)(w:World) :
  Calls Tryz.prog 143 #[.string s] w (fun e w'=>e=.returned (Eu true m m2)/\w=w'):=by
 have hp:(0:Int)<(s.size:Int):=(by omega);obtain⟨hs0,e0⟩:=hc;obtain⟨c0,hc0⟩:=Ank (45:UInt8);rw [←hc0]at e0;have hc:((c0.toNat:Int) == 45)=true:=(by rw [hc0];rfl);clear hc0;have HS:=Anl hs;clear hs;go_enter Tryz.func143,Tryz.ntmps143;go_wp2;clear hc e0 hp
 go_loop [2,3,5] (fun n z i=>∃j:Nat,1<=j/\j<=1+m.length/\j<=1+9/\z=.int .i64 0/\i=.int .i64 (j:Nat)/\n=.int .i64 (val (m.take (j-1)):Nat)) (fun _ _ i=>s.size-(intOf i).toNat)
 case atStart=>exact⟨1,by omega,by omega,by omega,rfl,rfl,by simp [JU]⟩
 case round=>
  obtain⟨j,hj0,Mr,Se,rfl,rfl,rfl⟩:=hrel;have bN:j<=s.size:=(by have:=HS.out;omega);by_cases hlt:j<1+m.length
  ·by_cases h9:j=1+9
   ·have FI:j<s.size:=(by have:=HS.out;omega);obtain⟨c,e,d,-⟩:=hm.digit FI hj0 hlt;have d1:=d.1;have FD:((c.toNat:Int) != 47)=true:=(by rw [bne_iff_ne];omega);have I9:(((j:Int)-1) == 9)=true:=(by rw [beq_iff_eq];omega);have KJ:(j:Int)<(s.size:Int):=(by omega);have IG:(0:Int)<=(j:Int):=(by omega);have HV:Hid (Eu true m m2=.tuple #[.int .i64 0,.int .i64 0,.bool false]):=Anl (PX (.inl (by omega)));clear h9 d d1;go_wp2;go_ret3;exact⟨Ii HV.out,rfl⟩
   ·obtain⟨c,v,FI,e,d1,d2,FD,hv,JB,hn⟩:=hm.digit' hj0 hlt (by omega);have I9:(((j:Int)-1) == 9)=false:=(by rw [beq_eq_false_iff_ne];omega);have KJ:(j:Int)<(s.size:Int):=(by omega);have IG:(0:Int)<=(j:Int):=(by omega);rw [←hv];have HN:=Anl hn;clear hv hn;go_wp2
    go_round
    case rel=>exact⟨j+1,by omega,by omega,by omega,rfl,by go_num,by rw [HN.out]⟩
    case measure=>simp [intOf];omega
  ·have FH:j=1+m.length:=(by omega);have ht:m.take (j-1)=m:=by rw [FH];simp
   have JB:((val m:Nat):Int)<=999999999:=by have h1:=JS hm.all;have h2:10^m.length<=10^9:=Nat.pow_le_pow_right (by omega) (by omega);have h3:(10:Nat)^9=1000000000:=(by decide);omega
   have C3:m.length<=9:=(by omega);rw [ht];have IG:(0:Int)<=(j:Int):=(by omega);have FI:j<s.size:=(by have:=HS.out;omega);have KJ:(j:Int)<(s.size:Int):=(by omega);obtain⟨c,hc⟩:=Ank (47:UInt8);have e:s[j]=c:=(by rw [hc];obtain⟨_,e⟩:=hq;simp only [FH];exact e);have FD:((c.toNat:Int) != 47)=false:=(by rw [hc];rfl);have CY:((j:Int) == (s.size:Int))=false:=(by rw [beq_eq_false_iff_ne];omega);have hsz:s.size=j+1+m2.length:=(by have:=HS.out;omega);have Jl:=Anl hsz;rw [←FH]at II;have hjb:j<=1+9:=Se;clear ht FH hlt hc hsz;go_wp2;clear FD e CY
   go_loop [2,3,5] (fun z n i=>∃k:Nat,j+1<=k/\k<=j+1+m2.length/\k<=j+1+9/\z=.int .i64 (-(val m:Int))/\i=.int .i64 (k:Nat)/\n=.int .i64 (val (m2.take (k-(j+1))):Nat)) (fun _ _ i=>s.size-(intOf i).toNat)
   case atStart=>exact⟨j+1,by omega,by omega,by omega,rfl,by go_num,by simp [JU]⟩
   case round=>
    obtain⟨k,hk0,Ca,NI,rfl,rfl,rfl⟩:=hrel;have Aew:k<=s.size:=(by have:=Jl.out;omega);by_cases hlt2:k<j+1+m2.length
    ·by_cases h9:k=j+1+9
     ·have IH:k<s.size:=(by have:=Jl.out;omega);have I9:((k:Int)-((j:Int)+1) == 9)=true:=(by rw [beq_iff_eq];omega);have bX:(k:Int)<(s.size:Int):=(by omega);have bO:(0:Int)<=(k:Int):=(by omega);have HV:Hid (Eu true m m2=.tuple #[.int .i64 0,.int .i64 0,.bool false]):=Anl (PX (.inr (by omega)));clear h9;go_wp2;go_ret3;exact⟨Ii HV.out,rfl⟩
     ·obtain⟨c,v,IH,e,d1,d2,FD,hv,Afo,hn⟩:=II.digit' hk0 hlt2 (by omega);have I9:((k:Int)-((j:Int)+1) == 9)=false:=(by rw [beq_eq_false_iff_ne];omega);have bX:(k:Int)<(s.size:Int):=(by omega);have bO:(0:Int)<=(k:Int):=(by omega);rw [←hv];have HN:=Anl hn;clear hv hn FD;go_wp2
      go_round
      case rel=>exact⟨k+1,by omega,by omega,by omega,rfl,by go_num,by rw [HN.out]⟩
      case measure=>simp [intOf];omega
    ·have Sj:k=j+1+m2.length:=(by omega);have M5:m2.take (k-(j+1))=m2:=(by rw [Sj];simp);have HV:Hid (Eu true m m2=.tuple #[.int .i64 (-(val m:Int)),.int .i64 (val m2:Nat),.bool true]):=Anl (WT C3 (by omega));have hle:(s.size:Int)<=(k:Int):=(by have:=Jl.out;omega);rw [M5];clear M5 Sj hlt2;go_wp2;go_ret3;exact⟨Ii HV.out,rfl⟩
theorem QJ(l:Bs)(j:Nat)(h:j<(⟨l.toArray⟩:ByteArray).size):(⟨l.toArray⟩:ByteArray)[j]=l.getD j 0:=by
 have h':j<l.length:=(by simpa [ByteArray.size]using h);rw [ByteArray.getElem_eq_getElem_data];simp [List.getD,h']
theorem Fg(l:Bs):(⟨l.toArray⟩:ByteArray).size=l.length:=by simp [ByteArray.size]
theorem Qf(pre m suf:Bs)(hm:B9 m):Seg ⟨(pre++m++suf).toArray⟩ pre.length m:=
 ⟨by rw [Fg];simp,hm,fun j h h1 h2=>by
  rw [QJ];simp only [List.getD_eq_getElem?_getD]
  rw [List.append_assoc,List.getElem?_append_right h1,List.getElem?_append_left (by omega)]⟩
theorem Aix(q:Rat):PV q=Eu (decide (q<0)) (D q.num.natAbs) (D q.den):=by
 unfold PV Eu
 split
 ·rw [Iq,Iq];by_cases h:q<0
  ·have:=IU.2 h;simp only [h,decide_true,if_true]
   congr 4;omega
  ·have:¬q.num<0:=fun k=>h (IU.1 k);simp only [h,decide_false,Bool.false_eq_true,if_false]
   congr 4;omega
 ·rfl
theorem TC:D 1 = [49]:=by rw [EZ (by omega)];rfl
theorem TS{z:Int} : (z<0→I z=45::D z.natAbs)/\(¬z<0→I z=D z.natAbs):=by
 constructor
 ·intro h
  rcases DI z with⟨n,rfl,e⟩|⟨n,hn,rfl,e⟩
  ·omega
  ·rw [e];simp
 ·intro h
  rcases DI z with⟨n,rfl,e⟩|⟨n,hn,rfl,e⟩
  ·rw [e];simp
  ·omega
theorem AiH(q:Rat)(hl:(R q).length<=100000)(w:World):Calls Tryz.prog 143 #[S (R q)] w (fun e w'=>e=.returned (PV q)/\w=w'):=by
 rw [Aix];have hp:=TB q.num.natAbs;have KQ:=TB q.den;by_cases hd:q.den=1
 ·rw [Q9 hd]at hl ⊢;rw [hd,TC];by_cases hn:q.num<0
  ·rw [TS.1 hn]at hl ⊢;rw [decide_eq_true (IU.1 hn)];have h:=Qf [45] (D q.num.natAbs) [] (D5 _);simp only [List.append_nil,List.singleton_append,List.length_singleton]at h;exact Ai1 _ _ h (by rw [Fg];simp;omega) (by rw [Fg];exact hl) hp ⟨by rw [Fg];simp,rfl⟩ w
  ·rw [TS.2 hn]at hl ⊢;rw [decide_eq_false (fun k=>hn (IU.2 k))];have h:=Qf [] (D q.num.natAbs) [] (D5 _);simp only [List.append_nil,List.nil_append,List.length_nil]at h;exact Ai0 _ _ h (by rw [Fg];simp) (by rw [Fg];exact hl) hp w
 ·rw [TY hd]at hl ⊢;by_cases hn:q.num<0
  ·rw [TS.1 hn]at hl ⊢;rw [decide_eq_true (IU.1 hn)];have h:=Qf [45] (D q.num.natAbs) (47::D q.den) (D5 _);have h2:=Qf (45::D q.num.natAbs ++ [47]) (D q.den) [] (D5 _);simp only [List.append_nil,List.length_singleton,List.append_assoc,List.cons_append]at h h2;rw [show (45::(D q.num.natAbs ++ [47])).length=1+(D q.num.natAbs).length+1 by simp;omega]at h2;exact Aiz _ _ _ h h2 (by rw [Fg];simp;omega) KQ ⟨by rw [Fg];simp;omega,by rw [QJ];simp [List.getD,Nat.add_comm 1]⟩ (by rw [Fg];exact hl) hp ⟨by rw [Fg];simp,rfl⟩ w
  ·rw [TS.2 hn]at hl ⊢;rw [decide_eq_false (fun k=>hn (IU.2 k))];have h:=Qf [] (D q.num.natAbs) (47::D q.den) (D5 _);have h2:=Qf (D q.num.natAbs ++ [47]) (D q.den) [] (D5 _);simp only [List.append_nil,List.nil_append,List.length_nil,List.append_assoc,List.cons_append]at h h2;rw [show List.length (D q.num.natAbs ++ [(47:UInt8)])=0+(D q.num.natAbs).length+1 by simp]at h2;exact Aiy _ _ _ h h2 (by rw [Fg];simp;omega) KQ ⟨by rw [Fg];simp,by rw [QJ];simp [List.getD]⟩ (by rw [Fg];exact hl) hp w
end Go.Proofs.YtjalkoacphhgdaaGreatDoor
