/- X21: F3 F4 H1 H2 H3 H4. -/
import Derived.Test.YtjalkoacphhgdaaGreatDoorX20
set_option maxRecDepth 100000
set_option maxHeartbeats 8000000
namespace Go.Proofs.YtjalkoacphhgdaaGreatDoor
open Go.RowKit Kl
theorem Seg.digitB{s:ByteArray}{b:Nat}{m:Bs}(h:Seg s b m)(hs:s.size<=9){j:Nat}(h1:b<=j)(h2:j<b+m.length) :
  ∃(c:UInt8) (v:Nat) (hj:j<s.size),s[j]=c/\(48:Int)<=(c.toNat:Int)/\(c.toNat:Int)<=57/\((c.toNat:Int) != 47)=true/\v=val (m.take (j-b))/\(v:Int)<=999999999/\
   ((val (m.take (j+1-b)):Nat):Int)=10*(v:Int)+((c.toNat:Int)-48):=by
 have hj:j<s.size:=(by have:=h.le;omega);obtain⟨c,e1,d,e2⟩:=h.digit hj h1 h2;have hv:=Aaf h.all (k:=j-b);have h8:10^(j-b)<=10^9:=Nat.pow_le_pow_right (by omega) (by omega);have h10:(10:Nat)^9=1000000000:=(by decide);have:=d.1;have:=d.2;refine⟨c,_,hj,e1,by omega,by omega,?_,rfl,by omega,by rw [e2];omega⟩;rw [bne_iff_ne];omega
theorem AlU(s:ByteArray)(m:Bs)(hm:Seg s 0 m)(hs:s.size=0+m.length)(hmax:s.size<=9)(h0:0<m.length)(w:World) :
  Calls Tryz.prog 116 #[.string s] w (fun e w'=>e=.returned (.tuple #[.int .i64 ((val m:Int)),.int .i64 1,.bool true])/\w=w'):=by
 have hp:(0:Int)<(s.size:Int):=(by omega);have fM:(s.size:Int)<=9:=(by omega);obtain⟨c0,-,hs0,e0,d0,d1,-⟩:=hm.digitB hmax (j:=0) (by omega) (by omega);have hc:((c0.toNat:Int) == 45)=false:=(by rw [beq_eq_false_iff_ne];omega);clear d0 d1;have HS:=AqH hs;clear hs;go_enter Tryz.func116,Tryz.ntmps116;go_wp2;clear hc e0 hp
 go_loop [2,5] (fun n i=>∃j:Nat,0<=j/\j<=0+m.length/\i=.int .i64 (j:Nat)/\n=.int .i64 (val (m.take (j-0)):Nat)) (fun _ i=>s.size-(intOf i).toNat)
 case atStart=>exact⟨0,by omega,by omega,rfl,by simp [FS]⟩
 case round=>
  obtain⟨j,hj0,Gh,rfl,rfl⟩:=hrel;have O4:j<=s.size:=(by have:=HS.out;omega);by_cases hlt:j<0+m.length
  ·obtain⟨c,v,DD,e,d1,d2,Cy,hv,EN,hn⟩:=hm.digitB hmax hj0 hlt;have Gj:(j:Int)<(s.size:Int):=(by omega);have Eo:(0:Int)<=(j:Int):=(by omega);rw [←hv];have HN:=AqH hn;clear hv hn;go_wp2
   go_round
   case rel=>exact⟨j+1,by omega,by omega,by go_num,by rw [HN.out]⟩
   case measure=>simp [intOf];omega
  ·have Cb:j=0+m.length:=(by omega);have ht:m.take (j-0)=m:=by rw [Cb];simp
   have EN:((val m:Nat):Int)<=999999999:=by have h1:=GR hm.all;have h2:10^m.length<=10^9:=Nat.pow_le_pow_right (by omega) (by have:=HS.out;omega);have h3:(10:Nat)^9=1000000000:=(by decide);omega
   rw [ht];have Eo:(0:Int)<=(j:Int):=(by omega);have hle:(s.size:Int)<=(j:Int):=(by have:=HS.out;omega);clear ht Cb hlt;go_wp2;go_ret3;exact⟨by first|rfl|simp,rfl⟩
theorem AlS(s:ByteArray)(m m2:Bs)(hm:Seg s 0 m)(Fo:Seg s (0+m.length+1) m2)(hs:s.size=0+m.length+1+m2.length)(h2:0<m2.length)(hq:∃h:0+m.length<s.size,s[0+m.length]=47)(hmax:s.size<=9)(h0:0<m.length)(w:World) :
  Calls Tryz.prog 116 #[.string s] w (fun e w'=>e=.returned (.tuple #[.int .i64 ((val m:Int)),.int .i64 (val m2:Nat),.bool true])/\w=w'):=by
 have hp:(0:Int)<(s.size:Int):=(by omega);have fM:(s.size:Int)<=9:=(by omega);obtain⟨c0,-,hs0,e0,d0,d1,-⟩:=hm.digitB hmax (j:=0) (by omega) (by omega);have hc:((c0.toNat:Int) == 45)=false:=(by rw [beq_eq_false_iff_ne];omega);clear d0 d1;have HS:=AqH hs;clear hs;go_enter Tryz.func116,Tryz.ntmps116;go_wp2;clear hc e0 hp
 go_loop [2,5] (fun n i=>∃j:Nat,0<=j/\j<=0+m.length/\i=.int .i64 (j:Nat)/\n=.int .i64 (val (m.take (j-0)):Nat)) (fun _ i=>s.size-(intOf i).toNat)
 case atStart=>exact⟨0,by omega,by omega,rfl,by simp [FS]⟩
 case round=>
  obtain⟨j,hj0,Gh,rfl,rfl⟩:=hrel;have O4:j<=s.size:=(by have:=HS.out;omega);by_cases hlt:j<0+m.length
  ·obtain⟨c,v,DD,e,d1,d2,Cy,hv,EN,hn⟩:=hm.digitB hmax hj0 hlt;have Gj:(j:Int)<(s.size:Int):=(by omega);have Eo:(0:Int)<=(j:Int):=(by omega);rw [←hv];have HN:=AqH hn;clear hv hn;go_wp2
   go_round
   case rel=>exact⟨j+1,by omega,by omega,by go_num,by rw [HN.out]⟩
   case measure=>simp [intOf];omega
  ·have Cb:j=0+m.length:=(by omega);have ht:m.take (j-0)=m:=by rw [Cb];simp
   have EN:((val m:Nat):Int)<=999999999:=by have h1:=GR hm.all;have h2:10^m.length<=10^9:=Nat.pow_le_pow_right (by omega) (by have:=HS.out;omega);have h3:(10:Nat)^9=1000000000:=(by decide);omega
   rw [ht];have Eo:(0:Int)<=(j:Int):=(by omega);have DD:j<s.size:=(by have:=HS.out;omega);have Gj:(j:Int)<(s.size:Int):=(by omega);obtain⟨c,hc⟩:=AqG (47:UInt8);have e:s[j]=c:=(by rw [hc];obtain⟨_,e⟩:=hq;simp only [Cb];exact e);have Cy:((c.toNat:Int) != 47)=false:=(by rw [hc];rfl);have hsz:s.size=j+1+m2.length:=(by have:=HS.out;omega);have DN:=AqH hsz;rw [←Cb]at Fo;clear ht Cb hlt hc hsz;go_wp2;clear Cy e
   go_loop [3,5] (fun n i=>∃k:Nat,j+1<=k/\k<=j+1+m2.length/\i=.int .i64 (k:Nat)/\n=.int .i64 (val (m2.take (k-(j+1))):Nat)) (fun _ i=>s.size-(intOf i).toNat)
   case atStart=>exact⟨j+1,by omega,by omega,by go_num,by simp [FS]⟩
   case round=>
    obtain⟨k,hk0,BH,rfl,rfl⟩:=hrel;have fC:k<=s.size:=(by have:=DN.out;omega);by_cases hlt2:k<j+1+m2.length
    ·obtain⟨c,v,EH,e,d1,d2,Cy,hv,iI,hn⟩:=Fo.digitB hmax hk0 hlt2;have Tj:(k:Int)<(s.size:Int):=(by omega);have Td:(0:Int)<=(k:Int):=(by omega);rw [←hv];have HN:=AqH hn;clear hv hn Cy;go_wp2
     go_round
     case rel=>exact⟨k+1,by omega,by omega,by go_num,by rw [HN.out]⟩
     case measure=>simp [intOf];omega
    ·have Jk:k=j+1+m2.length:=(by omega);have GF:m2.take (k-(j+1))=m2:=(by rw [Jk];simp);have hle:(s.size:Int)<=(k:Int):=(by have:=DN.out;omega);rw [GF];clear GF Jk hlt2;go_wp2;go_ret3;exact⟨by first|rfl|simp,rfl⟩
theorem AlV(s:ByteArray)(m:Bs)(hm:Seg s 1 m)(hs:s.size=1+m.length)(hmax:s.size<=9)(h0:0<m.length)(hc:∃(h:0<s.size),s[0]=45)(w:World) :
  Calls Tryz.prog 116 #[.string s] w (fun e w'=>e=.returned (.tuple #[.int .i64 (-(val m:Int)),.int .i64 1,.bool true])/\w=w'):=by
 have hp:(0:Int)<(s.size:Int):=(by omega);have fM:(s.size:Int)<=9:=(by omega);obtain⟨hs0,e0⟩:=hc;obtain⟨c0,hc0⟩:=AqG (45:UInt8);rw [←hc0]at e0;have hc:((c0.toNat:Int) == 45)=true:=(by rw [hc0];rfl);clear hc0;have HS:=AqH hs;clear hs;go_enter Tryz.func116,Tryz.ntmps116;go_wp2;clear hc e0 hp
 go_loop [2,5] (fun n i=>∃j:Nat,1<=j/\j<=1+m.length/\i=.int .i64 (j:Nat)/\n=.int .i64 (val (m.take (j-1)):Nat)) (fun _ i=>s.size-(intOf i).toNat)
 case atStart=>exact⟨1,by omega,by omega,rfl,by simp [FS]⟩
 case round=>
  obtain⟨j,hj0,Gh,rfl,rfl⟩:=hrel;have O4:j<=s.size:=(by have:=HS.out;omega);by_cases hlt:j<1+m.length
  ·obtain⟨c,v,DD,e,d1,d2,Cy,hv,EN,hn⟩:=hm.digitB hmax hj0 hlt;have Gj:(j:Int)<(s.size:Int):=(by omega);have Eo:(0:Int)<=(j:Int):=(by omega);rw [←hv];have HN:=AqH hn;clear hv hn;go_wp2
   go_round
   case rel=>exact⟨j+1,by omega,by omega,by go_num,by rw [HN.out]⟩
   case measure=>simp [intOf];omega
  ·have Cb:j=1+m.length:=(by omega);have ht:m.take (j-1)=m:=by rw [Cb];simp
   have EN:((val m:Nat):Int)<=999999999:=by have h1:=GR hm.all;have h2:10^m.length<=10^9:=Nat.pow_le_pow_right (by omega) (by have:=HS.out;omega);have h3:(10:Nat)^9=1000000000:=(by decide);omega
   rw [ht];have Eo:(0:Int)<=(j:Int):=(by omega);have hle:(s.size:Int)<=(j:Int):=(by have:=HS.out;omega);clear ht Cb hlt;go_wp2;go_ret3;exact⟨by first|rfl|simp,rfl⟩
theorem AlT(s:ByteArray)(m m2:Bs)(hm:Seg s 1 m)(Fo:Seg s (1+m.length+1) m2)(hs:s.size=1+m.length+1+m2.length)(h2:0<m2.length)(hq:∃h:1+m.length<s.size,s[1+m.length]=47)(hmax:s.size<=9)(h0:0<m.length)(hc:∃(h:0<s.size),s[0]=45)(w:World) :
  Calls Tryz.prog 116 #[.string s] w (fun e w'=>e=.returned (.tuple #[.int .i64 (-(val m:Int)),.int .i64 (val m2:Nat),.bool true])/\w=w'):=by
 have hp:(0:Int)<(s.size:Int):=(by omega);have fM:(s.size:Int)<=9:=(by omega);obtain⟨hs0,e0⟩:=hc;obtain⟨c0,hc0⟩:=AqG (45:UInt8);rw [←hc0]at e0;have hc:((c0.toNat:Int) == 45)=true:=(by rw [hc0];rfl);clear hc0;have HS:=AqH hs;clear hs;go_enter Tryz.func116,Tryz.ntmps116;go_wp2;clear hc e0 hp
 go_loop [2,5] (fun n i=>∃j:Nat,1<=j/\j<=1+m.length/\i=.int .i64 (j:Nat)/\n=.int .i64 (val (m.take (j-1)):Nat)) (fun _ i=>s.size-(intOf i).toNat)
 case atStart=>exact⟨1,by omega,by omega,rfl,by simp [FS]⟩
 case round=>
  obtain⟨j,hj0,Gh,rfl,rfl⟩:=hrel;have O4:j<=s.size:=(by have:=HS.out;omega);by_cases hlt:j<1+m.length
  ·obtain⟨c,v,DD,e,d1,d2,Cy,hv,EN,hn⟩:=hm.digitB hmax hj0 hlt;have Gj:(j:Int)<(s.size:Int):=(by omega);have Eo:(0:Int)<=(j:Int):=(by omega);rw [←hv];have HN:=AqH hn;clear hv hn;go_wp2
   go_round
   case rel=>exact⟨j+1,by omega,by omega,by go_num,by rw [HN.out]⟩
   case measure=>simp [intOf];omega
  ·have Cb:j=1+m.length:=(by omega);have ht:m.take (j-1)=m:=by rw [Cb];simp
   have EN:((val m:Nat):Int)<=999999999:=by have h1:=GR hm.all;have h2:10^m.length<=10^9:=Nat.pow_le_pow_right (by omega) (by have:=HS.out;omega);have h3:(10:Nat)^9=1000000000:=(by decide);omega
   rw [ht];have Eo:(0:Int)<=(j:Int):=(by omega);have DD:j<s.size:=(by have:=HS.out;omega);have Gj:(j:Int)<(s.size:Int):=(by omega);obtain⟨c,hc⟩:=AqG (47:UInt8);have e:s[j]=c:=(by rw [hc];obtain⟨_,e⟩:=hq;simp only [Cb];exact e);have Cy:((c.toNat:Int) != 47)=false:=(by rw [hc];rfl);have hsz:s.size=j+1+m2.length:=(by have:=HS.out;omega);have DN:=AqH hsz;rw [←Cb]at Fo;clear ht Cb hlt hc hsz;go_wp2;clear Cy e
   go_loop [3,5] (fun n i=>∃k:Nat,j+1<=k/\k<=j+1+m2.length/\i=.int .i64 (k:Nat)/\n=.int .i64 (val (m2.take (k-(j+1))):Nat)) (fun _ i=>s.size-(intOf i).toNat)
   case atStart=>exact⟨j+1,by omega,by omega,by go_num,by simp [FS]⟩
   case round=>
    obtain⟨k,hk0,BH,rfl,rfl⟩:=hrel;have fC:k<=s.size:=(by have:=DN.out;omega);by_cases hlt2:k<j+1+m2.length
    ·obtain⟨c,v,EH,e,d1,d2,Cy,hv,iI,hn⟩:=Fo.digitB hmax hk0 hlt2;have Tj:(k:Int)<(s.size:Int):=(by omega);have Td:(0:Int)<=(k:Int):=(by omega);rw [←hv];have HN:=AqH hn;clear hv hn Cy;go_wp2
     go_round
     case rel=>exact⟨k+1,by omega,by omega,by go_num,by rw [HN.out]⟩
     case measure=>simp [intOf];omega
    ·have Jk:k=j+1+m2.length:=(by omega);have GF:m2.take (k-(j+1))=m2:=(by rw [Jk];simp);have hle:(s.size:Int)<=(k:Int):=(by have:=DN.out;omega);rw [GF];clear GF Jk hlt2;go_wp2;go_ret3;exact⟨by first|rfl|simp,rfl⟩
theorem vk(q:Rat)(hl:(R q).length<=9)(w:World):Calls Tryz.prog 116 #[S (R q)] w (fun e w'=>e=.returned (.tuple #[.int .i64 q.num,.int .i64 q.den,.bool true])/\w=w'):=by
 have hp:=OZ q.num.natAbs;have I7:=OZ q.den;have e1:((val (D q.num.natAbs):Nat):Int)=q.num.natAbs:=(by rw [GQ]);by_cases hd:q.den=1
 ·rw [NS hd]at hl ⊢;by_cases hn:q.num<0
  ·rw [Mr.1 hn]at hl ⊢;have h:=IH [45] (D q.num.natAbs) [] (C3 _);simp only [List.append_nil,List.singleton_append,List.length_singleton]at h;have r:=AlV _ _ h (by rw [Cp];simp;omega) (by rw [Cp];exact hl) hp ⟨by rw [Cp];simp,rfl⟩ w;rw [e1,show -(q.num.natAbs:Int)=q.num by omega]at r;rw [hd];exact r
  ·rw [Mr.2 hn]at hl ⊢;have h:=IH [] (D q.num.natAbs) [] (C3 _);simp only [List.append_nil,List.nil_append,List.length_nil]at h;have r:=AlU _ _ h (by rw [Cp];simp) (by rw [Cp];exact hl) hp w;rw [e1,show (q.num.natAbs:Int)=q.num by omega]at r;rw [hd];exact r
 ·rw [Pm hd]at hl ⊢;have e2:((val (D q.den):Nat):Int)=q.den:=(by rw [GQ]);by_cases hn:q.num<0
  ·rw [Mr.1 hn]at hl ⊢;have h:=IH [45] (D q.num.natAbs) (47::D q.den) (C3 _);have h2:=IH (45::D q.num.natAbs ++ [47]) (D q.den) [] (C3 _);simp only [List.append_nil,List.length_singleton,List.append_assoc,List.cons_append,List.nil_append]at h h2;rw [show (45::(D q.num.natAbs ++ [47])).length=1+(D q.num.natAbs).length+1 by simp;omega]at h2;have r:=AlT _ _ _ h h2 (by rw [Cp];simp;omega) I7 ⟨by rw [Cp];simp;omega,by rw [NV];simp [List.getD,Nat.add_comm 1]⟩ (by rw [Cp];exact hl) hp ⟨by rw [Cp];simp,rfl⟩ w;rw [e1,e2,show -(q.num.natAbs:Int)=q.num by omega]at r;exact r
  ·rw [Mr.2 hn]at hl ⊢;have h:=IH [] (D q.num.natAbs) (47::D q.den) (C3 _);have h2:=IH (D q.num.natAbs ++ [47]) (D q.den) [] (C3 _);simp only [List.append_nil,List.nil_append,List.length_nil,List.append_assoc,List.cons_append]at h h2;rw [show List.length (D q.num.natAbs ++ [(47:UInt8)])=0+(D q.num.natAbs).length+1 by simp]at h2;have r:=AlS _ _ _ h h2 (by rw [Cp];simp;omega) I7 ⟨by rw [Cp];simp,by rw [NV];simp [List.getD]⟩ (by rw [Cp];exact hl) hp w;rw [e1,e2,show (q.num.natAbs:Int)=q.num by omega]at r;exact r
theorem pS{q:Rat}{k:Nat}(h:(R q).length<=k):q.num.natAbs<10^k/\q.den<10^k∨k=0:=by
 by_cases hk:k=0
 ·exact .inr hk
 ·left
  by_cases hd:q.den=1
  ·rw [NS hd]at h;exact⟨Kw h,by rw [hd];exact Nat.one_lt_pow hk (by omega)⟩
  ·rw [Pm hd,List.length_append,List.length_cons]at h;exact⟨Kw (by omega),Ko (by omega)⟩
theorem Amb(p q:Rat)(h1:(R p).length<=9)(h2:(R q).length<=9)(w:World)(hw:Am w):Calls Tryz.prog 56 #[S (R p),S (R q)] w (Bg (R (p+q)) w):=by
 have q1:=vk p h1;have q2:=vk q h2;have e9:(10:Nat)^9=1000000000:=(by decide);obtain⟨s1,s2⟩:=(pS h1).resolve_right (by omega);obtain⟨s3,s4⟩:=(pS h2).resolve_right (by omega);rw [e9]at s1 s2 s3 s4;have w1:=J8 (x:=p.num) (y:=(q.den:Int)) s1 (by rw [AqM];exact s4);have w2:=J8 (x:=q.num) (y:=(p.den:Int)) s3 (by rw [AqM];exact s2);have w3:=J8 (x:=(p.den:Int)) (y:=(q.den:Int)) (by rw [AqM];exact s2) (by rw [AqM];exact s4);have b1:=Mw (x:=p.num) (y:=(q.den:Int)) s1 (by rw [AqM];exact s4);have b2:=Mw (x:=q.num) (y:=(p.den:Int)) s3 (by rw [AqM];exact s2);have b3:=Mw (x:=(p.den:Int)) (y:=(q.den:Int)) (by rw [AqM];exact s2) (by rw [AqM];exact s4);have w4:IntKind.i64.wrap (p.num*(q.den:Int)+q.num*(p.den:Int))=p.num*(q.den:Int)+q.num*(p.den:Int):=AqQ _ (by omega);have sm:=Amd (p.num*(q.den:Int)+q.num*(p.den:Int)) (p.den*q.den) (Nat.mul_pos p.den_pos q.den_pos) (by omega) (by omega) (by rw [←Int.natCast_mul,AqM]at b3;omega);rw [Int.natCast_mul,←Rat.add_def']at sm;clear b1 b2 b3 h1 h2 e9 s1 s2 s3 s4;go_enter Tryz.func56,Tryz.ntmps56;(go_wp2_with fail);(with_reducible refine(q1 _).mono ?_);rintro e w1 ⟨rfl,rfl⟩;(go_wp2_with fail);(with_reducible refine(q2 _).mono ?_);rintro e w2 ⟨rfl,rfl⟩;(go_wp2_with fail);(with_reducible refine(sm _ hw).mono ?_);rintro e w3 ⟨rfl,hx3⟩;go_wp2;go_ret;exact⟨rfl,hx3⟩
theorem ny(x:Int):mkRat x 1=(x:Rat):=by
 apply Rat.ext
 ·rw [Rat.num_mkRat];simp
 ·rw [Rat.den_mkRat];simp
structure Fr where
 a:Int
 b:Int
 s:Int
 t:Int
 u:Int
 v:Int
structure Fr.Ok(f:Fr):Prop where
 a1:-128<=f.a
 a2:f.a<=127
 b1:-128<=f.b
 b2:f.b<=127
 s1:0<=f.s
 s2:f.s<=255
 t1:0<=f.t
 t2:f.t<=255
 u1:0<=f.u
 u2:f.u<=255
 v1:0<=f.v
 v2:f.v<=255
def Al(a b c:Pt):Rat:=(b.x-a.x)*(c.y-a.y)-(b.y-a.y)*(c.x-a.x)
theorem qY(a b c:Pt){k:Nat}(ha:Ar k a)(hb:Ar k b)(hc:Ar k c)(hk:0<k)(hk2:k<=400)(w:World)(hw:Am w) :
  Calls Tryz.prog 185 #[Ak a,Ak b,Ak c] w (Bg (R (Al a b c)) w):=by
 have s1:=Ia b.x a.x (a:=k) (b:=k) ⟨hb.x,ha.x,hk,hk,by omega⟩;have s2:=Ia b.y a.y (a:=k) (b:=k) ⟨hb.y,ha.y,hk,hk,by omega⟩;have s3:=Ia c.x a.x (a:=k) (b:=k) ⟨hc.x,ha.x,hk,hk,by omega⟩;have s4:=Ia c.y a.y (a:=k) (b:=k) ⟨hc.y,ha.y,hk,hk,by omega⟩;have m1:=QM (b.x-a.x) (c.y-a.y) (a:=k+k+1) (b:=k+k+1) ⟨hb.x.sub ha.x,hc.y.sub ha.y,by omega,by omega,by omega⟩;have m2:=QM (b.y-a.y) (c.x-a.x) (a:=k+k+1) (b:=k+k+1) ⟨hb.y.sub ha.y,hc.x.sub ha.x,by omega,by omega,by omega⟩;have sb:=Ia ((b.x-a.x)*(c.y-a.y)) ((b.y-a.y)*(c.x-a.x)) (a:=k+k+1+(k+k+1)) (b:=k+k+1+(k+k+1)) ⟨(hb.x.sub ha.x).mul (hc.y.sub ha.y),(hb.y.sub ha.y).mul (hc.x.sub ha.x),by omega,by omega,by omega⟩;have e:Al a b c=(b.x-a.x)*(c.y-a.y)-(b.y-a.y)*(c.x-a.x):=rfl;rw [←e]at sb;obtain⟨r,hr⟩:=AqG (Al a b c);rw [←hr]at sb ⊢;unfold Ak;clear ha hb hc e hr;go_enter Tryz.func185,Tryz.ntmps185;(go_wp2_with fail);obtain⟨W,hW,hE,hb1,hb2,hb3⟩:=P0 w (.cells #[S (R a.x),S (R a.y)] 92) (.cells #[S (R b.x),S (R b.y)] 92) (.cells #[S (R c.x),S (R c.y)] 92);rw [←hW];clear hW;have hA:JA W w.heap.size a:=⟨Ab hb1 rfl,Ab hb1 rfl⟩;have hB:JA W (w.heap.size+1) b:=⟨Ab hb2 rfl,Ab hb2 rfl⟩;have hC:JA W (w.heap.size+1+1) c:=⟨Ab hb3 rfl,Ab hb3 rfl⟩;clear hb1 hb2 hb3;have Hr:=(Aa.refl W).drew;have G1:=hE.drew;obtain⟨k1,k2⟩:=hA;obtain⟨k3,k4⟩:=hB;have hA:=JA.mk k1 k2;have hB:=JA.mk k3 k4
 go_region_held3 (fun w'=>w'.cell? ⟨w.heap.size,0,none⟩=some (S (R a.x))/\w'.cell? ⟨w.heap.size,1,none⟩=some (S (R a.y))/\w'.cell? ⟨w.heap.size+1,0,none⟩=some (S (R b.x))/\w'.cell? ⟨w.heap.size+1,1,none⟩=some (S (R b.y)))
  (go_keep)
  (first|((with_reducible refine(s1 _ (hw.ext G1)).mono ?_);rintro e w1 ⟨rfl,hx1⟩;obtain⟨q1,q2⟩:=hA.ext (Hr.trans hx1);obtain⟨q3,q4⟩:=hB.ext (Hr.trans hx1))|((with_reducible refine(s2 _ (hw.ext (G1.trans hx1))).mono ?_);rintro e w2 ⟨rfl,hx2⟩;obtain⟨t1,t2⟩:=hA.ext (Hr.trans (hx1.trans hx2));obtain⟨t3,t4⟩:=hB.ext (Hr.trans (hx1.trans hx2))))
 have hV:=Hr.trans (hx1.trans hx2);replace hE:=hE.trans hV;replace hA:=hA.ext hV;replace hC:=hC.ext hV;clear Hr G1 hx1 hx2 k1 k2 k3 k4 q1 q2 q3 q4 t1 t2 t3 t4 hV hB s1 s2;have Hr:=(Aa.refl w2).drew;have G1:=hE.drew;obtain⟨k1,k2⟩:=hA;obtain⟨k3,k4⟩:=hC;have hA:=JA.mk k1 k2;have hC:=JA.mk k3 k4;(go_wp2_with fail)
 go_region_held3 (fun w'=>w'.cell? ⟨w.heap.size,0,none⟩=some (S (R a.x))/\w'.cell? ⟨w.heap.size,1,none⟩=some (S (R a.y))/\w'.cell? ⟨w.heap.size+1+1,0,none⟩=some (S (R c.x))/\w'.cell? ⟨w.heap.size+1+1,1,none⟩=some (S (R c.y)))
  (go_keep)
  (first|((with_reducible refine(s3 _ (hw.ext G1)).mono ?_);rintro e w3 ⟨rfl,hx1⟩;obtain⟨q1,q2⟩:=hA.ext (Hr.trans hx1);obtain⟨q3,q4⟩:=hC.ext (Hr.trans hx1))|((with_reducible refine(s4 _ (hw.ext (G1.trans hx1))).mono ?_);rintro e w4 ⟨rfl,hx2⟩;obtain⟨t1,t2⟩:=hA.ext (Hr.trans (hx1.trans hx2));obtain⟨t3,t4⟩:=hC.ext (Hr.trans (hx1.trans hx2))))
 replace hE:=hE.trans (Hr.trans (hx1.trans hx2));clear hA hC Hr G1 hx1 hx2 k1 k2 k3 k4 q1 q2 q3 q4 t1 t2 t3 t4 s3 s4;(go_wp2_with fail);(with_reducible refine(m1 _ (hw.ext hE)).mono ?_);rintro e w5 ⟨rfl,hx⟩;replace hE:=hE.trans hx;(go_wp2_with fail);(with_reducible refine(m2 _ (hw.ext hE)).mono ?_);rintro e w6 ⟨rfl,hx2⟩;replace hE:=hE.trans hx2;(go_wp2_with fail);(with_reducible refine(sb _ (hw.ext hE)).mono ?_);rintro e w7 ⟨rfl,hx3⟩;replace hE:=hE.trans hx3;go_wp2;go_ret;exact⟨rfl,hE⟩
theorem AnV(a b c:Pt){k:Nat}(ha:Ar k a)(hb:Ar k b)(hc:Ar k c)(hk:0<k)(hk2:k<=400)(w:World)(hw:Am w) :
  Calls Tryz.prog 179 #[Ak a,Ak b,Ak c] w (Ax (AH (Al a b c)) w):=by
 have ar:=qY a b c ha hb hc hk hk2;have sg:=QN (Al a b c);have hE:=(((Aa.refl w).alloc (.cells #[S (R a.x),S (R a.y)] 92)).alloc (.cells #[S (R b.x),S (R b.y)] 92)).alloc (.cells #[S (R c.x),S (R c.y)] 92);unfold Ak at ar ⊢;clear ha hb hc;go_enter Tryz.func179,Tryz.ntmps179;(go_wp2_with fail);(with_reducible refine(ar _ (hw.ext hE)).mono ?_);rintro e w1 ⟨rfl,hx⟩;(go_wp2_with fail);(with_reducible refine(sg _).mono ?_);rintro e w2 ⟨rfl,hx2⟩;go_wp2;go_ret;exact⟨rfl,hE.trans (hx.trans hx2)⟩
def Be(a b:Pt):Int:=if AU a.x b.x≠0 then AU a.x b.x else AU a.y b.y
theorem Ajk(a b:Pt){k:Nat}(ha:Ar k a)(hb:Ar k b)(hk:0<k)(hk2:k<=400)(w:World)(hw:Am w) :
  Calls Tryz.prog 180 #[Ak a,Ak b] w (Ax (Be a b) w):=by
 have c1:=J0 a.x b.x (a:=k) (b:=k) ⟨ha.x,hb.x,hk,hk,by omega⟩;have c2:=J0 a.y b.y (a:=k) (b:=k) ⟨ha.y,hb.y,hk,hk,by omega⟩;have hE:=((Aa.refl w).alloc (.cells #[S (R a.x),S (R a.y)] 92)).alloc (.cells #[S (R b.x),S (R b.y)] 92);obtain⟨r,hr⟩:=AqG (Be a b);rw [←hr]
 have hA:(w.alloc (.cells #[S (R a.x),S (R a.y)] 92)).alloc (.cells #[S (R b.x),S (R b.y)] 92) |>.heap[w.heap.size]?=some (.cells #[S (R a.x),S (R a.y)] 92):=(Below.heap_alloc _ _ _ (by simp)).trans (AqJ w _)
 have hB:=AqJ (w.alloc (.cells #[S (R a.x),S (R a.y)] 92)) (.cells #[S (R b.x),S (R b.y)] 92);rw [AqR]at hB;obtain⟨x,hx0⟩:=AqG (AU a.x b.x)
 have L8:r=if x≠0 then x else AU a.y b.y:=by rw [hr,hx0];rfl
 rw [←hx0]at c1;unfold Ak;clear ha hb hr hx0;by_cases h:x=0
 ·subst h;replace L8:r=AU a.y b.y:=(by rw [L8];rfl);simp only [←L8]at c2;clear L8;go_enter Tryz.func180,Tryz.ntmps180;(go_wp2_with fail);(with_reducible refine(c1 _ (hw.ext hE)).mono ?_);rintro e w1 ⟨rfl,hx⟩;replace hE:=hE.trans hx;replace hA:=(hx.block _ (AqI hA)).trans hA;replace hB:=(hx.block _ (AqI hB)).trans hB;have k1:=Ab (o:=1) hA rfl;have k2:=Ab (o:=1) hB rfl;(go_wp2_with fail);(with_reducible refine(c2 _ (hw.ext hE)).mono ?_);rintro e w2 ⟨rfl,hx2⟩;go_wp2;go_ret;exact⟨rfl,hE.trans hx2⟩
 ·replace L8:r=x:=(by rw [L8,if_pos h]);have hne:(x != 0)=true:=(by rw [bne_iff_ne];exact h);subst L8;clear c2 h;go_enter Tryz.func180,Tryz.ntmps180;(go_wp2_with fail);(with_reducible refine(c1 _ (hw.ext hE)).mono ?_);rintro e w1 ⟨rfl,hx⟩;go_wp2;go_ret;exact⟨rfl,hE.trans hx⟩
def Ao(l:List Pt):List (Bs×Bs):=l.map LP
theorem C2{w:World}{A:Option Addr}{l:List Pt}(hr:Ad w A (flat (Ao l))){j:Nat}(h:j<l.length):∃b o,A=some ⟨b,o,none⟩/\w.cell? ⟨b,o+j*2,none⟩=some (S (R l[j].x))/\w.cell? ⟨b,o+j*2+1,none⟩=some (S (R l[j].y)):=by
 have hl:(Ao l).length=l.length:=(by simp [Ao]);obtain⟨b,o,e,hcs⟩:=hr.ad (by rw [flat_length];omega);obtain⟨f1,f2⟩:=flat_get (Ao l) j (by omega);have hg1:=hcs (j*2) (by rw [flat_length];omega);have hg2:=hcs (j*2+1) (by rw [flat_length];omega);rw [AqP (by rw [flat_length];omega),AqO]at f1 f2;rw [f1]at hg1;rw [f2,←Nat.add_assoc]at hg2;have e2:(Ao l)[j]'(by omega)=LP l[j]:=(by simp [Ao]);rw [e2]at hg1 hg2;exact⟨b,o,e,hg1,hg2⟩
structure NP(l:List Pt):Prop where
 n3:3<=l.length
 n60:l.length<=60
 turn:∀(i n:Nat) (hi:i<l.length) (hn:n<l.length),n≠i→n≠(i+1)%l.length→0<Al l[i] (l[(i+1)%l.length]'(Nat.mod_lt _ (by omega))) l[n]
 less:∀(n:Nat) (h:n+1<l.length),¬Be l[n+1] (l[0]'(by omega))<0
theorem lE(l:List Pt)(hp:NP l){k:Nat}(hz:∀p∈l,Ar k p)(hk:0<k)(hk2:k<=200)(A:Option Addr)(c:Nat)(w:World)(hw:Am w)(hr:Ad w A (flat (Ao l)))(hc:l.length<=c)(_:c<=9223372036854775807) :
  Calls Tryz.prog 101 #[.slice A l.length c] w (Ax 0 w):=by
 obtain⟨h3,aZ,hturn,dl⟩:=hp;have HT:=AqH hturn;have HL:=AqH dl;have HZ:=AqH hz;clear hturn dl hz;go_enter Tryz.func101,Tryz.ntmps101;go_wp2
 go_loopw [21] (fun i wr=>∃j:Nat,i=.int .i64 (j:Nat)/\j<=l.length/\Aa w wr) (fun i _=>l.length-(intOf i).toNat)
 case atStart=>exact⟨0,rfl,by omega,Aa.refl _⟩
 case round=>
  obtain⟨j,rfl,hj,Ac⟩:=hrel;by_cases hlt:j<l.length
  ·obtain⟨b,o,rfl,hg1,hg2⟩:=C2 (hr.ext Ac) hlt;have LF:=HZ.out l[j] (AqL hlt);obtain⟨p,hp⟩:=AqG (l[j]);rw [←hp]at hg1 hg2 LF;have hx1:=Ac.alloc (.cells #[S (R p.x),S (R p.y)] 92);have ck:=sF (R p.x) (R p.y) true (by simp only [true_iff];exact⟨XR LF.x hk hk2,XR LF.y hk hk2⟩) (Yy LF.x hk (by omega)) (Yy LF.y hk (by omega)) _ (hw.ext hx1);rw [KU]at ck;have hj0:(0:Int)<=(j:Int):=(by omega);have AV:(j:Int)<(l.length:Int):=(by omega);clear hp LF;(go_wp2_with fail);(with_reducible refine ck.mono ?_);rintro e w2 ⟨rfl,hx2⟩;go_wp2;go_roundw
   case rel=>exact⟨j+1,by go_num,hlt,hx1.trans hx2⟩
   case measure=>simp [intOf];omega
  ·have hle:(l.length:Int)<=(j:Int):=(by omega);have hd:decide (j<l.length)=false:=(by simp [hlt]);have BP:decide ((j:Int)<(l.length:Int))=false:=(by simp;omega);clear hlt;go_wp2
   (try first|simp only [hd]|simp only [BP])
   clear hle hd BP
   go_loopw [33] (fun i wr=>∃i':Nat,i=.int .i64 (i':Nat)/\i'<=l.length/\Aa w wr) (fun i _=>l.length-(intOf i).toNat)
   case atStart=>exact⟨0,rfl,by omega,Ac⟩
   case round=>
    obtain⟨i,rfl,hi,SY⟩:=hrel;by_cases hlt:i<l.length
    ·obtain⟨b,o,rfl,hg1,hg2⟩:=C2 (hr.ext SY) hlt;obtain⟨kk,Bt⟩:=AqG ((i+1)%l.length);have Cr:kk<l.length:=(by rw [Bt];exact Nat.mod_lt _ (by omega));have Qi:((i:Int)+1)%(l.length:Int)=(kk:Int):=(by rw [Bt];simp);obtain⟨pa,DZ⟩:=AqG (l[i]);have Qv:=HZ.out l[i] (AqL hlt);rw [←DZ]at hg1 hg2 Qv;have Lt:(0:Int)<=(i:Int):=(by omega);have Tb:(i:Int)<(l.length:Int):=(by omega);have hx1:=SY.alloc (.cells #[S (R pa.x),S (R pa.y)] 92);have Aq:=AqJ wr (.cells #[S (R pa.x),S (R pa.y)] 92);have oK:=AqH Bt;have UB:=AqH DZ;clear Bt DZ;go_wp2;rw [Qi];clear Qi hg1 hg2;generalize wr.alloc (.cells #[S (R pa.x),S (R pa.y)] 92)=V at *;obtain⟨ba,yM⟩:=AqG wr.heap.size;rw [←yM]at Aq ⊢;clear yM SY
     go_loopw [45] (fun i wr=>∃n:Nat,i=.int .i64 (n:Nat)/\n<=l.length/\Aa V wr) (fun i _=>l.length-(intOf i).toNat)
     case atStart=>exact⟨0,rfl,by omega,Aa.refl _⟩
     case round=>
      obtain⟨n,rfl,hn,Ke⟩:=hrel;by_cases Ly:n<l.length
      ·obtain⟨_,_,e1,hg1,hg2⟩:=C2 (hr.ext (hx1.trans Ke)) Ly;obtain⟨_,_,e2,hg3,hg4⟩:=C2 (hr.ext (hx1.trans Ke)) Cr;simp only [AqO,Addr.mk.injEq,and_true]at e1 e2;obtain⟨rfl,rfl⟩:=e1;obtain⟨e2,e3⟩:=e2;subst e2 e3;obtain⟨px,OB⟩:=AqG (l[n]);obtain⟨pk,L6⟩:=AqG (l[kk]);have LG:=HZ.out l[n] (AqL Ly);have iV:=HZ.out l[kk] (AqL Cr);rw [←OB]at hg1 hg2 LG;rw [←L6]at hg3 hg4 iV;have HPX:=AqH OB;have HPK:=AqH L6;clear OB L6;have SJ:=(Ke.block _ (AqI Aq)).trans Aq;have DJ:=Ke.alloc (.cells #[S (R px.x),S (R px.y)] 92);have AA:=AqJ wr (.cells #[S (R px.x),S (R px.y)] 92);have Gk:(0:Int)<=(n:Int):=(by omega);have hnl:(n:Int)<(l.length:Int):=(by omega);have hk0:(0:Int)<=(kk:Int):=(by omega);have ApK:(kk:Int)<(l.length:Int):=(by omega);have hxx:=(Aa.refl wr).alloc (.cells #[S (R px.x),S (R px.y)] 92);replace SJ:=(hxx.block _ (AqI SJ)).trans SJ;have hg3':=hxx.cellS hg3;have eS:=hxx.cellS hg4
       go_upto_region 19 with fail
       clear hg1 hg2 hg3 hg4;generalize wr.alloc (.cells #[S (R px.x),S (R px.y)] 92)=U at *;obtain⟨bx,MX⟩:=AqG wr.heap.size;rw [←MX]at AA ⊢;clear MX hxx;by_cases Hy:n=i
       ·have t1:((n:Int) != (i:Int))=false:=(by rw [Hy];simp);clear Hy
        go_quiet (fail)
        go_wp2;go_roundw
        case rel=>exact⟨n+1,by go_num,Ly,DJ.drewN _⟩
        case measure=>simp [intOf];omega
       ·have t1:((n:Int) != (i:Int))=true:=(by rw [bne_iff_ne];omega);have t1n:(n != i)=true:=(by rw [bne_iff_ne];exact Hy);have t1e:(n == i)=false:=(by rw [beq_eq_false_iff_ne];exact Hy);by_cases G9:n=kk
        ·have t2n:(n != kk)=false:=(by rw [G9];simp);have t2:((n:Int) != (kk:Int))=false:=(by rw [G9];simp);clear G9 Hy
         go_quiet (fail)
         go_wp2;go_roundw
         case rel=>exact⟨n+1,by go_num,Ly,DJ.drewN _⟩
         case measure=>simp [intOf];omega
        ·have t2:((n:Int) != (kk:Int))=true:=(by rw [bne_iff_ne];omega);have t2n:(n != kk)=true:=(by rw [bne_iff_ne];exact G9);have t2e:(n == kk)=false:=by rw [beq_eq_false_iff_ne];exact G9
         have yG:0<Al pa pk px:=by have h:=HT.out i n hlt Ly Hy (by rw [←oK.out];exact G9);rw [UB.out,HPK.out,HPX.out];simp only [oK.out];exact h
         have tn:=AnV pa pk px Qv iV LG hk (by omega);rw [mI yG]at tn;have c1:=Ab (o:=0) SJ rfl;have c2:=Ab (o:=1) SJ rfl;have c3:=Ab (o:=0) AA rfl;have c4:=Ab (o:=1) AA rfl;have hU:=hw.ext (hx1.trans DJ);unfold Ak at tn;clear LG iV yG Hy G9
         go_region_held3 (fun w'=>w'.cell? ⟨ba,0,none⟩=some (S (R pa.x))/\w'.cell? ⟨ba,1,none⟩=some (S (R pa.y))/\w'.cell? ⟨b,o+kk*2,none⟩=some (S (R pk.x))/\w'.cell? ⟨b,o+kk*2+1,none⟩=some (S (R pk.y))/\w'.cell? ⟨bx,0,none⟩=some (S (R px.x))/\w'.cell? ⟨bx,1,none⟩=some (S (R px.y)))
          (go_keep)
          (first|((with_reducible refine(tn _ (hU.ext (Aa.refl U).drew)).mono ?_);rintro e w5 ⟨rfl,Ae⟩;have X5:=(Aa.refl U).drew.trans Ae;have d1:=X5.cellS c1;have d2:=X5.cellS c2;have d3:=X5.cellS c3;have d4:=X5.cellS c4;have d5:=X5.cellS hg3';have d6:=X5.cellS eS))
         go_wp2;go_roundw
         case rel=>exact⟨n+1,by go_num,Ly,DJ.trans X5⟩
         case measure=>simp [intOf];omega
      ·have hle:(l.length:Int)<=(n:Int):=(by omega);go_wp2;go_roundw
       case rel=>exact⟨i+1,by go_num,hlt,hx1.trans Ke⟩
       case measure=>simp [intOf];omega
    ·have hle:(l.length:Int)<=(i:Int):=(by omega);have hd:decide (i<l.length)=false:=(by simp [hlt]);have BP:decide ((i:Int)<(l.length:Int))=false:=(by simp;omega);have Ahl:0<l.length:=(by omega);obtain⟨b,o,rfl,_,_⟩:=C2 (hr.ext SY) Ahl;have Ep:(1:Int)<=(l.length:Int):=(by omega);have hlc:(l.length:Int)<=(c:Int):=(by omega);have hm1:(l.length:Int)-1=((l.length-1:Nat):Int):=(by omega);obtain⟨m,hme⟩:=AqG (l.length-1);rw [←hme]at hm1;have HM:=AqH hme;clear hme hlt;go_wp2;rw [←HM.out];clear hle hd BP hm1 Ep hlc
     go_loopw [73] (fun i wr=>∃n:Nat,i=.int .i64 (n:Nat)/\n<=m/\Aa w wr) (fun i _=>m-(intOf i).toNat)
     case atStart=>exact⟨0,rfl,by omega,SY⟩
     case round=>
      obtain⟨n,rfl,hn,Ke⟩:=hrel;by_cases Ly:n<m
      ·have CJ:n+1<l.length:=(by rw [HM.out]at Ly;omega);have hl0:0<l.length:=(by omega);obtain⟨_,_,e1,hg1,hg2⟩:=C2 (hr.ext Ke) CJ;obtain⟨_,_,e2,hg3,hg4⟩:=C2 (hr.ext Ke) hl0;simp only [AqO,Addr.mk.injEq,and_true]at e1 e2;obtain⟨rfl,rfl⟩:=e1;obtain⟨e2,e3⟩:=e2;subst e2 e3;obtain⟨px,OB⟩:=AqG (l[n+1]);obtain⟨p0,B8⟩:=AqG (l[0]);have LG:=HZ.out l[n+1] (AqL CJ);have hz0:=HZ.out l[0] (AqL hl0);have Dx:=HL.out n CJ;rw [←OB]at hg1 hg2 LG;rw [←B8]at hg3 hg4 hz0;rw [←OB,←B8]at Dx;have ls:=Ajk px p0 LG hz0 hk (by omega);obtain⟨r,Gm⟩:=AqG (Be px p0);rw [←Gm]at Dx ls;have hr0:0<=r:=(by omega);have e2:o+(n+1)*2=o+2+n*2:=(by omega);rw [e2]at hg1 hg2;rw [Nat.zero_mul,Nat.add_zero]at hg3 hg4;have Gk:(0:Int)<=(n:Int):=(by omega);have hnl:(n:Int)<(m:Int):=(by omega);have hl0':(0:Int)<(l.length:Int):=(by omega);have DJ:=Ke.alloc (.cells #[S (R px.x),S (R px.y)] 92);have AA:=AqJ wr (.cells #[S (R px.x),S (R px.y)] 92);have hxx:=(Aa.refl wr).alloc (.cells #[S (R px.x),S (R px.y)] 92);have hg3':=hxx.cellS hg3;have eS:=hxx.cellS hg4;unfold Ak at ls;clear Dx Gm OB B8 LG hz0 e2
       go_upto_region 26 with fail
       clear hg1 hg2 hg3 hg4;generalize wr.alloc (.cells #[S (R px.x),S (R px.y)] 92)=U at *;obtain⟨bx,MX⟩:=AqG wr.heap.size;rw [←MX]at AA ⊢;clear MX hxx;have c3:=Ab (o:=0) AA rfl;have c4:=Ab (o:=1) AA rfl;have hU:=hw.ext DJ
       go_region_held3 (fun w'=>w'.cell? ⟨b,o,none⟩=some (S (R p0.x))/\w'.cell? ⟨b,o+1,none⟩=some (S (R p0.y))/\w'.cell? ⟨bx,0,none⟩=some (S (R px.x))/\w'.cell? ⟨bx,1,none⟩=some (S (R px.y)))
        (go_keep)
        (first|((with_reducible refine(ls _ (hU.ext (Aa.refl U).drew)).mono ?_);rintro e w5 ⟨rfl,Ae⟩;have X5:=(Aa.refl U).drew.trans Ae;have d1:=X5.cellS c3;have d2:=X5.cellS c4;have d3:=X5.cellS hg3';have d4:=X5.cellS eS))
       go_wp2;go_roundw
       case rel=>exact⟨n+1,by go_num,Ly,DJ.trans X5⟩
       case measure=>simp [intOf];omega
      ·have hle:(m:Int)<=(n:Int):=(by omega);go_wp2;go_ret;exact⟨rfl,Ke⟩
theorem XT(x y:Int)(b o:Nat)(w:World)(h1:w.cell? ⟨b,o,none⟩=some (.int .i64 x))(h2:w.cell? ⟨b,o+1,none⟩=some (.int .i64 y)) :
  Calls Tryz.prog 98 #[.slice (some ⟨b,o,none⟩) 2 2] w (Ax (if x≠0 then x else y) w):=by
 obtain⟨r,hr⟩:=AqG (if x≠0 then x else y);rw [←hr];have HR:=AqH hr;clear hr;go_enter Tryz.func98,Tryz.ntmps98;go_wp2
 go_loopw [8] (fun i wr=>∃j:Nat,i=.int .i64 (j:Nat)/\j<=2/\(1<=j→x=0)/\(2<=j→y=0)/\wr=w) (fun i _=>2-(intOf i).toNat)
 case atStart=>exact⟨0,rfl,by omega,by omega,by omega,rfl⟩
 case round=>
  obtain⟨j,rfl,hj,hx,hy,rfl⟩:=hrel;by_cases j0:j=0
  ·subst j0;by_cases hx0:x=0
   ·have t:(x != 0)=false:=(by rw [hx0];rfl);have HX:=AqH hx0;clear hx hy hx0;go_wp2;go_roundw
    case rel=>exact⟨1,rfl,by omega,fun _=>HX.out,by omega,by trivial⟩
    case measure=>simp [intOf]
   ·have t:(x != 0)=true:=(by rw [bne_iff_ne];exact hx0);have L8:r=x:=(by rw [HR.out,if_pos hx0]);subst L8;clear hx hy hx0;go_wp2;go_ret;exact⟨rfl,Aa.refl _⟩
  ·by_cases j1:j=1
   ·subst j1;have hx0:x=0:=hx (by omega);have hry:r=y:=(by rw [HR.out,if_neg (by omega)]);subst hry;have HX:=AqH hx0;by_cases Bj:r=0
    ·have t:(r != 0)=false:=(by rw [Bj];rfl);have HY:=AqH Bj;clear hx hy hx0 Bj j0;go_wp2;go_roundw
     case rel=>exact⟨2,rfl,by omega,fun _=>HX.out,fun _=>HY.out,by trivial⟩
     case measure=>simp [intOf]
    ·have t:(r != 0)=true:=(by rw [bne_iff_ne];exact Bj);clear hx hy hx0 Bj j0;go_wp2;go_ret;exact⟨rfl,Aa.refl _⟩
   ·have j2:j=2:=(by omega);subst j2;have hx0:x=0:=hx (by omega);have Bj:y=0:=hy (by omega);have hr0:r=0:=(by rw [HR.out,if_neg (by omega),Bj]);subst hr0;clear hx hy hx0 Bj j0 j1;go_wp2;go_ret;exact⟨rfl,Aa.refl _⟩
end Go.Proofs.YtjalkoacphhgdaaGreatDoor
