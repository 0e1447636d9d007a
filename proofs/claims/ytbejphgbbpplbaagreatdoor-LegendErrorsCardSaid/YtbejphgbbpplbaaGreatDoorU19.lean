/- U19: ShS6 ShS7 ShM1 ShM2 ShM3 ShM4 ShM5 ShM6 ShM7 ShM8 ShM9 ShM10. -/
import Derived.Maps.RangeWalk
import Derived.Maps.AppendAt
import Derived.Test.YtbejphgbbpplbaaGreatDoorU18
set_option maxRecDepth 100000
set_option maxHeartbeats 16000000
namespace Go.Proofs.YtbejphgbbpplbaaGreatDoor
open Go.RowKit Kl
def Ads(l:List AD)(e0:AD)(w:World)(e:Ending)(w':World):Prop:=∃k:Int,e=.returned (.int .i64 k)/\(0<=k↔∃p∈l,FT p e0=true)/\Aa w w'
theorem AjC(l:List AD)(e:AD)(bb:Nat)(t:TypeId)(A:Option Addr)(c:Nat)(w:World)(hr:Ae w A (B6 l))(hc:l.length<=c)(hcm:c<=9223372036854775807)
  (hb:w.heap[bb]?=some (.cells #[.int .i64 e.f,.int .i64 e.t,.int .i64 e.l,.int .i64 e.r] t)) :
  Calls Tryz.prog 228 #[.slice A l.length c,.func (.func 150) #[] #[.pointer (some ⟨bb,0,none⟩)]] w (Ads l e w):=by
 go_enter Tryz.func228,Tryz.ntmps228;go_wp2
 go_loopw [8] (fun i wr=>∃j:Nat,i=.int .i64 (j:Nat)/\j<=l.length/\(∀p∈l.take j,FT p e=false)/\Aa w wr) (fun i _=>l.length-(intOf i).toNat)
 case atStart=>exact⟨0,rfl,by omega,by simp,Aa.refl _⟩
 case round=>
  obtain⟨j,rfl,hj,Ah,Ad⟩:=hrel;have HO:=ArW Ah;clear Ah;by_cases hlt:j<l.length
  ·obtain⟨b,o,rfl,hg1,hg2,hg3,hg4⟩:=UI (hr.ext Ad) hlt;obtain⟨p,hp⟩:=ArV (l[j]);rw [←hp]at hg1 hg2 hg3 hg4;have hmem:p∈l:=(by rw [hp];exact Asa hlt);have HX:=ArW hp;clear hp;have hj0:(0:Int)<=(j:Int):=(by omega);have A7:(j:Int)<(l.length:Int):=(by omega);have bf:=AfC p e bb t wr ((Ad.block _ (ArX hb)).trans hb);unfold cG at bf
   cases hL:FT p e
   ·rw [hL]at bf;have EP:=ArW hL;clear hL;(go_wp2_with fail);(with_reducible refine bf.mono ?_);rintro e w2 ⟨rfl,hx2⟩;go_wp2;go_roundw
    case rel=>
     refine⟨j+1,by go_num,hlt,?_,Ad.trans hx2⟩;intro q hq;rw [Asd hlt,←HX.out]at hq
     rcases List.mem_append.1 hq with h|h
     ·exact HO.out q h
     ·simp only [Asn]at h;rw [h];exact EP.out
    case measure=>simp [intOf];omega
   ·rw [hL]at bf;have EP:=ArW hL;clear hL;(go_wp2_with fail);(with_reducible refine bf.mono ?_);rintro e w2 ⟨rfl,hx2⟩;go_wp2;go_ret;exact⟨j,rfl,⟨fun _=>⟨_,hmem,EP.out⟩,fun _=>by omega⟩,Ad.trans hx2⟩
  ·have hle:(l.length:Int)<=(j:Int):=(by omega);go_wp2;go_ret;refine⟨-1,rfl,⟨fun h=>by omega,?_⟩,Ad⟩;rintro⟨p,hp,h⟩;have:=HO.out p (by rw [Asi (by omega)];exact hp);rw [this]at h;cases h
theorem Afm(l:List AD)(e:AD)(bb:Nat)(t:TypeId)(A:Option Addr)(c:Nat)(w:World)(hr:Ae w A (B6 l))(hc:l.length<=c)(hcm:c<=9223372036854775807)
  (hb:w.heap[bb]?=some (.cells #[.int .i64 e.f,.int .i64 e.t,.int .i64 e.l,.int .i64 e.r] t)) :
  Calls Tryz.prog 149 #[.slice A l.length c,.func (.func 150) #[] #[.pointer (some ⟨bb,0,none⟩)]] w (Bw (l.any (FT · e)) w):=by
 have ix:=AjC l e bb t A c w hr hc hcm hb;obtain⟨r,hr0⟩:=ArV (l.any (FT · e));rw [←hr0];have HR:=ArW hr0;clear hr hb hr0;go_enter Tryz.func149,Tryz.ntmps149;(go_wp2_with fail);(with_reducible refine ix.mono ?_);rintro e w2 ⟨k,rfl,hk,hx⟩;have HK:=ArW hk;clear hk;go_wp2;go_ret;refine⟨?_,hx⟩
 have e:decide (0<=k)=r:=by
  rw [HR.out]
  cases h:l.any (FT · _)
  ·rw [decide_eq_false_iff_not,HK.out];rintro⟨p,hp,h2⟩;rw [List.any_eq_false]at h;exact h p hp h2
  ·rw [decide_eq_true_eq,HK.out];rw [List.any_eq_true]at h;exact h
 rw [←e];rfl
def Kd(np nf:Nat)(pre:List AD)(e:AD):Int:=
 if min e.f e.t<0 then 3 else if (np:Int)<=max e.f e.t then 3 else if e.f=e.t then 17 else if pre.any (FT · e)then 9
 else if EL nf e.l=false then 3 else if EL nf e.r=false then 3 else if e.l=e.r then 7 else 0
structure Bz where
 pts:List Pt
 eds:List AD
 nf:Nat
def Bv(A B F:Option Addr)(m:Bz)(c d g:Nat):Value:=.agg #[.slice A m.pts.length c,.slice B m.eds.length d,.slice F m.nf g]
structure JJ(m:Bz)(c d g:Nat):Prop where
 c1:m.pts.length<=c
 c2:c<=9223372036854775807
 d1:m.eds.length<=d
 d2:d<=9223372036854775807
 g1:m.nf<=g
 g2:g<=9223372036854775807
theorem AfF(l:List AD)(i:Nat):B6 (l.take i)=(B6 l).take (i*4):=by
 induction l generalizing i with
 | nil=>simp [B6]
 | cons e l ih=>
  cases i with
  | zero=>simp [B6]
  | succ i=>have e0:∀l,B6 (e::l)=.int .i64 e.f :: .int .i64 e.t :: .int .i64 e.l :: .int .i64 e.r::B6 l:=fun _=>rfl;rw [List.take_succ_cons,e0,e0,ih];have e1:(i+1)*4=i*4+1+1+1+1:=(by omega);rw [e1];simp
theorem Ae.take{w:World}{A:Option Addr}{cs:List Value}(h:Ae w A cs)(n:Nat):Ae w A (cs.take n):=
 ⟨fun h0=>by
  obtain⟨b,o,e,hc⟩:=h.ad (by rw [List.length_take]at h0;omega);refine⟨b,o,e,fun j hj=>?_⟩;rw [List.length_take]at hj
  rw [hc j (by omega),List.getElem_take]⟩
theorem Ae5(m:Bz)(A B F:Option Addr)(c d g:Nat)(DI:JJ m c d g)(i:Nat)(hi:i<m.eds.length)(w:World)(hB:Ae w B (B6 m.eds)) :
  Calls Tryz.prog 79 #[Bv A B F m c d g,.int .i64 (i:Nat)] w (Av (Kd m.pts.length m.nf (m.eds.take i) m.eds[i]) w):=by
 have Aar:=@An5 Tryz.prog;have ArH:=@An3 Tryz.prog;obtain⟨c1,c2,d1,d2,g1,g2⟩:=DI;obtain⟨e,he⟩:=ArV (m.eds[i]);obtain⟨b,o,rfl,hg1,hg2,hg3,hg4⟩:=UI hB hi;rw [←he]at hg1 hg2 hg3 hg4 ⊢;obtain⟨r,hr⟩:=ArV (Kd m.pts.length m.nf (m.eds.take i) e);rw [←hr]
 have hr':r=if min e.f e.t<0 then 3 else if (m.pts.length:Int)<=max e.f e.t then 3 else if e.f=e.t then 17 else if (m.eds.take i).any (FT · e)then 9
  else if EL m.nf e.l=false then 3 else if EL m.nf e.r=false then 3 else if e.l=e.r then 7 else 0:=hr
 have HR:=ArW hr';have hpl:(m.eds.take i).length=i:=by rw [List.length_take];omega
 have hid:∀bb t w',Aa w w'→w'.heap[bb]?=some (.cells #[.int .i64 e.f,.int .i64 e.t,.int .i64 e.l,.int .i64 e.r] t)→Calls Tryz.prog 149 #[.slice (some ⟨b,o,none⟩) i d,.func (.func 150) #[] #[.pointer (some ⟨bb,0,none⟩)]] w' (Bw ((m.eds.take i).any (FT · e)) w'):=by intro bb t w' hx h;have:=Afm (m.eds.take i) e bb t (some ⟨b,o,none⟩) d w' (by rw [AfF];exact(hB.ext hx).take _) (by omega) d2 h;rw [hpl]at this;exact this
 generalize (m.eds.take i).any (FT · e)=du at *;obtain⟨np,Ug⟩:=ArV m.pts.length;obtain⟨ne,hne⟩:=ArV m.eds.length;obtain⟨nf,Kv⟩:=ArV m.nf;rw [←Ug]at c1 HR;rw [←hne]at d1 hi;rw [←Kv]at g1 HR;unfold Bv;rw [←Ug,←hne,←Kv];have GR:(0:Int)<=(i:Int):=(by omega);have TR:(i:Int)<(ne:Int):=(by omega);have hix:(i:Int)<=(d:Int):=(by omega);have hM:=ArY w (.cells #[.slice A np c,.slice (some ⟨b,o,none⟩) ne d,.slice F nf g] 36);have hx0:=(Aa.refl w).alloc (.cells #[.slice A np c,.slice (some ⟨b,o,none⟩) ne d,.slice F nf g] 36);have j1:=hx0.cellS hg1;have j2:=hx0.cellS hg2;have j3:=hx0.cellS hg3;have j4:=hx0.cellS hg4;have hx1:=hx0.alloc (.cells #[.int .i64 e.f,.int .i64 e.t,.int .i64 e.l,.int .i64 e.r] 126);have hD:=ArY (w.alloc (.cells #[.slice A np c,.slice (some ⟨b,o,none⟩) ne d,.slice F nf g] 36)) (.cells #[.int .i64 e.f,.int .i64 e.t,.int .i64 e.l,.int .i64 e.r] 126);have GI:=(((Aa.refl _).alloc (.cells #[.int .i64 e.f,.int .i64 e.t,.int .i64 e.l,.int .i64 e.r] 126)).block _ (ArX hM)).trans hM;rw [Ash]at hD;clear he hr hr' hpl Ug hne Kv hB hg1 hg2 hg3 hg4 hM hi;go_enter Tryz.func79,Tryz.ntmps79
 go_upto_region 2 with fail
 clear j1 j2 j3 j4;generalize (w.alloc (.cells #[.slice A np c,.slice (some ⟨b,o,none⟩) ne d,.slice F nf g] 36)).alloc (.cells #[.int .i64 e.f,.int .i64 e.t,.int .i64 e.l,.int .i64 e.r] 126)=V at *;obtain⟨bm,CN⟩:=ArV w.heap.size;rw [←CN]at GI hD ⊢;clear CN hx0;have m1:=Ab (o:=0) GI rfl;have m2:=Ab (o:=1) GI rfl;have m3:=Ab (o:=2) GI rfl;have e1:=Ab (o:=0) hD rfl;have e2:=Ab (o:=1) hD rfl;have e3:=Ab (o:=2) hD rfl;have e4:=Ab (o:=3) hD rfl;generalize hmn:min e.f e.t=mn at *;generalize hmx:max e.f e.t=mx at *;by_cases n1:mn<0
 ·have dd:decide (mn<0)=true:=decide_eq_true n1;have HH:=ArW (show r=3 by rw [HR.out,if_pos n1]);clear HR hid;go_wp2;go_ret;exact⟨by rw [HH.out];rfl,hx1⟩
 have vK:decide (mn<0)=false:=decide_eq_false n1;by_cases n2:(np:Int)<=mx
 ·have dd:decide ((np:Int)<=mx)=true:=decide_eq_true n2;have HH:=ArW (show r=3 by rw [HR.out,if_neg n1,if_pos n2]);clear HR hid n1;go_wp2;go_ret;exact⟨by rw [HH.out];rfl,hx1⟩
 have bL:decide ((np:Int)<=mx)=false:=decide_eq_false n2;by_cases n3:e.f=e.t
 ·have dd:(e.f == e.t)=true:=(by rw [beq_iff_eq];exact n3);have HH:=ArW (show r=17 by rw [HR.out,if_neg n1,if_neg n2,if_pos n3]);clear HR hid n1 n2 n3;go_wp2;go_ret;exact⟨by rw [HH.out];rfl,hx1⟩
 have vM:(e.f == e.t)=false:=(by rw [beq_eq_false_iff_ne];exact n3);have Iq:=ArW (show r=if du=true then 9 else if EL nf e.l=false then 3 else if EL nf e.r=false then 3 else if e.l=e.r then 7 else 0 by rw [HR.out,if_neg n1,if_neg n2,if_neg n3]);have ci:=hid (bm+1) _ V hx1 hD;clear HR n1 n2 n3 hid
 cases Kq:du
 rotate_left
 ·have HH:=ArW (show r=9 by rw [Iq.out,Kq];rfl);rw [Kq]at ci;clear Iq Kq;(go_wp2_with fail);(with_reducible refine ci.mono ?_);rintro e w2 ⟨rfl,hx2⟩;go_wp2;go_ret;exact⟨by rw [HH.out];rfl,hx1.trans hx2⟩
 have KU:=ArW (show r=if EL nf e.l=false then 3 else if EL nf e.r=false then 3 else if e.l=e.r then 7 else 0 by rw [Iq.out,Kq];rfl);rw [Kq]at ci;clear Iq Kq;(go_wp2_with fail);(with_reducible refine ci.mono ?_);rintro _ w2 ⟨rfl,hx2⟩;have I8:=(hx2.block _ (ArX GI)).trans GI;have O4:=(hx2.block _ (ArX hD)).trans hD;have s1:=AaL e.l bm nf g F _ _ _ w2 I8;replace hx2:=hx1.trans hx2;clear m1 m2 m3 e1 e2 e3 e4 GI hD hx1 ci;have e1:=Ab (o:=0) O4 rfl;have e2:=Ab (o:=1) O4 rfl;have e3:=Ab (o:=2) O4 rfl;have e4:=Ab (o:=3) O4 rfl
 cases h5:EL nf e.l
 ·have HH:=ArW (show r=3 by rw [KU.out,h5];rfl);rw [h5]at s1;clear KU h5;(go_wp2_with fail);(with_reducible refine s1.mono ?_);rintro _ w3 ⟨rfl,hx3⟩;go_wp2;go_ret;exact⟨by rw [HH.out];rfl,hx2.trans hx3⟩
 have Vp:=ArW (show r=if EL nf e.r=false then 3 else if e.l=e.r then 7 else 0 by rw [KU.out,h5];rfl);rw [h5]at s1;clear KU h5;(go_wp2_with fail);(with_reducible refine s1.mono ?_);rintro _ w3 ⟨rfl,hx3⟩;have EY:=(hx3.block _ (ArX I8)).trans I8;have O5:=(hx3.block _ (ArX O4)).trans O4;have s2:=AaL e.r bm nf g F _ _ _ w3 EY;replace hx3:=hx2.trans hx3;clear e1 e2 e3 e4 I8 O4 hx2 s1;have e1:=Ab (o:=0) O5 rfl;have e2:=Ab (o:=1) O5 rfl;have e3:=Ab (o:=2) O5 rfl;have e4:=Ab (o:=3) O5 rfl
 cases h6:EL nf e.r
 ·have HH:=ArW (show r=3 by rw [Vp.out,h6];rfl);rw [h6]at s2;clear Vp h6;(go_wp2_with fail);(with_reducible refine s2.mono ?_);rintro _ w4 ⟨rfl,Aj⟩;go_wp2;go_ret;exact⟨by rw [HH.out];rfl,hx3.trans Aj⟩
 have Ir:=ArW (show r=if e.l=e.r then 7 else 0 by rw [Vp.out,h6];rfl);rw [h6]at s2;clear Vp h6;(go_wp2_with fail);(with_reducible refine s2.mono ?_);rintro _ w4 ⟨rfl,Aj⟩;have Wo:=(Aj.block _ (ArX O5)).trans O5;replace Aj:=hx3.trans Aj;clear e1 e2 e3 e4 EY O5 hx3 s2;have e1:=Ab (o:=0) Wo rfl;have e2:=Ab (o:=1) Wo rfl;have e3:=Ab (o:=2) Wo rfl;have e4:=Ab (o:=3) Wo rfl;by_cases n7:e.l=e.r
 ·have dd:(e.l == e.r)=true:=(by rw [beq_iff_eq];exact n7);have HH:=ArW (show r=7 by rw [Ir.out,if_pos n7]);clear Ir n7;go_wp2;go_ret;exact⟨by rw [HH.out];rfl,Aj⟩
 ·have dd:(e.l == e.r)=false:=(by rw [beq_eq_false_iff_ne];exact n7);have HH:=ArW (show r=0 by rw [Ir.out,if_neg n7]);clear Ir n7;go_wp2;go_ret;exact⟨by rw [HH.out];rfl,Aj⟩
def Dg:List Pt→List Pt→Int
 | _,[]=>0
 | pre,p::l=>if pre.any (An p)then 9 else Dg (pre ++ [p]) l
def Du(np nf:Nat):List AD→List AD→Int
 | _,[]=>0
 | pre,e::l=>if Kd np nf pre e≠0 then Kd np nf pre e else Du np nf (pre ++ [e]) l
def FA(l:List Pt)(z:Int):Pt:=l.getD z.toNat ⟨0,0⟩
def Qc(l:List Pt)(e f:AD):Bool:=NR (FA l e.f) (FA l e.t) (FA l f.f) (FA l f.t)
def El(pts:List Pt):List AD→List AD→Int
 | _,[]=>0
 | pre,e::l=>if pre.any (Qc pts e)then 26 else El pts (pre ++ [e]) l
def MM(m:Bz):Bool:=decide (400<m.pts.length)||(decide (1200<m.eds.length)||decide (800<m.nf))
theorem AeB{l:List Pt}{j:Nat}(h:j<l.length):Dg (l.take j) (l.drop j)=if (l.take j).any (An l[j])then 9 else Dg (l.take (j+1)) (l.drop (j+1)):=by
 rw [List.drop_eq_getElem_cons h,Asd h];rfl
theorem AeD{np nf:Nat}{l:List AD}{j:Nat}(h:j<l.length):Du np nf (l.take j) (l.drop j)=if Kd np nf (l.take j) l[j]≠0 then Kd np nf (l.take j) l[j] else Du np nf (l.take (j+1)) (l.drop (j+1)):=by
 rw [List.drop_eq_getElem_cons h,Asd h];rfl
theorem AeF{pts:List Pt}{l:List AD}{j:Nat}(h:j<l.length):El pts (l.take j) (l.drop j)=if (l.take j).any (Qc pts l[j])then 26 else El pts (l.take (j+1)) (l.drop (j+1)):=by
 rw [List.drop_eq_getElem_cons h,Asd h];rfl
theorem VO{np nf:Nat}{pre:List AD}{e:AD}(h:Kd np nf pre e=0):0<=e.f/\0<=e.t/\e.f<(np:Int)/\e.t<(np:Int)/\e.f≠e.t/\pre.any (FT · e)=false/\EL nf e.l=true/\EL nf e.r=true/\e.l≠e.r:=by
 unfold Kd at h
 split at h
 ·cases h
 split at h
 ·cases h
 split at h
 ·cases h
 split at h
 ·cases h
 split at h
 ·cases h
 split at h
 ·cases h
 split at h
 ·cases h
 rename_i h1 h2 h3 h4 h5 h6 h7
 exact⟨by omega,by omega,by omega,by omega,h3,by simpa using h4,by simpa using h5,by simpa using h6,h7⟩
theorem SC{np nf:Nat}{l:List AD} : ∀{pre rest:List AD},Du np nf pre rest=0→∀(i:Nat) (h:i<rest.length),Kd np nf (pre++rest.take i) rest[i]=0
 | pre,[],_,i,h=>by simp at h
 | pre,e::rest,hc,i,h=>by
  unfold Du at hc
  split at hc
  ·rename_i hne
   exact absurd hc hne
  ·rename_i h0
   simp only [ne_eq,Decidable.not_not]at h0
   cases i with
   | zero=>simpa using h0
   | succ i=>
    have:=SC (l:=l) hc i (by simpa using h)
    simpa using this
theorem uH{pts:List Pt} : ∀{pre rest:List AD},El pts pre rest=0→∀(i:Nat) (h:i<rest.length),(pre++rest.take i).any (Qc pts rest[i])=false
 | pre,[],_,i,h=>by simp at h
 | pre,e::rest,hc,i,h=>by
  unfold El at hc
  split at hc
  ·cases hc
  ·rename_i h0
   cases i with
   | zero=>simpa using h0
   | succ i=>
    have:=uH hc i (by simpa using h)
    simpa using this
theorem uG:∀{pre rest:List Pt},Dg pre rest=0→∀(i:Nat) (h:i<rest.length),(pre++rest.take i).any (An rest[i])=false
 | pre,[],_,i,h=>by simp at h
 | pre,e::rest,hc,i,h=>by
  unfold Dg at hc
  split at hc
  ·cases hc
  ·rename_i h0
   cases i with
   | zero=>simpa using h0
   | succ i=>
    have:=uG hc i (by simpa using h)
    simpa using this
def AO(s t:Sg):Bool:=An s.a t.a&&An s.b t.b
theorem IS{s t:Sg} : AO s t=true↔s=t:=by
 unfold AO;rw [Bool.and_eq_true,BY,BY];constructor
 ·rintro⟨h1,h2⟩
  cases s;cases t;simp_all
 ·rintro rfl;exact⟨rfl,rfl⟩
theorem wO(p q:Pt)(W:World):(Op.equal 94 (Af p) (Af q)).run Tryz.prog W=.ok (An p q) W:=by
 unfold An Af;rw [←JZ,←JZ]
 cases b1:(R p.x == R q.x)<;>cases b2:(R p.y == R q.y)<;>simp [go_sem,Op.equal,Op.maxDepth,b1,b2]
theorem wP(s t:Sg)(W:World):(Op.equal 155 (AA s) (AA t)).run Tryz.prog W=.ok (AO s t) W:=by
 unfold AO An AA;rw [←JZ,←JZ,←JZ,←JZ]
 cases b1:(R s.a.x == R t.a.x)<;>cases b2:(R s.a.y == R t.a.y)<;>cases b3:(R s.b.x == R t.b.x)<;>cases b4:(R s.b.y == R t.b.y)<;>simp [go_sem,Op.equal,Op.maxDepth,b1,b2,b3,b4]
theorem uC(b:Bool)(p:Pt)(W:World):(Instr.checkKey b 10000 94 (Af p)).run Tryz.prog W=.ok () W:=by
 unfold Af
 kernel_rfl
theorem uD(b:Bool)(s:Sg)(W:World):(Instr.checkKey b 10000 155 (AA s)).run Tryz.prog W=.ok () W:=by
 unfold AA
 kernel_rfl
/-! ### Entries -/
section
variable {α : Type} (enc : α → Value) (same : α → α → Bool)
def AG(l:List (α×Value×Nat)):List MapEntry:=l.map (fun e=>⟨enc e.1,e.2.1,e.2.2⟩)
theorem wZ{kt:TypeId}(heq:∀x y W,(Op.equal kt (enc x) (enc y)).run Tryz.prog W=.ok (same x y) W)(k:α)(W:World):∀(l:List (α×Value×Nat)) (i:Nat),
  (Instr.findAsking kt (enc k) (AG enc l) i).run Tryz.prog W=.ok ((l.findIdx? (fun e=>same k e.1)).bind (fun j=>(l[j]?).map (fun e=>(i+j,e.2.1)))) W
 | [],i=>by simp [AG,Instr.findAsking]
 | e::l,i=>by
  have ih:=wZ heq k W l (i+1);have e0:AG enc (e::l)=⟨enc e.1,e.2.1,e.2.2⟩::AG enc l:=rfl;rw [e0];unfold Instr.findAsking;simp only [Sem.run_bind,heq,Result.andThen_ok];rw [List.findIdx?_cons]
  cases h:same k e.1
  ·simp only [Bool.false_eq_true,if_false,ih]
   congr 1
   cases h2:l.findIdx? (fun e=>same k e.1)with
   | none=>simp
   | some j=>
    simp only [Option.map_some,Option.bind_some,List.getElem?_cons_succ]
    congr 1
    funext x
    rw [show i+1+j=i+(j+1)by omega]
  ·simp
end
section
variable {α : Type} {enc : α → Value} {same : α → α → Bool}
structure JW(mt kt et:TypeId)(z:Value)(enc:α→Value)(same:α→α→Bool):Prop where
 map:Tryz.prog.underlying mt=some (.map kt et)
 st:∃fs,Tryz.prog.underlying kt=some (.struct fs)
 zero:∀W,(zeroValue et).run Tryz.prog W=.ok z W
 eq:∀x y W,(Op.equal kt (enc x) (enc y)).run Tryz.prog W=.ok (same x y) W
 chk:∀b x W,(Instr.checkKey b 10000 kt (enc x)).run Tryz.prog W=.ok () W
 iff:∀{x y},same x y=true↔x=y
 bits:∀x,Instr.sameBits 10000 (enc x) (enc x)=true
def F3(same:α→α→Bool)(k:α)(l:List (α×Value×Nat)):Option Nat:=l.findIdx? (fun e=>same k e.1)
theorem Te{mt kt et:TypeId}{z:Value}(K:JW mt kt et z enc same)(k:α)(l:List (α×Value×Nat))(W:World) :
  (Instr.findKey kt (enc k) (AG enc l)).run Tryz.prog W=.ok ((F3 same k l).bind (fun j=>(l[j]?).map (fun e=>(j,e.2.1)))) W:=by
 obtain⟨fs,hfs⟩:=K.st;unfold Instr.findKey;simp only [Sem.run_bind,run_underlying hfs,Result.andThen_ok]
 cases l with
 | nil=>simp [AG,Instr.findNow,F3]
 | cons e l=>
  have e0:AG enc (e::l)=⟨enc e.1,e.2.1,e.2.2⟩::AG enc l:=rfl
  have h1:Instr.findNow (.struct fs) (enc k) (AG enc (e::l)) 0=none:=by rw [e0];unfold Instr.findNow;have:Instr.sameNow (.struct fs) (enc k) (enc e.1)=none:=(by unfold Instr.sameNow;rfl);rw [this]
  rw [h1];have h2:=wZ enc same K.eq k W (e::l) 0;simp only [Nat.zero_add]at h2;exact h2
def F5(same:α→α→Bool)(z:Value)(k:α)(l:List (α×Value×Nat)):Value:=match l.find? (fun e=>same k e.1)with|some e=>e.2.1|none=>z
theorem qo{k:α}{l:List (α×Value×Nat)} : (F3 same k l).bind (fun j=>(l[j]?).map (fun e=>(j,e.2.1)))=(F3 same k l).bind (fun j=>(l.find? (fun e=>same k e.1)).map (fun e=>(j,e.2.1))):=by
 unfold F3
 cases h:l.findIdx? (fun e=>same k e.1)with
 | none=>rfl
 | some j=>
  simp only [Option.bind_some];rw [List.findIdx?_eq_some_iff_getElem]at h;obtain⟨hj,h1,h2⟩:=h
  have h3:l.find? (fun e=>same k e.1)=some l[j]:=by rw [List.find?_eq_some_iff_getElem];exact⟨h1,j,hj,rfl,fun i hi=>by have:=h2 i hi;simpa using this⟩
  rw [h3,Asf hj]
theorem R9{mt kt et:TypeId}{z:Value}(K:JW mt kt et z enc same)(k:α)(l:List (α×Value×Nat)){b clock:Nat}{W:World}(hb:W.heap[b]?=some (.map (AG enc l).toArray clock)) :
  (Instr.lookup mt (.map (some b)) (enc k) false).run Tryz.prog W=.ok (F5 same z k l) W:=by
 have hf:=Te K k l W;rw [qo]at hf;unfold F5
 cases h:l.find? (fun e=>same k e.1)with
 | none=>
  rw [h]at hf
  have hf':(Instr.findKey kt (enc k) (AG enc l)).run Tryz.prog W=.ok none W:=by rw [hf];cases F3 same k l<;>rfl
  simp [Instr.lookup,run_underlying K.map,MapKept.run_getObj_map hb,K.chk,hf',K.zero,Result.andThen]
 | some e=>
  have hi:(F3 same k l).isSome:=by unfold F3;rw [List.findIdx?_isSome,List.any_eq_true];exact⟨e,List.mem_of_find?_eq_some h,(by have:=List.find?_some h;exact this)⟩
  obtain⟨j,hj⟩:=Option.isSome_iff_exists.1 hi;rw [h,hj]at hf;simp only [Option.bind_some,Option.map_some]at hf;simp [Instr.lookup,run_underlying K.map,MapKept.run_getObj_map hb,K.chk,hf,Result.andThen]
end
theorem Rh:JW 132 94 33 (.slice none 0 0) Af An where
 map:=Tryz.underlying132
 st:=⟨_,Tryz.underlying94⟩
 zero:=fun W=>by simp [go_sem]
 eq:=wO
 chk:=uC
 iff:=BY
 bits:=fun x=>by unfold Af;simp [Instr.sameBits,beq_toListBytes]
theorem XX:JW 131 155 3 (.int .i64 0) AA AO where
 map:=Tryz.underlying131
 st:=⟨_,Tryz.underlying155⟩
 zero:=fun W=>by simp [go_sem]
 eq:=wP
 chk:=uD
 iff:=IS
 bits:=fun x=>by unfold AA;simp [Instr.sameBits,beq_toListBytes]
section
open Go.ChangeMaps (setBlock)
theorem Mm{w:World}{b:Nat}{o o':Obj}(h:w.heap[b]?=some o'):(setBlock w b o).heap[b]?=some o:=by
 have hlt:=(Array.getElem?_eq_some_iff.1 h).1;show (w.heap.setIfInBounds b o)[b]?=some o;rw [Array.getElem?_setIfInBounds_self];simp [hlt]
theorem UN{w:World}{b k:Nat}{o:Obj}(h:k≠b):(setBlock w b o).heap[k]?=w.heap[k]?:=by
 show (w.heap.setIfInBounds b o)[k]?=w.heap[k]?;rw [Array.getElem?_setIfInBounds_ne (by omega)]
theorem nT{w:World}{b:Nat}{o:Obj}(h:w.heap[b]?=some o):setBlock w b o=w:=by
 have hlt:=(Array.getElem?_eq_some_iff.1 h).1
 have e:w.heap.setIfInBounds b o=w.heap:=by
  apply Array.ext_getElem?;intro i;by_cases hi:i=b
  ·subst hi;rw [Array.getElem?_setIfInBounds_self];simp [hlt]at *;exact h.symm
  ·rw [Array.getElem?_setIfInBounds_ne (by omega)]
 unfold setBlock;rw [e]
section
variable {α : Type} {enc : α → Value} {same : α → α → Bool}
theorem nI{mt kt et:TypeId}{z:Value}(K:JW mt kt et z enc same)(k:α)(l:List (α×Value×Nat))(hno:∀e∈l,same k e.1=false){b clock:Nat}{W:World}(hb:W.heap[b]?=some (.map (AG enc l).toArray clock)) :
  (Instr.mapEntry mt (.map (some b)) (enc k)).run Tryz.prog W=.ok (.tuple #[z,.int .i64 (clock:Nat)]) (setBlock W b (.map (AG enc (l ++ [(k,z,clock)])).toArray (clock+1))):=by
 have hf:=Te K k l W
 have hi:F3 same k l=none:=by unfold F3;rw [List.findIdx?_eq_none_iff];exact hno
 rw [hi]at hf;simp only [Option.bind_none]at hf
 have e0:AG enc l ++ [{key:=enc k,val:=z,born:=clock}]=AG enc (l ++ [(k,z,clock)]):=by simp [AG]
 simp [Instr.mapEntry,run_underlying K.map,MapKept.run_getObj_map hb,K.chk,hf,K.zero,MapKept.run_setObj_map _ hb,Result.andThen,setBlock,e0,goInt]
theorem An2{mt kt et:TypeId}{z:Value}(K:JW mt kt et z enc same)(k:α)(l:List (α×Value×Nat)){j:Nat}(hj:j<l.length)(hno:∀e∈l.take j,same k e.1=false)(hk:l[j].1=k){b clock:Nat}{W:World}(hb:W.heap[b]?=some (.map (AG enc l).toArray clock)) :
  (Instr.mapEntry mt (.map (some b)) (enc k)).run Tryz.prog W=.ok (.tuple #[l[j].2.1,.int .i64 (l[j].2.2:Nat)]) W:=by
 have hf:=Te K k l W
 have hi:F3 same k l=some j:=by unfold F3;rw [List.findIdx?_eq_some_iff_getElem];refine⟨hj,by rw [hk];exact K.iff.2 rfl,fun i Bn=>?_⟩;rw [Bool.not_eq_true];refine hno l[i] ?_;rw [List.mem_take_iff_getElem];exact⟨i,by omega,rfl⟩
 rw [hi]at hf;simp only [Option.bind_some,Asf hj,Option.map_some]at hf
 have EC:(AG enc l)[j]?=some ⟨enc k,l[j].2.1,l[j].2.2⟩:=by simp [AG,Asf hj,hk]
 have hst:(Instr.keyThatStays (enc k) (enc k)).run Tryz.prog W=.ok (enc k) W:=by simp [Instr.keyThatStays,K.bits]
 have hmod:(AG enc l).modify j (fun e=>{e with key:=enc k})=AG enc l:=by
  apply List.ext_getElem?;intro i;rw [List.getElem?_modify];by_cases Bn:j=i
  ·subst Bn;rw [EC];simp
  ·simp [Bn]
 have Ay:(setBlock W b (.map (AG enc l).toArray clock))=W:=nT hb;unfold setBlock at Ay;simp [Instr.mapEntry,run_underlying K.map,MapKept.run_getObj_map hb,K.chk,hf,EC,hst,MapKept.run_setObj_map _ hb,Result.andThen,goInt];rw [hmod];exact Ay
theorem Aa0(mt:TypeId)(l:List (α×Value×Nat)){j:Nat}(hj:j<l.length)(hno:∀e∈l.take j,e.2.2≠l[j].2.2)(v:Value){b clock:Nat}{W:World}(hb:W.heap[b]?=some (.map (AG enc l).toArray clock)) :
  (Instr.entryStore mt (.map (some b)) (.int .i64 (l[j].2.2:Nat)) v).run Tryz.prog W=.ok () (setBlock W b (.map (AG enc (l.set j (l[j].1,v,l[j].2.2))).toArray clock)):=by
 have hf:(AG enc l).findIdx? (fun e=>(e.born:Int) == (l[j].2.2:Int))=some j:=by rw [List.findIdx?_eq_some_iff_getElem];refine⟨by simp [AG];exact hj,by simp [AG],fun i Bn=>?_⟩;have:=hno l[i] (by rw [List.mem_take_iff_getElem];exact⟨i,by omega,rfl⟩);simp [AG];omega
 have e0:(AG enc l).modify j (fun e=>{e with val:=v})=AG enc (l.set j (l[j].1,v,l[j].2.2)):=by
  apply List.ext_getElem?;intro i;rw [List.getElem?_modify];by_cases Bn:j=i
  ·subst Bn;simp [AG,hj]
  ·simp [Bn,AG,List.getElem?_set_ne Bn]
 simp [Instr.entryStore,MapKept.run_getObj_map hb,asInt,asIntOf,hf,MapKept.run_setObj_map _ hb,Result.andThen,setBlock,e0]
end
end
section
open Go.ChangeMaps (setBlock)
def AY(s:Sg):Sg:=⟨s.b,s.a⟩
theorem VI(s:Sg)(w:World):Calls Tryz.prog 104 #[AA s] w (Cy (AA (AY s)) w):=by
 have hE:=((Aa.refl w).alloc (.cells #[S (R s.a.x),S (R s.a.y),S (R s.b.x),S (R s.b.y)] 155)).alloc (.cells #[S [],S [],S [],S []] 155);have hb1:=(Below.heap_alloc (w.alloc (.cells #[S (R s.a.x),S (R s.a.y),S (R s.b.x),S (R s.b.y)] 155)) (.cells #[S [],S [],S [],S []] 155) w.heap.size (by simp)).trans (ArY w (.cells #[S (R s.a.x),S (R s.a.y),S (R s.b.x),S (R s.b.y)] 155));have hb2:=ArY (w.alloc (.cells #[S (R s.a.x),S (R s.a.y),S (R s.b.x),S (R s.b.y)] 155)) (.cells #[S [],S [],S [],S []] 155);rw [Ash]at hb2;unfold AY AA;go_enter Tryz.func104,Tryz.ntmps104
 go_upto_region 1 with fail
 rw [show (⟨#[]⟩:ByteArray)=⟨([]:Bs).toArray⟩from rfl];generalize (w.alloc (.cells #[S (R s.a.x),S (R s.a.y),S (R s.b.x),S (R s.b.y)] 155)).alloc (.cells #[S [],S [],S [],S []] 155)=V at *;obtain⟨bb,Bq⟩:=ArV w.heap.size;have hle:w.heap.size<=bb+1:=(by omega);rw [←Bq]at hb1 hb2 ⊢;clear Bq;have k1:=Ab (o:=0) hb1 rfl;have k2:=Ab (o:=1) hb1 rfl;have k3:=Ab (o:=2) hb1 rfl;have k4:=Ab (o:=3) hb1 rfl;have y0:=AB (o:=0) hb2;have y1:=AB (o:=1) hb2;have y2:=AB (o:=2) hb2;have y3:=AB (o:=3) hb2;have z0:=Ab (o:=0) hb2 rfl;have z1:=Ab (o:=1) hb2 rfl;have z2:=Ab (o:=2) hb2 rfl;have z3:=Ab (o:=3) hb2 rfl;have hq:=PY (S (R s.b.x)) (S (R s.b.y)) (S (R s.a.x)) (S (R s.a.y)) hb2;have q0:=Ab (o:=0) hq rfl;have q1:=Ab (o:=1) hq rfl;have q2:=Ab (o:=2) hq rfl;have q3:=Ab (o:=3) hq rfl;clear hq hb1 hb2;go_wp2;refine bodyPost_ret (v:=.agg #[S (R s.b.x),S (R s.b.y),S (R s.a.x),S (R s.a.y)]) (by simp [results,Tryz.results104,go_sem,q0,q1,q2,q3]) rfl ?_;exact⟨rfl,(((hE.setCell (p:=⟨bb+1,0,none⟩) hle _).setCell (p:=⟨bb+1,1,none⟩) hle _).setCell (p:=⟨bb+1,2,none⟩) hle _).setCell (p:=⟨bb+1,3,none⟩) hle _⟩
def Oy(w:World):World:=((w.alloc (.map #[] 0)).alloc (.map #[] 0)).alloc (.cells #[.map (some w.heap.size),.map (some (w.heap.size+1))] 134)
theorem wE(w:World):Calls Tryz.prog 106 #[] w (fun e w'=>e=.returned (.pointer (some ⟨w.heap.size+1+1,0,none⟩))/\w'=Oy w):=by
 have hmm:=@run_makeMap Tryz.prog;go_enter Tryz.func106,Tryz.ntmps106;go_wp2;go_ret;exact⟨rfl,rfl⟩
end
section
open Go.ChangeMaps (setBlock)
def Gl(R:List (Pt×List Pt))(p:Pt):Nat:=(R.findIdx? (fun e=>An p e.1)).getD R.length
def GB(R:List (Pt×List Pt))(p:Pt):List (Pt×List Pt):=match R.findIdx? (fun e=>An p e.1)with|some _=>R|none=>R ++ [(p,[])]
def Df(R:List (Pt×List Pt))(p q:Pt):List (Pt×List Pt):=(GB R p).modify (Gl R p) (fun e=>(e.1,e.2 ++ [q]))
structure DW(B:Nat)(W:World)(b2:Nat)(E:List (Pt×Value×Nat))(R:List (Pt×List Pt)):Prop where
 blk:W.heap[b2]?=some (.map (AG Af E).toArray E.length)
 len:E.length=R.length
 row:∀i (h:i<E.length) (h':i<R.length),E[i].1=R[i].1/\E[i].2.2=i/\W.ownsRow B 94 2 E[i].2.1 R[i].2.length (flat (Ak R[i].2))
 apart:∀i j (hi:i<E.length) (hj:j<E.length),i≠j→E[i].2.1.ownBlock=none∨E[i].2.1.ownBlock≠E[j].2.1.ownBlock
 own:B<=b2
theorem DW.lt{B:Nat}{W:World}{b2:Nat}{E:List (Pt×Value×Nat)}{R:List (Pt×List Pt)}(h:DW B W b2 E R):b2<W.heap.size:=(Array.getElem?_eq_some_iff.1 h.blk).1
theorem DW.keep{B:Nat}{W W':World}{b2:Nat}{E:List (Pt×Value×Nat)}{R:List (Pt×List Pt)}(h:DW B W b2 E R)(hg:W.grownBy W' none):DW B W' b2 E R:=
 ⟨(hg.block b2 h.lt (by simp)).trans h.blk,h.len,fun i hi hi'=>⟨(h.row i hi hi').1,(h.row i hi hi').2.1,(h.row i hi hi').2.2.kept hg (by
  rcases hv:E[i].2.1.ownBlock with _|g
  ·exact .inl rfl
  ·exact .inr (by simp))⟩,h.apart,h.own⟩
theorem cX{E:List (Pt×Value×Nat)}{R:List (Pt×List Pt)}(hl:E.length=R.length)(he:∀i (h:i<E.length) (h':i<R.length),E[i].1=R[i].1)(p:Pt):E.findIdx? (fun e=>An p e.1)=R.findIdx? (fun e=>An p e.1):=by
 have h1:E.map (·.1)=R.map (·.1):=by
  apply List.ext_getElem
  ·simp [hl]
  ·intro i h1 h2;simp at h1 h2 ⊢;exact he i h1 h2
 have f:∀{β:Type} (l:List (Pt×β)),l.findIdx? (fun e=>An p e.1)=(l.map (·.1)).findIdx? (An p):=by
  intro β l;rw [List.findIdx?_map]
  rfl
 rw [f E,f R,h1]
theorem Ln{w:World}{b:Nat}{o o':Obj}(_:w.heap[b]?=some o'):w.grownBy (setBlock w b o) (some b):=
 ⟨rfl,rfl,rfl,by simp [setBlock],fun k _ hk=>UN (fun e=>hk (by rw [e]))⟩
theorem DW.entry{B:Nat}{W:World}{b2:Nat}{E:List (Pt×Value×Nat)}{R:List (Pt×List Pt)}(h:DW B W b2 E R)(p:Pt) :
  ∃W1 E1,DW B W1 b2 E1 (GB R p)/\W.grownBy W1 (some b2)/\W1.heap.size=W.heap.size/\∃hj:Gl R p<E1.length,∃hj':Gl R p<(GB R p).length,((GB R p)[Gl R p]).1=p/\
   (∀V,V.heap[b2]?=W.heap[b2]?→(Instr.mapEntry 132 (.map (some b2)) (Af p)).run Tryz.prog V=.ok (.tuple #[E1[Gl R p].2.1,.int .i64 (Gl R p:Nat)]) (setBlock V b2 (.map (AG Af E1).toArray E1.length)))/\W1=setBlock W b2 (.map (AG Af E1).toArray E1.length):=by
 have Dz:=cX h.len (fun i h1 h2=>(h.row i h1 h2).1) p
 cases hf:R.findIdx? (fun e=>An p e.1)with
 | none=>
  have e1:Gl R p=R.length:=(by unfold Gl;rw [hf];rfl);have e2:GB R p=R ++ [(p,[])]:=(by unfold GB;rw [hf]);rw [hf]at Dz;have hno:∀e∈E,An p e.1=false:=(by rw [List.findIdx?_eq_none_iff]at Dz;exact Dz);have hnew:=nI Rh p E hno (W:=W) h.blk;rw [e2];refine⟨_,E ++ [(p,.slice none 0 0,E.length)],⟨?_,?_,?_,?_,h.own⟩,Ln h.blk,?_,?_,?_,?_,?_,rfl⟩
  ·rw [Mm h.blk]
  ·simp [h.len]
  ·intro i hi hi';by_cases hlt:i<E.length
   ·have QL:i<R.length:=(by rw [←h.len];exact hlt);rw [List.getElem_append_left hlt,List.getElem_append_left QL];obtain⟨r1,r2,r3⟩:=h.row i hlt QL;refine⟨r1,r2,r3.kept (Ln h.blk) ?_⟩
    rcases r3.2 with⟨hn,_⟩|⟨g,cap,cur,hv,hb,hg,_⟩
    ·left;rw [hn];rfl
    ·right
     rw [hv];simp only [Value.ownBlock,ne_eq,Ase];intro e;rw [e,h.blk]at hg
     cases hg
   ·have QH:i=E.length:=(by simp at hi;omega);subst QH;rw [List.getElem_append_right (by omega),List.getElem_append_right (by rw [h.len];omega)];simp only [Nat.sub_self,List.getElem_cons_zero,h.len];exact⟨by trivial,by trivial,⟨rfl,.inl ⟨rfl,rfl⟩⟩⟩
  ·intro i j hi hj Bn;by_cases TR:i<E.length
   ·rw [List.getElem_append_left TR];by_cases A7:j<E.length
    ·rw [List.getElem_append_left A7];exact h.apart i j TR A7 Bn
    ·rw [List.getElem_append_right (by omega)];have N1:j=E.length:=(by simp at hj;omega);subst N1;simp only [Nat.sub_self,List.getElem_cons_zero]
     cases E[i].2.1.ownBlock with
     | none=>left;rfl
     | some g=>right;simp [Value.ownBlock]
   ·rw [List.getElem_append_right (by omega)];have QH:i=E.length:=(by simp at hi;omega);subst QH
    left
    simp [Value.ownBlock]
  ·simp [setBlock]
  ·rw [e1,←h.len];simp
  ·rw [e1];simp
  ·simp only [e1];rw [List.getElem_append_right (by omega)];simp
  ·intro V hV;have hnV:=nI Rh p E hno (W:=V) (hV.trans h.blk);rw [hnV];simp only [e1];rw [List.getElem_append_right (by rw [h.len];omega)];simp [h.len]
 | some j=>
  have e1:Gl R p=j:=(by unfold Gl;rw [hf];rfl);have e2:GB R p=R:=(by unfold GB;rw [hf]);rw [hf]at Dz;rw [List.findIdx?_eq_some_iff_getElem]at Dz;obtain⟨hj,h1,h2⟩:=Dz;have hj':j<R.length:=by rw [←h.len];exact hj
  have hno:∀e∈E.take j,An p e.1=false:=by
   intro e he;rw [List.mem_take_iff_getElem]at he;obtain⟨i,hi,rfl⟩:=he;have:=h2 i (by omega)
   simpa using this
  have hk:E[j].1=p:=(BY.1 h1).symm;rw [e2];refine⟨W,E,h,⟨rfl,rfl,rfl,ArZ _,fun _ _ _=>rfl⟩,rfl,by rw [e1];exact hj,by rw [e1];exact hj',?_,?_,(nT h.blk).symm⟩
  ·simp only [e1];rw [←(h.row j hj hj').1];exact hk
  ·intro V hV;have hb:=hV.trans h.blk;have:=An2 Rh p E hj hno hk (W:=V) hb;rw [this,nT hb];simp only [e1,(h.row j hj hj').2.1]
end
section
open Go.ChangeMaps (setBlock)
theorem DW.append{B:Nat}{Y:World}{b2:Nat}{E:List (Pt×Value×Nat)}{R:List (Pt×List Pt)}(h:DW B Y b2 E R)(hB:B<=Y.heap.size){j:Nat}(hj:j<E.length)(hj':j<R.length)(hn:R[j].2.length<200000)
  (q:Pt) {g:Nat} (hg:Y.heap[g]?=some (.cells #[S (Kl.R q.x),S (Kl.R q.y)] 94)) (ty:TypeId) :
  ∃v' Z Z',(Builtin.append_ #[33,33] ty #[E[j].2.1,.slice (some ⟨g,0,none⟩) 1 1]).run Tryz.prog Y=.ok v' Z/\Y.grownBy Z E[j].2.1.ownBlock
   /\(Instr.entryStore 132 (.map (some b2)) (.int .i64 (j:Nat)) v').run Tryz.prog Z=.ok () Z'/\Z.grownBy Z' (some b2)/\DW B Z' b2 (E.set j (E[j].1,v',j)) (R.modify j (fun e=>(e.1,e.2 ++ [q]))):=by
 obtain⟨i0,hi,hz0,hz1,hz2⟩:=info_parts Tryz.infoPt;obtain⟨r1,r2,r3⟩:=h.row j hj hj'
 obtain⟨v',Z,hr,hown,hgr,_,hat⟩:=run_append_own_at (P:=Tryz.prog) Y B 33 ty 94 i0 (.agg #[S [],S []]) 2 32 Tryz.underlying33 hi hz0 hz1 hz2 rfl (by omega) E[j].2.1 R[j].2.length (flat (Ak R[j].2)) r3
  ⟨g,0,none⟩ 1 1 [S (Kl.R q.x),S (Kl.R q.y)] rfl (fun k u hu=>by
   rw [Addr.add_lit,Nat.zero_add];refine Ab hg ?_;rw [←Array.getElem?_toList]
   exact hu) (fun u hu=>by
   simp only [List.mem_cons,Asm,or_false]at hu
   rcases hu with rfl|rfl<;>rfl) (by unfold maxLen;omega) (by omega) hB
 rw [←mV]at hown
 have hb2:Z.heap[b2]?=Y.heap[b2]?:=hgr.block b2 h.lt (by
  rcases r3.2 with⟨hv,_⟩|⟨g0,cap,cur,hv,_,hg0,_⟩
  ·rw [hv];simp [Value.ownBlock]
  ·rw [hv];simp only [Value.ownBlock,ne_eq,Ase];intro e;rw [←e,h.blk]at hg0
   cases hg0)
 have WS:=hb2.trans h.blk
 have hno:∀e∈E.take j,e.2.2≠E[j].2.2:=by intro e he;rw [List.mem_take_iff_getElem]at he;obtain⟨i,hi,rfl⟩:=he;rw [(h.row i (by omega) (by rw [←h.len];omega)).2.1,r2];omega
 have hst:=Aa0 (enc:=Af) 132 E hj hno v' WS;rw [r2]at hst;have iK:=Ln (o:=.map (AG Af (E.set j (E[j].1,v',j))).toArray E.length) WS;refine⟨v',Z,_,hr,hgr,hst,iK,⟨?_,?_,?_,?_,h.own⟩⟩
 ·rw [Mm WS];simp
 ·simp [h.len]
 ·intro i hi hi';have Nz:i<E.length:=(by simpa using hi);have LD:i<R.length:=(by simpa using hi');by_cases Bn:j=i
  ·subst Bn;rw [List.getElem_set_self,List.getElem_modify_eq];refine⟨r1,rfl,?_⟩;have hl:(R[j].2 ++ [q]).length=R[j].2.length+1:=(by simp);simp only [hl];refine hown.kept iK ?_
   rcases hown.2 with⟨hv,_⟩|⟨g0,cap,cur,hv,_,hg0,_⟩
   ·left;rw [hv];rfl
   ·right
    rw [hv];simp only [Value.ownBlock,ne_eq,Ase];intro e;rw [e,WS]at hg0
    cases hg0
  ·rw [List.getElem_set_ne Bn];have hm:(R.modify j (fun e=>(e.1,e.2 ++ [q])))[i]=R[i]:=(by rw [List.getElem_modify,if_neg Bn]);rw [hm];obtain⟨s1,s2,s3⟩:=h.row i Nz LD;refine⟨s1,s2,(s3.kept hgr (h.apart i j Nz hj (fun e=>Bn e.symm))).kept iK ?_⟩
   rcases s3.2 with⟨hv,_⟩|⟨g0,cap,cur,hv,_,hg0,_⟩
   ·left;rw [hv];rfl
   ·right
    rw [hv];simp only [Value.ownBlock,ne_eq,Ase];intro e;rw [e,h.blk]at hg0
    cases hg0
 ·intro i k hi hk hik;have Nz:i<E.length:=(by simpa using hi);have TV:k<E.length:=by simpa using hk
  have hlt:∀x (hx:x<E.length) (hx':x<R.length),E[x].2.1.ownBlock≠some Y.heap.size:=by
   intro x hx hx'
   rcases(h.row x hx hx').2.2.2 with⟨hv,_⟩|⟨g0,cap,cur,hv,_,hg0,_⟩
   ·rw [hv];simp [Value.ownBlock]
   ·rw [hv];have:=(Array.getElem?_eq_some_iff.1 hg0).1;simp only [Value.ownBlock,ne_eq,Ase];omega
  by_cases Bn:j=i
  ·subst Bn;rw [List.getElem_set_self,List.getElem_set_ne hik]
   rcases hat with e|e
   ·rw [e];exact h.apart j k Nz TV hik
   ·rw [e];right;exact fun e'=>hlt k TV (by rw [←h.len];exact TV) e'.symm
  ·rw [List.getElem_set_ne Bn];by_cases hjk:j=k
   ·subst hjk;rw [List.getElem_set_self]
    rcases hat with e|e
    ·rw [e];exact h.apart i j Nz TV hik
    ·rw [e];right;exact hlt i Nz (by rw [←h.len];exact Nz)
   ·rw [List.getElem_set_ne hjk];exact h.apart i k Nz TV hik
end
section
open Go.ChangeMaps (setBlock)
def stamp(L:List (Sg×Int)):List (Sg×Value×Nat):=L.mapIdx fun i e=>(e.1,.int .i64 e.2,i)
theorem DL(L:List (Sg×Int)):(stamp L).length=L.length:=by simp [stamp]
theorem Abc(L:List (Sg×Int))(e:Sg×Int):stamp (L ++ [e])=stamp L ++ [(e.1,.int .i64 e.2,L.length)]:=by simp [stamp,List.mapIdx_append]
theorem oH{L:List (Sg×Int)}{x:Sg×Value×Nat}(h:x∈stamp L):∃e∈L,x.1=e.1:=by
 unfold stamp at h;rw [List.mem_mapIdx]at h;obtain⟨i,hi,rfl⟩:=h;exact⟨L[i],Asa hi,rfl⟩
theorem Aoy{L:List (Sg×Int)}{x:Sg×Value×Nat}(h:x∈stamp L):x.2.2<L.length:=by
 unfold stamp at h;rw [List.mem_mapIdx]at h;obtain⟨i,hi,rfl⟩:=h;exact hi
structure B5(B:Nat)(W:World)(r b1 b2:Nat)(L:List (Sg×Int))(E:List (Pt×Value×Nat))(R:List (Pt×List Pt)):Prop where
 cell:W.heap[r]?=some (.cells #[.map (some b1),.map (some b2)] 134)
 left:W.heap[b1]?=some (.map (AG AA (stamp L)).toArray L.length)
 ar:DW B W b2 E R
 r0:B<=r
 r1:B<=b1
 ne:b1≠b2
theorem r7{W:World}{b1:Nat}{L:List (Sg×Int)}(h:W.heap[b1]?=some (.map (AG AA (stamp L)).toArray L.length))(s:Sg)(hno:∀e∈L,AO s e.1=false)(z:Int) :
  ∃X,(Instr.mapEntry 131 (.map (some b1)) (AA s)).run Tryz.prog W=.ok (.tuple #[.int .i64 0,.int .i64 (L.length:Nat)]) X
   /\W.grownBy X (some b1)/\X.heap.size=W.heap.size
   /\∃Z,(Instr.entryStore 131 (.map (some b1)) (.int .i64 (L.length:Nat)) (.int .i64 z)).run Tryz.prog X=.ok () Z/\W.grownBy Z (some b1)/\Z.heap.size=W.heap.size/\Z.heap[b1]?=some (.map (AG AA (stamp (L ++ [(s,z)]))).toArray (L ++ [(s,z)]).length):=by
 have Ai9:∀e∈stamp L,AO s e.1=false:=by intro e he;obtain⟨x,hx,h1⟩:=oH he;rw [h1];exact hno x hx
 have h1:=nI XX s (stamp L) Ai9 (W:=W) h;have hb:=Mm (o:=.map (AG AA (stamp L ++ [(s,.int .i64 0,L.length)])).toArray (L.length+1)) h;have hlt:L.length<(stamp L ++ [(s,Value.int .i64 0,L.length)]).length:=by simp [DL]
 have hge:(stamp L ++ [(s,Value.int .i64 0,L.length)])[L.length]=(s,.int .i64 0,L.length):=by rw [List.getElem_append_right (by rw [DL];omega)];simp [DL]
 have h2:=Aa0 (enc:=AA) 131 (stamp L ++ [(s,.int .i64 0,L.length)]) hlt (by
  intro e he;rw [hge]
  have:e∈stamp L:=by rw [List.take_append_of_le_length (by rw [DL];omega),Asi (by rw [DL];omega)]at he;exact he
  have:=Aoy this;show e.2.2≠L.length
  omega) (.int .i64 z) hb
 rw [hge]at h2
 have CS:(stamp L ++ [(s,Value.int .i64 0,L.length)]).set L.length (s,.int .i64 z,L.length)=stamp (L ++ [(s,z)]):=by rw [Abc,List.set_append_right _ _ (by rw [DL];omega)];simp [DL]
 rw [CS]at h2;refine⟨_,h1,Ln h,by simp [setBlock],_,h2,?_,by simp [setBlock],?_⟩
 ·exact⟨rfl,rfl,rfl,by simp [setBlock],fun k _ hk=>by
   have hkb:k≠b1:=fun e=>hk (by rw [e])
   rw [UN hkb,UN hkb]⟩
 ·rw [Mm hb];simp
end
section
open Go.ChangeMaps (setBlock)
theorem Qi{w w':World}{row:Option Nat}(hg:w.grownBy w' row){a:Addr}{v:Value}(h:w.cell? a=some v)(hn:some a.block≠row):w'.cell? a=some v:=by
 have hlt:a.block<w.heap.size:=by
  unfold World.cell? at h
  rcases Nat.lt_or_ge a.block w.heap.size with h'|h'
  ·exact h'
  ·simp [Array.getElem?_eq_none h']at h
 exact(World.cell?_of_block (hg.block a.block hlt hn)).trans h
theorem GG{w w':World}(h:Aa w w')(row:Option Nat):w.grownBy w' row:=⟨h.os,h.tape,h.output,h.size,fun k hk _=>h.block k hk⟩
theorem O0{a b c:World}{row:Option Nat}(h:a.grownBy b row)(k:b.grownBy c row):a.grownBy c row:=
 ⟨k.os.trans h.os,k.tape.trans h.tape,k.output.trans h.output,Asl h.size k.size,fun i hi hr=>(k.block i (Asj hi h.size) hr).trans (h.block i hi hr)⟩
theorem below_grown{B:Nat}{w w':World}{b:Nat}(hg:w.grownBy w' (some b))(hb:B<=b)(hB:B<=w.heap.size):Below B w w':=
 ⟨hg.os,hg.tape,hg.output,hg.size,fun k hk=>hg.block k (by omega) (by intro e;cases e;omega)⟩
theorem Akd{W:World}{b1:Nat}{L:List (Sg×Int)}(h:W.heap[b1]?=some (.map (AG AA (stamp L)).toArray L.length))(s:Sg)(h1:∀e∈L,AO s e.1=false)(h2:∀e∈L,AO (AY s) e.1=false)(hne:AO (AY s) s=false)(y z:Int) :
  ∃(n1:Nat) (X Z X2 Z2:World),(Instr.mapEntry 131 (.map (some b1)) (AA s)).run Tryz.prog W=.ok (.tuple #[.int .i64 0,.int .i64 (L.length:Nat)]) X
   /\(Instr.entryStore 131 (.map (some b1)) (.int .i64 (L.length:Nat)) (.int .i64 y)).run Tryz.prog X=.ok () Z
   /\(Instr.mapEntry 131 (.map (some b1)) (AA (AY s))).run Tryz.prog Z=.ok (.tuple #[.int .i64 0,.int .i64 (n1:Nat)]) X2
   /\(Instr.entryStore 131 (.map (some b1)) (.int .i64 (n1:Nat)) (.int .i64 z)).run Tryz.prog X2=.ok () Z2
   /\W.grownBy X (some b1)/\W.grownBy Z (some b1)/\W.grownBy X2 (some b1)/\W.grownBy Z2 (some b1)/\Z2.heap.size=W.heap.size/\Z2.heap[b1]?=some (.map (AG AA (stamp (L ++ [(s,y),(AY s,z)]))).toArray (L ++ [(s,y),(AY s,z)]).length):=by
 obtain⟨X,e1,g1,s1,Z,e2,g2,s2,hb⟩:=r7 h s h1 y
 obtain⟨X2,e3,g3,s3,Z2,e4,g4,s4,hb2⟩:=r7 hb (AY s) (by
  intro e he
  rcases List.mem_append.1 he with he|he
  ·exact h2 e he
  ·simp only [Asn]at he;subst he;exact hne) z
 have hl:(L ++ [(s,y)]).length=L.length+1:=(by simp);rw [hl]at e3 e4;rw [List.append_assoc]at hb2;exact⟨L.length+1,X,Z,X2,Z2,e1,e2,e3,e4,g1,g2,O0 g2 g3,O0 g2 g4,by omega,hb2⟩
section
variable {ops : Array Oper} {o : Oper} {a : Act} {K : Act → World → Prop} {Q : Exit → Act → World → Prop} {E : Prop}
theorem Abf(hgd:o.guard=none)(s x:Operand)(ho:o.op=.call {callee:=.builtin .append,args:=#[s,x],argTypes:=#[33,33]})
  {v u v':Value} {w Z:World} (hs:a.eval s=v) (hx:a.eval x=u) (hr:(Builtin.append_ #[33,33] o.type #[v,u]).run Tryz.prog w=.ok v' Z) (h:K (a.put o.dst v') Z) :
  if Region.wanted o (yielded ops a.tmps)=true then Oper.wp Tryz.prog o a w K Q else E:=by
 have hw:Region.wanted o (yielded ops a.tmps)=true:=(by simp [Region.wanted,hgd]);rw [if_pos hw];unfold Oper.wp execOp;simp only [ho,resolve,invoke,builtin,Sem.run_bind,Sem.run_pure,Result.andThen_ok,List.map_toArray,List.map_cons,List.map_nil,hs,hx,hr];exact h
end
def BL(b2:Nat)(W V:World):Prop:=W.heap.size<=V.heap.size/\∀k o,W.heap[k]?=some o→k≠b2→(∀cs,o≠.cells cs 94 (0,0))→V.heap[k]?=some o
theorem BL.trans{b2:Nat}{a b c:World}(h:BL b2 a b)(k:BL b2 b c):BL b2 a c:=
 ⟨Asl h.1 k.1,fun i o h1 h2 h3=>k.2 i o (h.2 i o h1 h2 h3) h2 h3⟩
theorem BL.of_ext{b2:Nat}{a b:World}(h:Aa a b):BL b2 a b:=⟨h.size,fun i _ h1 _ _=>(h.block i (Array.getElem?_eq_some_iff.1 h1).1).trans h1⟩
theorem BL.of_grown{b2:Nat}{a b:World}(h:a.grownBy b (some b2)):BL b2 a b:=⟨h.size,fun i _ h1 h2 _=>(h.block i (Array.getElem?_eq_some_iff.1 h1).1 (by simp;exact h2)).trans h1⟩
theorem sS{R:List (Pt×List Pt)}{p:Pt}{n:Nat}(h:∀e∈R,e.2.length<=n):∀e∈GB R p,e.2.length<=n:=by
 unfold GB
 split
 ·exact h
 ·intro e he
  rcases List.mem_append.1 he with he|he
  ·exact h e he
  ·simp only [Asn]at he;subst he;simp
theorem ZV{R:List (Pt×List Pt)}{p q:Pt}{n:Nat}(h:∀e∈R,e.2.length<=n):∀e∈Df R p q,e.2.length<=n+1:=by
 intro e he;unfold Df at he;obtain⟨i,hi,rfl⟩:=List.getElem_of_mem he;rw [List.getElem_modify];have hi':i<(GB R p).length:=(by simpa using hi);have:=sS (p:=p) h _ (Asa hi')
 split
 ·simp;omega
 ·omega
theorem sT{B:Nat}{W:World}{b2:Nat}{E:List (Pt×Value×Nat)}{R0:List (Pt×List Pt)}(h:DW B W b2 E R0)(hB:B<=W.heap.size)(p q:Pt)(hn:∀e∈R0,e.2.length<=100000) :
  ∃(j:Nat) (v v':Value) (X Z Z':World) (E':List (Pt×Value×Nat)),
   (Instr.mapEntry 132 (.map (some b2)) (Af p)).run Tryz.prog (W.alloc (.cells #[S (R q.x),S (R q.y)] 94)).drew=.ok (.tuple #[v,.int .i64 (j:Nat)]) X
   /\(∀ty,ty=33→(Builtin.append_ #[33,33] ty #[v,.slice (some ⟨W.heap.size,0,none⟩) 1 1]).run Tryz.prog X=.ok v' Z)
   /\(Instr.entryStore 132 (.map (some b2)) (.int .i64 (j:Nat)) v').run Tryz.prog Z=.ok () Z'
   /\BL b2 W X/\BL b2 W Z/\BL b2 W Z'/\Below B W Z'/\DW B Z' b2 E' (Df R0 p q):=by
 have hx:=((Aa.refl W).alloc (.cells #[S (R q.x),S (R q.y)] 94)).drew;have hg0:(W.alloc (.cells #[S (R q.x),S (R q.y)] 94)).drew.heap[W.heap.size]?=_:=ArY W (.cells #[S (R q.x),S (R q.y)] 94);have hA:=h.keep (GG hx none);obtain⟨X,E1,hA1,g1,s1,hj,hj',hk,hrun,hX⟩:=hA.entry p;have hgX:X.heap[W.heap.size]?=some (.cells #[S (R q.x),S (R q.y)] 94):=(g1.block _ (by simp) (by have:=h.lt;simp;omega)).trans hg0;have xR:B<=X.heap.size:=by rw [s1];simp;omega
 have hlen:((GB R0 p)[Gl R0 p]).2.length<200000:=by have:=sS hn _ (Asa hj');omega
 obtain⟨v',Z,Z',hr,gZ,hst,xG,hA2⟩:=hA1.append xR hj hj' hlen q hgX 33;have oD:BL b2 W X:=(BL.of_ext hx).trans (BL.of_grown g1)
 have stZ:BL b2 X Z:=by
  refine⟨gZ.size,fun k o h1 _ h3=>(gZ.block k (Array.getElem?_eq_some_iff.1 h1).1 ?_).trans h1⟩
  rcases(hA1.row _ hj hj').2.2.2 with⟨hv,_⟩|⟨g,cap,cur,hv,_,hg,_⟩
  ·rw [hv];simp [Value.ownBlock]
  ·rw [hv];simp only [Value.ownBlock,ne_eq,Ase];intro e;rw [e,hg]at h1;exact h3 cur (Option.some.inj h1).symm
 have bZ:Below B X Z:=⟨gZ.os,gZ.tape,gZ.output,gZ.size,fun k hkB=>gZ.block k (by omega) (by
  rcases(hA1.row _ hj hj').2.2.2 with⟨hv,_⟩|⟨g,cap,cur,hv,hb,_⟩
  ·rw [hv];simp [Value.ownBlock]
  ·rw [hv];simp only [Value.ownBlock,ne_eq,Ase];omega)⟩
 have bb:=h.own;have Wl:B<=Z.heap.size:=Asl xR gZ.size;have AdW:Below B W Z':=((Below.mono hx hB).trans (below_grown g1 bb (by simp;omega))).trans (bZ.trans (below_grown xG bb Wl));refine⟨Gl R0 p,E1[Gl R0 p].2.1,v',X,Z,Z',_,?_,?_,hst,oD,oD.trans stZ,oD.trans (stZ.trans (BL.of_grown xG)),AdW,hA2⟩
 ·rw [hX];exact hrun _ rfl
 ·intro ty Pe;subst Pe;exact hr
theorem ZW{B:Nat}{w:World}{r b1 b2:Nat}{L:List (Sg×Int)}{E:List (Pt×Value×Nat)}{R0:List (Pt×List Pt)}(h:B5 B w r b1 b2 L E R0)(hB:B<=w.heap.size)(s:Sg)(y z:Int)
  (h1:∀e∈L,AO s e.1=false) (h2:∀e∈L,AO (AY s) e.1=false) (hne:AO (AY s) s=false) (hn:∀e∈R0,e.2.length<=90000) :
  Calls Tryz.prog 111 #[.pointer (some ⟨r,0,none⟩),AA s,.int .i64 y,.int .i64 z] w (fun e w'=>e=.returned (.tuple #[])/\Below B w w'/\(∀k o,w.heap[k]?=some o→k≠b1→k≠b2→(∀cs,o≠.cells cs 94 (0,0))→w'.heap[k]?=some o)/\∃E',B5 B w' r b1 b2 (L ++ [(s,y),(AY s,z)]) E' (Df (Df R0 s.a s.b) s.b s.a)):=by
 have hE:=(Aa.refl w).alloc (.cells #[S (R s.a.x),S (R s.a.y),S (R s.b.x),S (R s.b.y)] 155);have Fc:=ArY w (.cells #[S (R s.a.x),S (R s.a.y),S (R s.b.x),S (R s.b.y)] 155);obtain⟨hc,hl,ha,hr0,hr1,Bq⟩:=h;have hcl:=ArX hc;have Ce:=(Array.getElem?_eq_some_iff.1 hl).1;have Fv:=ha.lt;have bk:=VI s;unfold AA at bk;unfold AA;go_enter Tryz.func111,Tryz.ntmps111
 go_upto_region 1 with fail
 replace hc:=(hE.block r hcl).trans hc;replace hl:=(hE.block b1 Ce).trans hl;replace ha:=ha.keep (GG hE none);generalize hV:w.alloc (.cells #[S (R s.a.x),S (R s.a.y),S (R s.b.x),S (R s.b.y)] 155)=V at *;obtain⟨bs,TC⟩:=ArV w.heap.size;rw [←TC]at Fc ⊢;have nr:b1≠r:=(by intro e;rw [e,hc]at hl;cases hl);have ns:b1≠bs:=(by omega);have nbs:B<=bs:=(by omega);have nrs:r≠bs:=(by omega);have lN:b2≠bs:=(by omega);have nle:w.heap.size<=bs:=(by omega);have HV:=ArW hV;clear TC hV
 have SO:∀w',V.grownBy w' (some b1)→(w'.cell? ⟨r,0,none⟩=some (.map (some b1))/\w'.cell? ⟨r,1,none⟩=some (.map (some b2))/\w'.cell? ⟨bs,0,none⟩=some (S (R s.a.x))/\w'.cell? ⟨bs,1,none⟩=some (S (R s.a.y))/\w'.cell? ⟨bs,2,none⟩=some (S (R s.b.x))/\w'.cell? ⟨bs,3,none⟩=some (S (R s.b.y))):=fun w' hg=>⟨Qi hg (Ab hc rfl) (by simp;omega),Qi hg (Ab hc rfl) (by simp;omega),Qi hg (Ab Fc rfl) (by simp;omega),Qi hg (Ab Fc rfl) (by simp;omega),Qi hg (Ab Fc rfl) (by simp;omega),Qi hg (Ab Fc rfl) (by simp;omega)⟩
 have t0:V.grownBy V.drew (some b1):=GG (Aa.refl V).drew _
 go_region_held3 (fun w'=>w'.cell? ⟨r,0,none⟩=some (.map (some b1))/\w'.cell? ⟨r,1,none⟩=some (.map (some b2))/\w'.cell? ⟨bs,0,none⟩=some (S (R s.a.x))/\w'.cell? ⟨bs,1,none⟩=some (S (R s.a.y))/\w'.cell? ⟨bs,2,none⟩=some (S (R s.b.x))/\w'.cell? ⟨bs,3,none⟩=some (S (R s.b.y)))
  (first|with_reducible exact SO _ t0|with_reducible exact SO _ t1|with_reducible exact SO _ t2|with_reducible exact SO _ t3|with_reducible exact SO _ t4|with_reducible exact SO _ t5)
  (first|((with_reducible refine(bk _).mono ?_);rintro e w1 ⟨rfl,hx1⟩;have t1:V.grownBy w1 (some b1):=O0 t0 (GG hx1 _);obtain⟨n1,X,Z,X2,Z2,e1,e2,e3,e4,u1,u2,u3,u4,u5,u6⟩:=Akd (((Aa.refl V).drew.trans hx1).block b1 (ArX hl) |>.trans hl) s h1 h2 hne y z;have t2:=O0 t1 u1;have t3:=O0 t1 u2;have t4:=O0 t1 u3;have t5:=O0 t1 u4;unfold AA at e1 e3))
 have gz:V.grownBy Z2 (some b1):=t5;have Yl:r≠b2:=(by intro e;rw [e,ha.blk]at hc;cases hc);have hc1:=(gz.block r (ArX hc) (by simp;omega)).trans hc;have hb1:=(gz.block bs (ArX Fc) (by simp;omega)).trans Fc;have OC:DW B V b2 E R0:=ha
 have zP:DW B Z2 b2 E R0:=by
  refine⟨(gz.block b2 OC.lt (by simp;omega)).trans OC.blk,OC.len,fun i hi hi'=>?_,OC.apart,OC.own⟩;obtain⟨s1,s2,s3⟩:=OC.row i hi hi';refine⟨s1,s2,s3.kept gz ?_⟩
  rcases s3.2 with⟨hv,_⟩|⟨g,cap,cur,hv,_,hg,_⟩
  ·left;rw [hv];rfl
  ·right
   rw [hv];simp only [Value.ownBlock,ne_eq,Ase];intro e;rw [e,hl]at hg
   cases hg
 have EO:=ArW u6;have GZ:=ArW (show ∀k o,w.heap[k]?=some o→k≠b1→Z2.heap[k]?=some o from fun k o q1 q2=>(gz.block k (Asj (Array.getElem?_eq_some_iff.1 q1).1 hE.size) (by simp;exact q2)).trans ((hE.block k (Array.getElem?_eq_some_iff.1 q1).1).trans q1));have bz:Below B w Z2:=(Below.mono hE hB).trans (below_grown gz hr1 (by have:=hE.size;omega));have BZ:=ArW bz;have HC:=ArW hc;have Wl:B<=Z2.heap.size:=(by have:=gz.size;have:=hE.size;omega);clear SO t0 t1 t2 t3 t4 t5 e1 e2 e3 e4 u1 u2 u3 u4 u5 u6 ha OC hc hl Fc hx1 bz gz;obtain⟨j1,v1,u1,X1,Y1,Q1,E1,c1,c2,c3,y1,y2,y3,y4,y5⟩:=sT zP Wl s.a s.b (fun e he=>Asl (hn e he) (by omega));replace c2:=c2 _ rfl
 have PP:∀w',BL b2 Z2 w'→(w'.cell? ⟨r,0,none⟩=some (.map (some b1))/\w'.cell? ⟨r,1,none⟩=some (.map (some b2))/\w'.cell? ⟨bs,0,none⟩=some (S (R s.a.x))/\w'.cell? ⟨bs,1,none⟩=some (S (R s.a.y))/\w'.cell? ⟨bs,2,none⟩=some (S (R s.b.x))/\w'.cell? ⟨bs,3,none⟩=some (S (R s.b.y))):=fun w' hg=>
  have z1:=hg.2 r _ hc1 Yl (by intro cs e;cases e);have z2:=hg.2 bs _ hb1 (fun e=>lN e.symm) (by intro cs e;cases e)
  ⟨Ab z1 rfl,Ab z1 rfl,Ab z2 rfl,Ab z2 rfl,Ab z2 rfl,Ab z2 rfl⟩
 have t0:BL b2 Z2 Z2.drew:=BL.of_ext (Aa.refl Z2).drew;have t1:BL b2 Z2 (Z2.alloc (.cells #[S (R (s.b).x),S (R (s.b).y)] 94)).drew:=BL.of_ext ((Aa.refl _).alloc _).drew;unfold Af at c1;(go_wp2_with fail)
 go_region_held3 (fun w'=>w'.cell? ⟨r,0,none⟩=some (.map (some b1))/\w'.cell? ⟨r,1,none⟩=some (.map (some b2))/\w'.cell? ⟨bs,0,none⟩=some (S (R s.a.x))/\w'.cell? ⟨bs,1,none⟩=some (S (R s.a.y))/\w'.cell? ⟨bs,2,none⟩=some (S (R s.b.x))/\w'.cell? ⟨bs,3,none⟩=some (S (R s.b.y)))
  (first|with_reducible exact PP _ t0|with_reducible exact PP _ t1|with_reducible exact PP _ y1|with_reducible exact PP _ y2|with_reducible exact PP _ y3)
  (first|(refine Abf (s:=.tmp 31) (x:=.tmp 34) ?hgd ?ho ?hs ?hx c2 ?h;(case hgd=>rfl);(case ho=>rfl);(case hs=>rfl);(case hx=>rfl)))
 have haQ:=y5;have hBQ:B<=Q1.heap.size:=Asl Wl y3.1;have hc2:=y3.2 r _ hc1 Yl (by intro cs e;cases e);have fN:=y3.2 bs _ hb1 (fun e=>lN e.symm) (by intro cs e;cases e);have Y3:=ArW y3;have Y4:=ArW y4;clear PP t0 t1 c1 c2 c3 y1 y2 y3 y4 y5 zP hc1 hb1;obtain⟨j2,v2,u2,X2',Y2',Q2,E2,c1,c2,c3,y1,y2,Ze,y4',y5'⟩:=sT haQ hBQ s.b s.a (fun e he=>Asl (ZV hn e he) (by omega));replace c2:=c2 _ rfl
 have S4:∀w',BL b2 Q1 w'→(w'.cell? ⟨r,0,none⟩=some (.map (some b1))/\w'.cell? ⟨r,1,none⟩=some (.map (some b2))/\w'.cell? ⟨bs,0,none⟩=some (S (R s.a.x))/\w'.cell? ⟨bs,1,none⟩=some (S (R s.a.y))/\w'.cell? ⟨bs,2,none⟩=some (S (R s.b.x))/\w'.cell? ⟨bs,3,none⟩=some (S (R s.b.y))):=fun w' hg=>
  have z1:=hg.2 r _ hc2 Yl (by intro cs e;cases e);have z2:=hg.2 bs _ fN (fun e=>lN e.symm) (by intro cs e;cases e)
  ⟨Ab z1 rfl,Ab z1 rfl,Ab z2 rfl,Ab z2 rfl,Ab z2 rfl,Ab z2 rfl⟩
 have t0:BL b2 Q1 Q1.drew:=BL.of_ext (Aa.refl Q1).drew;have t1:BL b2 Q1 (Q1.alloc (.cells #[S (R (s.a).x),S (R (s.a).y)] 94)).drew:=BL.of_ext ((Aa.refl _).alloc _).drew;unfold Af at c1;(go_wp2_with fail)
 go_region_held3 (fun w'=>w'.cell? ⟨r,0,none⟩=some (.map (some b1))/\w'.cell? ⟨r,1,none⟩=some (.map (some b2))/\w'.cell? ⟨bs,0,none⟩=some (S (R s.a.x))/\w'.cell? ⟨bs,1,none⟩=some (S (R s.a.y))/\w'.cell? ⟨bs,2,none⟩=some (S (R s.b.x))/\w'.cell? ⟨bs,3,none⟩=some (S (R s.b.y)))
  (first|with_reducible exact S4 _ t0|with_reducible exact S4 _ t1|with_reducible exact S4 _ y1|with_reducible exact S4 _ y2|with_reducible exact S4 _ Ze)
  (first|(refine Abf (s:=.tmp 44) (x:=.tmp 47) ?hgd ?ho ?hs ?hx c2 ?h;(case hgd=>rfl);(case ho=>rfl);(case hs=>rfl);(case hx=>rfl)))
 go_wp2
 go_end0
 refine⟨rfl,(BZ.out.trans Y4.out).trans y4',fun k o q1 q2 q3 q4=>Ze.2 k o (Y3.out.2 k o (GZ.out k o q1 q2) q3 q4) q3 q4,E2,⟨Ze.2 r _ hc2 Yl (by intro cs e;cases e),Ze.2 b1 _ (Y3.out.2 b1 _ EO.out Bq (by intro cs e;cases e)) Bq (by intro cs e;cases e),y5',hr0,hr1,Bq⟩⟩
end
section
open Go.ChangeMaps (setBlock)
def Bj(pts:List Pt)(e:AD):Sg:=⟨FA pts e.f,FA pts e.t⟩
def AS(pts:List Pt)(l:List AD):List (Sg×Int):=l.flatMap fun e=>[(Bj pts e,e.l),(AY (Bj pts e),e.r)]
def CV(pts:List Pt)(l:List AD):List (Pt×List Pt):=l.foldl (fun R0 e=>Df (Df R0 (Bj pts e).a (Bj pts e).b) (Bj pts e).b (Bj pts e).a) []
theorem Yq(pts:List Pt)(l:List AD)(e:AD):AS pts (l ++ [e])=AS pts l ++ [(Bj pts e,e.l),(AY (Bj pts e),e.r)]:=by simp [AS]
theorem Yr(pts:List Pt)(l:List AD)(e:AD):CV pts (l ++ [e])=Df (Df (CV pts l) (Bj pts e).a (Bj pts e).b) (Bj pts e).b (Bj pts e).a:=by simp [CV]
theorem wd(pts:List Pt):∀(l:List AD) (R0:List (Pt×List Pt)) (n:Nat),(∀e∈R0,e.2.length<=n)→∀e∈l.foldl (fun R0 e=>Df (Df R0 (Bj pts e).a (Bj pts e).b) (Bj pts e).b (Bj pts e).a) R0,e.2.length<=n+2*l.length
 | [],_,_,h=>by simpa using h
 | x::l,R0,n,h=>by intro e he;rw [List.foldl_cons]at he;have:=wd pts l _ (n+1+1) (ZV (ZV h)) e he;rw [List.length_cons];omega
theorem U8(pts:List Pt)(l:List AD):∀e∈CV pts l,e.2.length<=2*l.length:=by
 intro e he;have:=wd pts l [] 0 (by simp) e he;omega
theorem AmV{w:World}{b o:Nat}{cs:List Value}(h:Ae w (some ⟨b,o,none⟩) cs)(hl:0<cs.length):b<w.heap.size:=by
 obtain⟨b',o',e,hc⟩:=h.ad hl;have e2:(⟨b,o,none⟩:Addr)=⟨b',o',none⟩:=Option.some.inj e;obtain rfl:b=b':=(by injection e2);have h1:=hc 0 hl;unfold World.cell? at h1
 rcases Nat.lt_or_ge b w.heap.size with h'|h'
 ·exact h'
 ·simp [Array.getElem?_eq_none h']at h1
theorem VL{B:Nat}{w w':World}(h:Below B w w'){a:Addr}{v:Value}(hb:a.block<B)(hv:w.cell? a=some v):w'.cell? a=some v:=(World.cell?_of_block (h.block _ hb)).trans hv
theorem yi{w:World}{B B':Nat}{e:TypeId}{size:Nat}{v:Value}{n:Nat}{xs:List Value}(h:w.ownsRow B e size v n xs)(hB:B'<=B):w.ownsRow B' e size v n xs:=by
 refine⟨h.1,?_⟩
 rcases h.2 with h'|⟨g,cap,cur,h1,h2,h3⟩
 ·exact .inl h'
 ·exact .inr ⟨g,cap,cur,h1,Asl hB h2,h3⟩
theorem B5.ext{B:Nat}{W W':World}{r b1 b2:Nat}{L:List (Sg×Int)}{E:List (Pt×Value×Nat)}{R0:List (Pt×List Pt)}(h:B5 B W r b1 b2 L E R0)(hx:Aa W W'):B5 B W' r b1 b2 L E R0:=
 ⟨(hx.block _ (ArX h.cell)).trans h.cell,(hx.block _ (Array.getElem?_eq_some_iff.1 h.left).1).trans h.left,h.ar.keep (GG hx none),h.r0,h.r1,h.ne⟩
structure Od(pts:List Pt)(l:List AD):Prop where
 rng:∀e∈l,0<=e.f/\0<=e.t/\e.f<(pts.length:Int)/\e.t<(pts.length:Int)
 ne:∀e∈l,AO (AY (Bj pts e)) (Bj pts e)=false
 dis:∀j (h:j<l.length),∀e∈l.take j,AO (Bj pts l[j]) (Bj pts e)=false/\AO (Bj pts l[j]) (AY (Bj pts e))=false/\AO (AY (Bj pts l[j])) (Bj pts e)=false/\AO (AY (Bj pts l[j])) (AY (Bj pts e))=false
theorem Od.keys{pts:List Pt}{l:List AD}(h:Od pts l){j:Nat}(hj:j<l.length):(∀e∈AS pts (l.take j),AO (Bj pts l[j]) e.1=false)/\(∀e∈AS pts (l.take j),AO (AY (Bj pts l[j])) e.1=false):=by
 constructor
 all_goals
  intro e he;unfold AS at he;rw [List.mem_flatMap]at he;obtain⟨x,hx,he⟩:=he;obtain⟨d1,d2,d3,d4⟩:=h.dis j hj x hx;simp only [List.mem_cons,Asm,or_false]at he
  rcases he with rfl|rfl<;>assumption
theorem wB{w:World} : B5 w.heap.size (Oy w) (w.heap.size+1+1) w.heap.size (w.heap.size+1) [] [] []:=by
 unfold Oy;have h0:=ArY w (.map #[] 0);have h1:=ArY (w.alloc (.map #[] 0)) (.map #[] 0);have h2:=ArY ((w.alloc (.map #[] 0)).alloc (.map #[] 0)) (.cells #[.map (some w.heap.size),.map (some (w.heap.size+1))] 134);simp only [Ash]at h1 h2;have x1:=((Aa.refl (w.alloc (.map #[] 0))).alloc (.map #[] 0)).alloc (.cells #[.map (some w.heap.size),.map (some (w.heap.size+1))] 134);have x2:=(Aa.refl ((w.alloc (.map #[] 0)).alloc (.map #[] 0))).alloc (.cells #[.map (some w.heap.size),.map (some (w.heap.size+1))] 134);exact⟨h2,(x1.block _ (by simp)).trans h0,⟨(x2.block _ (by simp)).trans h1,rfl,fun i hi=>by simp at hi,fun i _ hi=>by simp at hi,by omega⟩,by omega,ArZ _,by omega⟩
theorem Alx(m:Bz)(A B F:Option Addr)(c d g:Nat)(DI:JJ m c d g)(Ah:Od m.pts m.eds)(hle:m.eds.length<=1200)(w:World)(hA:Ae w A (flat (Ak m.pts)))(hB:Ae w B (B6 m.eds)) :
  Calls Tryz.prog 81 #[Bv A B F m c d g] w (fun e w'=>∃r b1 b2 E,e=.returned (.pointer (some ⟨r,0,none⟩))/\Aa w w'/\B5 w.heap.size w' r b1 b2 (AS m.pts m.eds) E (CV m.pts m.eds)):=by
 obtain⟨c1,c2,d1,d2,g1,g2⟩:=DI;have hM:=ArY w (.cells #[.slice A m.pts.length c,.slice B m.eds.length d,.slice F m.nf g] 36);have hE:=(Aa.refl w).alloc (.cells #[.slice A m.pts.length c,.slice B m.eds.length d,.slice F m.nf g] 36);unfold Bv;go_enter Tryz.func81,Tryz.ntmps81
 go_upto_region 1 with fail
 have hA:=hA.ext hE;have hB:=hB.ext hE;generalize w.alloc (.cells #[.slice A m.pts.length c,.slice B m.eds.length d,.slice F m.nf g] 36)=V at *;obtain⟨bm,CN⟩:=ArV w.heap.size;have Lz:bm<V.heap.size:=(by have:=ArX hM;omega);rw [←CN]at hM ⊢;clear CN;have em:=wE V;have en:=@wB V
 have eb:Below V.heap.size V (Oy V):=((Aa.refl V).alloc _).alloc _ |>.alloc _
 generalize Oy V=V0 at *;obtain⟨r,hr⟩:=ArV (V.heap.size+1+1);obtain⟨b2,hb2⟩:=ArV (V.heap.size+1);obtain⟨b1,hb1⟩:=ArV V.heap.size;rw [←hr]at em en;rw [←hb2]at en;have en':B5 V.heap.size V0 r b1 b2 [] [] []:=(by rw [hb1];exact en);clear hr hb2 hb1 en;have O9:∀w',Aa V w'→w'.heap[bm]?=some (.cells #[.slice A m.pts.length c,.slice B m.eds.length d,.slice F m.nf g] 36):=fun w' h=>(h.block _ Lz).trans hM;have m1:=Ab (o:=1) (O9 V0 eb) rfl;(go_wp2_with fail);(with_reducible refine em.mono ?_);rintro e w1 ⟨rfl,hw1⟩;rw [hw1];clear hw1
 go_upto_region 3 with fail
 clear m1 em
 go_loopw [10] (fun i wr=>∃j:Nat,i=.int .i64 (j:Nat)/\j<=m.eds.length/\Below V.heap.size V wr/\∃E,B5 V.heap.size wr r b1 b2 (AS m.pts (m.eds.take j)) E (CV m.pts (m.eds.take j))) (fun i _=>m.eds.length-(intOf i).toNat)
 case atStart=>exact⟨0,rfl,by omega,eb,[],by simpa [AS,CV]using en'⟩
 case round=>
  obtain⟨j,rfl,hj,Q4,E,hN⟩:=hrel;have Ad:Aa V wr:=Q4;by_cases hlt:j<m.eds.length
  ·have hj0:(0:Int)<=(j:Int):=(by omega);have A7:(j:Int)<(m.eds.length:Int):=(by omega);obtain⟨b,o,rfl,hg1,hg2,hg3,hg4⟩:=UI (hB.ext Ad) hlt;have Eo:=Ah.keys hlt;have hne:=Ah.ne _ (Asa hlt);have hrg:=Ah.rng _ (Asa hlt);have hrl:=U8 m.pts (m.eds.take j);have Uk:=Yq m.pts (m.eds.take j) m.eds[j];have Ul:=Yr m.pts (m.eds.take j) m.eds[j];rw [←Asd hlt]at Uk Ul;obtain⟨e,he⟩:=ArV (m.eds[j]);rw [←he]at hg1 hg2 hg3 hg4 Eo hne hrg Uk Ul;clear he;obtain⟨ef,OH⟩:∃n:Nat,e.f=(n:Int):=⟨e.f.toNat,by omega⟩;obtain⟨et,OI⟩:∃n:Nat,e.t=(n:Int):=⟨e.t.toNat,by omega⟩;have QE:ef<m.pts.length:=(by omega);have QF:et<m.pts.length:=(by omega);rw [OH]at hg1;rw [OI]at hg2;obtain⟨ba,oa,rfl,ha1,ha2⟩:=Ca (hA.ext Ad) QE;obtain⟨b3,o3,Kr,fG,fH⟩:=Ca (hA.ext Ad) QF;have HBA:=ArW (AmV hA (by rw [flat_length];simp [Ak];omega));obtain⟨rfl,rfl⟩:ba=b3/\oa=o3:=by simpa using Kr
   have hs:Bj m.pts e=⟨m.pts[ef],m.pts[et]⟩:=by unfold Bj FA;rw [OH,OI];simp [QE,QF]
   obtain⟨pa,DK⟩:=ArV (m.pts[ef]);obtain⟨pb,Ic⟩:=ArV (m.pts[et]);rw [←DK]at ha1 ha2 hs;rw [←Ic]at fG fH hs;rw [hs]at Eo hne Uk Ul;have f0:(0:Int)<=(ef:Int):=(by omega);have f1:(ef:Int)<(m.pts.length:Int):=(by omega);have f2:(0:Int)<=(et:Int):=(by omega);have f3:(et:Int)<(m.pts.length:Int):=(by omega);have hx1:=(Aa.refl wr).alloc (.cells #[.int .i64 (ef:Nat),.int .i64 (et:Nat),.int .i64 e.l,.int .i64 e.r] 126);have Dy:=ArY wr (.cells #[.int .i64 (ef:Nat),.int .i64 (et:Nat),.int .i64 e.l,.int .i64 e.r] 126);have IY:=ArW Uk;have HSR:=ArW Ul;clear Uk Ul hs DK Ic Kr hrg OH OI
   go_upto_region 5 with fail
   have Hy:=(hN.ext hx1).ext (Aa.refl _).drew;have EZ:=O9 _ (Ad.trans hx1);have k1:=hx1.cellS ha1;have k2:=hx1.cellS ha2;have k3:=hx1.cellS fG;have k4:=hx1.cellS fH;have Ks:=Ad.trans hx1;generalize wr.alloc (.cells #[.int .i64 (ef:Nat),.int .i64 (et:Nat),.int .i64 e.l,.int .i64 e.r] 126)=W1 at *;obtain⟨be,br⟩:=ArV wr.heap.size;rw [←br]at Dy ⊢;clear br ha1 ha2 fG fH hg1 hg2 hg3 hg4;have ad:=ZW Hy (by have:=Ks.size;show V.heap.size<=W1.heap.size;exact this) ⟨pa,pb⟩ e.l e.r Eo.1 Eo.2 hne (fun x hx=>by have:=hrl x hx;rw [List.length_take]at this;omega);unfold AA at ad
   have SO:∀w',Aa W1 w'→(w'.cell? ⟨bm,0,none⟩=some (.slice (some ⟨ba,oa,none⟩) m.pts.length c)/\w'.cell? ⟨be,0,none⟩=some (.int .i64 (ef:Nat))/\w'.cell? ⟨be,1,none⟩=some (.int .i64 (et:Nat))/\w'.cell? ⟨be,2,none⟩=some (.int .i64 e.l)/\w'.cell? ⟨be,3,none⟩=some (.int .i64 e.r)/\w'.cell? ⟨ba,oa+ef*2,none⟩=some (S (R pa.x))/\w'.cell? ⟨ba,oa+ef*2+1,none⟩=some (S (R pa.y))/\w'.cell? ⟨ba,oa+et*2,none⟩=some (S (R pb.x))/\w'.cell? ⟨ba,oa+et*2+1,none⟩=some (S (R pb.y))):=fun w' h=>⟨h.cellS (Ab EZ rfl),h.cellS (Ab Dy rfl),h.cellS (Ab Dy rfl),h.cellS (Ab Dy rfl),h.cellS (Ab Dy rfl),h.cellS k1,h.cellS k2,h.cellS k3,h.cellS k4⟩
   have Yo:be≠b1:=(by intro e;have q:=Hy.left;rw [←e]at q;cases (show W1.heap[be]?=_ from q).symm.trans Dy);have NJ:be≠b2:=(by intro e;have q:=Hy.ar.blk;rw [←e]at q;cases (show W1.heap[be]?=_ from q).symm.trans Dy);have Aw:ba<V.heap.size:=HBA.out;have X:Aa W1 W1:=Aa.refl W1;have Xd:=X.drew
   go_region_held3 (fun w'=>w'.cell? ⟨bm,0,none⟩=some (.slice (some ⟨ba,oa,none⟩) m.pts.length c)/\w'.cell? ⟨be,0,none⟩=some (.int .i64 (ef:Nat))/\w'.cell? ⟨be,1,none⟩=some (.int .i64 (et:Nat))/\w'.cell? ⟨be,2,none⟩=some (.int .i64 e.l)/\w'.cell? ⟨be,3,none⟩=some (.int .i64 e.r)/\w'.cell? ⟨ba,oa+ef*2,none⟩=some (S (R pa.x))/\w'.cell? ⟨ba,oa+ef*2+1,none⟩=some (S (R pa.y))/\w'.cell? ⟨ba,oa+et*2,none⟩=some (S (R pb.x))/\w'.cell? ⟨ba,oa+et*2+1,none⟩=some (S (R pb.y)))
    (first|with_reducible exact SO _ Xd|exact S5)
    (first|((with_reducible refine ad.mono ?_);rintro _ w5 ⟨rfl,hb5,hs5,E5,OA⟩;have S5:(w5.cell? ⟨bm,0,none⟩=some (.slice (some ⟨ba,oa,none⟩) m.pts.length c)/\w5.cell? ⟨be,0,none⟩=some (.int .i64 (ef:Nat))/\w5.cell? ⟨be,1,none⟩=some (.int .i64 (et:Nat))/\w5.cell? ⟨be,2,none⟩=some (.int .i64 e.l)/\w5.cell? ⟨be,3,none⟩=some (.int .i64 e.r)/\w5.cell? ⟨ba,oa+ef*2,none⟩=some (S (R pa.x))/\w5.cell? ⟨ba,oa+ef*2+1,none⟩=some (S (R pa.y))/\w5.cell? ⟨ba,oa+et*2,none⟩=some (S (R pb.x))/\w5.cell? ⟨ba,oa+et*2+1,none⟩=some (S (R pb.y))):=⟨Ab ((hb5.block bm Lz).trans EZ) rfl,Ab (hs5 be _ Dy Yo NJ (by intro cs e;cases e)) rfl,Ab (hs5 be _ Dy Yo NJ (by intro cs e;cases e)) rfl,Ab (hs5 be _ Dy Yo NJ (by intro cs e;cases e)) rfl,Ab (hs5 be _ Dy Yo NJ (by intro cs e;cases e)) rfl,VL hb5 Aw k1,VL hb5 Aw k2,VL hb5 Aw k3,VL hb5 Aw k4⟩))
   have Wt:=IY.out▸HSR.out▸OA;have Jq:Below V.heap.size V w5:=Below.trans (Aa.drew Ks) hb5;have HB6:=ArW Jq;clear SO S5 X Xd ad hb5 hs5 Jq;go_wp2;go_roundw
   case rel=>exact⟨j+1,by go_num,hlt,HB6.out,E5,Wt⟩
   case measure=>simp [intOf];omega
  ·have Xs:(m.eds.length:Int)<=(j:Int):=(by omega);obtain rfl:j=m.eds.length:=(by omega);rw [Asi (ArZ _)]at hN;have HN:=ArW hN;have HE:=ArW (hE.trans Ad);have HS:=ArW hE.size;clear hN Ad Q4;go_wp2;go_ret;have hN:=HN.out;exact⟨r,b1,b2,E,rfl,HE.out,⟨hN.cell,hN.left,⟨hN.ar.blk,hN.ar.len,fun i hi hi'=>⟨(hN.ar.row i hi hi').1,(hN.ar.row i hi hi').2.1,yi (hN.ar.row i hi hi').2.2 HS.out⟩,hN.ar.apart,Asl HS.out hN.ar.own⟩,Asl HS.out hN.r0,Asl HS.out hN.r1,hN.ne⟩⟩
end
def Ke(R0:List (Pt×List Pt))(p:Pt):Nat:=match R0.find? (fun e=>An p e.1)with|some e=>e.2.length|none=>0
theorem Ag4{E:List (Pt×Value×Nat)}{R0:List (Pt×List Pt)}{B:Nat}{W:World}{b2:Nat}(h:DW B W b2 E R0)(p:Pt) :
  (∃A c,F5 An (.slice none 0 0) p E=.slice A (Ke R0 p) c):=by
 have Dz:=cX h.len (fun i h1 h2=>(h.row i h1 h2).1) p;unfold F5 Ke
 cases hf:R0.findIdx? (fun e=>An p e.1)with
 | none=>
  rw [hf]at Dz
  have e1:E.find? (fun e=>An p e.1)=none:=by rw [List.find?_eq_none];rw [List.findIdx?_eq_none_iff]at Dz;intro x hx;rw [Dz x hx];simp
  have e2:R0.find? (fun e=>An p e.1)=none:=by rw [List.find?_eq_none];rw [List.findIdx?_eq_none_iff]at hf;intro x hx;rw [hf x hx];simp
  rw [e1,e2];exact⟨none,0,rfl⟩
 | some j=>
  rw [hf]at Dz;rw [List.findIdx?_eq_some_iff_getElem]at Dz hf;obtain⟨hj,h1,h2⟩:=Dz;obtain⟨hj',h3,h4⟩:=hf
  have e1:E.find? (fun e=>An p e.1)=some E[j]:=by rw [List.find?_eq_some_iff_getElem];exact⟨h1,j,hj,rfl,fun i hi=>by have:=h2 i hi;simpa using this⟩
  have e2:R0.find? (fun e=>An p e.1)=some R0[j]:=by rw [List.find?_eq_some_iff_getElem];exact⟨h3,j,hj',rfl,fun i hi=>by have:=h4 i hi;simpa using this⟩
  rw [e1,e2]
  rcases(h.row j hj hj').2.2.2 with⟨hv,hn⟩|⟨g,cap,cur,hv,_⟩
  ·simp only;rw [hv,hn];exact⟨none,0,rfl⟩
  ·simp only;rw [hv];exact⟨_,_,rfl⟩
theorem Agz{B:Nat}{w:World}{r b1 b2:Nat}{L:List (Sg×Int)}{E:List (Pt×Value×Nat)}{R0:List (Pt×List Pt)}(h:B5 B w r b1 b2 L E R0)(bn:Nat)(Cm:w.cell? ⟨bn,0,none⟩=some (.pointer (some ⟨r,0,none⟩)))(p:Pt) :
  Calls Tryz.prog 83 #[Af p,.pointer (some ⟨bn,0,none⟩)] w (Bw (decide (Ke R0 p<2)) w):=by
 have hE:=(Aa.refl w).alloc (.cells #[S (R p.x),S (R p.y)] 94);have hb0:=ArY w (.cells #[S (R p.x),S (R p.y)] 94);have hN:=h.ext hE;obtain⟨A,c,hv⟩:=Ag4 h.ar p;have dn:=hE.cellS Cm;obtain⟨x,hx⟩:=ArV (decide (Ke R0 p<2));rw [←hx];have HX:=ArW (show x=decide ((Ke R0 p:Int)<2)by rw [hx];simp;omega);unfold Af;clear hx;go_enter Tryz.func83,Tryz.ntmps83
 go_upto_region 1 with fail
 generalize w.alloc (.cells #[S (R p.x),S (R p.y)] 94)=V at *;obtain⟨bp,AK⟩:=ArV w.heap.size;rw [←AK]at hb0 ⊢;clear AK;have q1:∀q:Ac V,q.w.cell? ⟨bn,0,none⟩=some (.pointer (some ⟨r,0,none⟩)):=Ac.cell dn;have q2:∀q:Ac V,q.w.cell? ⟨r,1,none⟩=some (.map (some b2)):=Ac.cell (Ab hN.cell rfl);have q3:∀q:Ac V,q.w.cell? ⟨bp,0,none⟩=some (S (R p.x)):=Ac.cell (Ab hb0 rfl);have q4:∀q:Ac V,q.w.cell? ⟨bp,1,none⟩=some (S (R p.y)):=Ac.cell (Ab hb0 rfl)
 have q5:∀q:Ac V,(Instr.lookup 132 (.map (some b2)) (Af p) false).run Tryz.prog q.w=.ok (.slice A (Ke R0 p) c) q.w:=fun q=>by rw [R9 Rh p E (W:=q.w) ((q.h.block b2 hN.ar.lt).trans hN.ar.blk),hv]
 unfold Af at q5;clear dn hb0 hN h Cm hv;refine Bp (by kernel_rfl) (by kernel_rfl) ?_
 repeat (go_big_quiet_step (fail))
 refine wpQuiet_nil ?_;rintro _ ⟨q,rfl⟩;go_wp2;go_ret;exact⟨by rw [HX.out];rfl,hE.trans q.h⟩
end Go.Proofs.YtbejphgbbpplbaaGreatDoor
