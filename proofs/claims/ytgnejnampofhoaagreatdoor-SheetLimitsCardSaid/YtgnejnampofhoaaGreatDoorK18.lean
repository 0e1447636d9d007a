/- K18: ShS6 ShS7 ShM1 ShM2 ShM3 ShM4 ShM5 ShM6 ShM7 ShM8 ShM9 ShM10. -/
import Derived.Maps.RangeWalk
import Derived.Maps.AppendAt
import Derived.Test.YtgnejnampofhoaaGreatDoorK17
set_option maxRecDepth 100000
set_option maxHeartbeats 16000000
namespace Go.Proofs.YtgnejnampofhoaaGreatDoor
open Go.RowKit Kl
def mh(l:List EdZ)(e0:EdZ)(w:World)(e:Ending)(w':World):Prop:=∃k:Int,e=.returned (.int .i64 k)/\(0<=k↔∃p∈l,Fb p e0=true)/\Ac w w'
theorem AcC(l:List EdZ)(e:EdZ)(bb:Nat)(t:TypeId)(A:Option Addr)(c:Nat)(w:World)(hr:Ae w A (Au l))(hc:l.length<=c)(hcm:c<=9223372036854775807)
  (hb:w.heap[bb]?=some (.cells #[.int .i64 e.f,.int .i64 e.t,.int .i64 e.l,.int .i64 e.r] t)) :
  Calls Tryz.prog 174 #[.slice A l.length c,.func (.func 188) #[] #[.pointer (some ⟨bb,0,none⟩)]] w (mh l e w):=by
 go_enter Tryz.func174,Tryz.ntmps174;go_wp2
 go_loopw [8] (fun i wr=>∃j:Nat,i=.int .i64 (j:Nat)/\j<=l.length/\(∀p∈l.take j,Fb p e=false)/\Ac w wr) (fun i _=>l.length-(intOf i).toNat)
 case atStart=>exact⟨0,rfl,by omega,by simp,Ac.refl _⟩
 case round=>
  obtain⟨j,rfl,hj,Ap,Ag⟩:=hrel;have HO:=Ajw Ap;clear Ap;by_cases hlt:j<l.length
  ·obtain⟨b,o,rfl,hg1,hg2,hg3,hg4⟩:=KV (hr.ext Ag) hlt;obtain⟨p,hp⟩:=Ajv (l[j]);rw [←hp]at hg1 hg2 hg3 hg4;have hmem:p∈l:=(by rw [hp];exact Aj0 hlt);have HX:=Ajw hp;clear hp;have hj0:(0:Int)<=(j:Int):=(by omega);have AP:(j:Int)<(l.length:Int):=(by omega);have bf:=xw p e bb t wr ((Ag.block _ (Ajx hb)).trans hb);unfold Hq at bf
   cases hL:Fb p e
   ·rw [hL]at bf;have IT:=Ajw hL;clear hL;(go_wp2_with fail);(with_reducible refine bf.mono ?_);rintro e w2 ⟨rfl,hx2⟩;go_wp2;go_roundw
    case rel=>
     refine⟨j+1,by go_num,hlt,?_,Ag.trans hx2⟩;intro q hq;rw [Aj2 hlt,←HX.out]at hq
     rcases List.mem_append.1 hq with h|h
     ·exact HO.out q h
     ·simp only [AjB]at h;rw [h];exact IT.out
    case measure=>simp [intOf];omega
   ·rw [hL]at bf;have IT:=Ajw hL;clear hL;(go_wp2_with fail);(with_reducible refine bf.mono ?_);rintro e w2 ⟨rfl,hx2⟩;go_wp2;go_ret;exact⟨j,rfl,⟨fun _=>⟨_,hmem,IT.out⟩,fun _=>by omega⟩,Ag.trans hx2⟩
  ·have hle:(l.length:Int)<=(j:Int):=(by omega);go_wp2;go_ret;refine⟨-1,rfl,⟨fun h=>by omega,?_⟩,Ag⟩;rintro⟨p,hp,h⟩;have:=HO.out p (by rw [Aj7 (by omega)];exact hp);rw [this]at h;cases h
theorem vq(l:List EdZ)(e:EdZ)(bb:Nat)(t:TypeId)(A:Option Addr)(c:Nat)(w:World)(hr:Ae w A (Au l))(hc:l.length<=c)(hcm:c<=9223372036854775807)
  (hb:w.heap[bb]?=some (.cells #[.int .i64 e.f,.int .i64 e.t,.int .i64 e.l,.int .i64 e.r] t)) :
  Calls Tryz.prog 176 #[.slice A l.length c,.func (.func 188) #[] #[.pointer (some ⟨bb,0,none⟩)]] w (By (l.any (Fb · e)) w):=by
 have ix:=AcC l e bb t A c w hr hc hcm hb;obtain⟨r,hr0⟩:=Ajv (l.any (Fb · e));rw [←hr0];have HR:=Ajw hr0;clear hr hb hr0;go_enter Tryz.func176,Tryz.ntmps176;(go_wp2_with fail);(with_reducible refine ix.mono ?_);rintro e w2 ⟨k,rfl,hk,hx⟩;have HK:=Ajw hk;clear hk;go_wp2;go_ret;refine⟨?_,hx⟩
 have e:decide (0<=k)=r:=by
  rw [HR.out]
  cases h:l.any (Fb · _)
  ·rw [decide_eq_false_iff_not,HK.out];rintro⟨p,hp,h2⟩;rw [List.any_eq_false]at h;exact h p hp h2
  ·rw [decide_eq_true_eq,HK.out];rw [List.any_eq_true]at h;exact h
 rw [←e];rfl
def Jb(np nf:Nat)(pre:List EdZ)(e:EdZ):Int:=
 if min e.f e.t<0 then 3 else if (np:Int)<=max e.f e.t then 3 else if e.f=e.t then 17 else if pre.any (Fb · e)then 9
 else if Eg nf e.l=false then 3 else if Eg nf e.r=false then 3 else if e.l=e.r then 7 else 0
structure MapZ where
 pts:List Pt
 eds:List EdZ
 nf:Nat
def As(A B F:Option Addr)(m:MapZ)(c d g:Nat):Value:=.agg #[.slice A m.pts.length c,.slice B m.eds.length d,.slice F m.nf g]
structure Bj(m:MapZ)(c d g:Nat):Prop where
 c1:m.pts.length<=c
 c2:c<=9223372036854775807
 d1:m.eds.length<=d
 d2:d<=9223372036854775807
 g1:m.nf<=g
 g2:g<=9223372036854775807
theorem lL(l:List EdZ)(i:Nat):Au (l.take i)=(Au l).take (i*4):=by
 induction l generalizing i with
 | nil=>simp [Au]
 | cons e l ih=>
  cases i with
  | zero=>simp [Au]
  | succ i=>have e0:∀l,Au (e::l)=.int .i64 e.f :: .int .i64 e.t :: .int .i64 e.l :: .int .i64 e.r::Au l:=fun _=>rfl;rw [List.take_succ_cons,e0,e0,ih];have e1:(i+1)*4=i*4+1+1+1+1:=(by omega);rw [e1];simp
theorem Ae.take{w:World}{A:Option Addr}{cs:List Value}(h:Ae w A cs)(n:Nat):Ae w A (cs.take n):=
 ⟨fun h0=>by
  obtain⟨b,o,e,hc⟩:=h.ad (by rw [List.length_take]at h0;omega);refine⟨b,o,e,fun j hj=>?_⟩;rw [List.length_take]at hj
  rw [hc j (by omega),List.getElem_take]⟩
theorem tj(m:MapZ)(A B F:Option Addr)(c d g:Nat)(An:Bj m c d g)(i:Nat)(hi:i<m.eds.length)(w:World)(hB:Ae w B (Au m.eds)) :
  Calls Tryz.prog 104 #[As A B F m c d g,.int .i64 (i:Nat)] w (AK (Jb m.pts.length m.nf (m.eds.take i) m.eds[i]) w):=by
 have Ajk:=@AfK Tryz.prog;have Ajj:=@AfJ Tryz.prog;obtain⟨c1,c2,d1,d2,g1,g2⟩:=An;obtain⟨e,he⟩:=Ajv (m.eds[i]);obtain⟨b,o,rfl,hg1,hg2,hg3,hg4⟩:=KV hB hi;rw [←he]at hg1 hg2 hg3 hg4 ⊢;obtain⟨r,hr⟩:=Ajv (Jb m.pts.length m.nf (m.eds.take i) e);rw [←hr]
 have hr':r=if min e.f e.t<0 then 3 else if (m.pts.length:Int)<=max e.f e.t then 3 else if e.f=e.t then 17 else if (m.eds.take i).any (Fb · e)then 9
  else if Eg m.nf e.l=false then 3 else if Eg m.nf e.r=false then 3 else if e.l=e.r then 7 else 0:=hr
 have HR:=Ajw hr';have hpl:(m.eds.take i).length=i:=by rw [List.length_take];omega
 have hid:∀bb t w',Ac w w'→w'.heap[bb]?=some (.cells #[.int .i64 e.f,.int .i64 e.t,.int .i64 e.l,.int .i64 e.r] t)→Calls Tryz.prog 176 #[.slice (some ⟨b,o,none⟩) i d,.func (.func 188) #[] #[.pointer (some ⟨bb,0,none⟩)]] w' (By ((m.eds.take i).any (Fb · e)) w'):=by intro bb t w' hx h;have:=vq (m.eds.take i) e bb t (some ⟨b,o,none⟩) d w' (by rw [lL];exact(hB.ext hx).take _) (by omega) d2 h;rw [hpl]at this;exact this
 generalize (m.eds.take i).any (Fb · e)=du at *;obtain⟨np,Ml⟩:=Ajv m.pts.length;obtain⟨ne,hne⟩:=Ajv m.eds.length;obtain⟨nf,Bn⟩:=Ajv m.nf;rw [←Ml]at c1 HR;rw [←hne]at d1 hi;rw [←Bn]at g1 HR;unfold As;rw [←Ml,←hne,←Bn];have Jp:(0:Int)<=(i:Int):=(by omega);have Me:(i:Int)<(ne:Int):=(by omega);have hix:(i:Int)<=(d:Int):=(by omega);have hM:=Ajy w (.cells #[.slice A np c,.slice (some ⟨b,o,none⟩) ne d,.slice F nf g] 35);have hx0:=(Ac.refl w).alloc (.cells #[.slice A np c,.slice (some ⟨b,o,none⟩) ne d,.slice F nf g] 35);have j1:=hx0.cellS hg1;have j2:=hx0.cellS hg2;have j3:=hx0.cellS hg3;have j4:=hx0.cellS hg4;have hx1:=hx0.alloc (.cells #[.int .i64 e.f,.int .i64 e.t,.int .i64 e.l,.int .i64 e.r] 118);have hD:=Ajy (w.alloc (.cells #[.slice A np c,.slice (some ⟨b,o,none⟩) ne d,.slice F nf g] 35)) (.cells #[.int .i64 e.f,.int .i64 e.t,.int .i64 e.l,.int .i64 e.r] 118);have Bt:=(((Ac.refl _).alloc (.cells #[.int .i64 e.f,.int .i64 e.t,.int .i64 e.l,.int .i64 e.r] 118)).block _ (Ajx hM)).trans hM;rw [Aj6]at hD;clear he hr hr' hpl Ml hne Bn hB hg1 hg2 hg3 hg4 hM hi;go_enter Tryz.func104,Tryz.ntmps104
 go_upto_region 2 with fail
 clear j1 j2 j3 j4;generalize (w.alloc (.cells #[.slice A np c,.slice (some ⟨b,o,none⟩) ne d,.slice F nf g] 35)).alloc (.cells #[.int .i64 e.f,.int .i64 e.t,.int .i64 e.l,.int .i64 e.r] 118)=V at *;obtain⟨bm,AD⟩:=Ajv w.heap.size;rw [←AD]at Bt hD ⊢;clear AD hx0;have m1:=Aa (o:=0) Bt rfl;have m2:=Aa (o:=1) Bt rfl;have m3:=Aa (o:=2) Bt rfl;have e1:=Aa (o:=0) hD rfl;have e2:=Aa (o:=1) hD rfl;have e3:=Aa (o:=2) hD rfl;have e4:=Aa (o:=3) hD rfl;generalize hmn:min e.f e.t=mn at *;generalize hmx:max e.f e.t=mx at *;by_cases n1:mn<0
 ·have dd:decide (mn<0)=true:=decide_eq_true n1;have HH:=Ajw (show r=3 by rw [HR.out,if_pos n1]);clear HR hid;go_wp2;go_ret;exact⟨by rw [HH.out];rfl,hx1⟩
 have kX:decide (mn<0)=false:=decide_eq_false n1;by_cases n2:(np:Int)<=mx
 ·have dd:decide ((np:Int)<=mx)=true:=decide_eq_true n2;have HH:=Ajw (show r=3 by rw [HR.out,if_neg n1,if_pos n2]);clear HR hid n1;go_wp2;go_ret;exact⟨by rw [HH.out];rfl,hx1⟩
 have Xo:decide ((np:Int)<=mx)=false:=decide_eq_false n2;by_cases n3:e.f=e.t
 ·have dd:(e.f == e.t)=true:=(by rw [beq_iff_eq];exact n3);have HH:=Ajw (show r=17 by rw [HR.out,if_neg n1,if_neg n2,if_pos n3]);clear HR hid n1 n2 n3;go_wp2;go_ret;exact⟨by rw [HH.out];rfl,hx1⟩
 have kY:(e.f == e.t)=false:=(by rw [beq_eq_false_iff_ne];exact n3);have MI:=Ajw (show r=if du=true then 9 else if Eg nf e.l=false then 3 else if Eg nf e.r=false then 3 else if e.l=e.r then 7 else 0 by rw [HR.out,if_neg n1,if_neg n2,if_neg n3]);have ci:=hid (bm+1) _ V hx1 hD;clear HR n1 n2 n3 hid
 cases Jl:du
 rotate_left
 ·have HH:=Ajw (show r=9 by rw [MI.out,Jl];rfl);rw [Jl]at ci;clear MI Jl;(go_wp2_with fail);(with_reducible refine ci.mono ?_);rintro e w2 ⟨rfl,hx2⟩;go_wp2;go_ret;exact⟨by rw [HH.out];rfl,hx1.trans hx2⟩
 have SR:=Ajw (show r=if Eg nf e.l=false then 3 else if Eg nf e.r=false then 3 else if e.l=e.r then 7 else 0 by rw [MI.out,Jl];rfl);rw [Jl]at ci;clear MI Jl;(go_wp2_with fail);(with_reducible refine ci.mono ?_);rintro _ w2 ⟨rfl,hx2⟩;have EC:=(hx2.block _ (Ajx Bt)).trans Bt;have MZ:=(hx2.block _ (Ajx hD)).trans hD;have s1:=zK e.l bm nf g F _ _ _ w2 EC;replace hx2:=hx1.trans hx2;clear m1 m2 m3 e1 e2 e3 e4 Bt hD hx1 ci;have e1:=Aa (o:=0) MZ rfl;have e2:=Aa (o:=1) MZ rfl;have e3:=Aa (o:=2) MZ rfl;have e4:=Aa (o:=3) MZ rfl
 cases h5:Eg nf e.l
 ·have HH:=Ajw (show r=3 by rw [SR.out,h5];rfl);rw [h5]at s1;clear SR h5;(go_wp2_with fail);(with_reducible refine s1.mono ?_);rintro _ w3 ⟨rfl,hx3⟩;go_wp2;go_ret;exact⟨by rw [HH.out];rfl,hx2.trans hx3⟩
 have PO:=Ajw (show r=if Eg nf e.r=false then 3 else if e.l=e.r then 7 else 0 by rw [SR.out,h5];rfl);rw [h5]at s1;clear SR h5;(go_wp2_with fail);(with_reducible refine s1.mono ?_);rintro _ w3 ⟨rfl,hx3⟩;have Cd:=(hx3.block _ (Ajx EC)).trans EC;have Na:=(hx3.block _ (Ajx MZ)).trans MZ;have s2:=zK e.r bm nf g F _ _ _ w3 Cd;replace hx3:=hx2.trans hx3;clear e1 e2 e3 e4 EC MZ hx2 s1;have e1:=Aa (o:=0) Na rfl;have e2:=Aa (o:=1) Na rfl;have e3:=Aa (o:=2) Na rfl;have e4:=Aa (o:=3) Na rfl
 cases h6:Eg nf e.r
 ·have HH:=Ajw (show r=3 by rw [PO.out,h6];rfl);rw [h6]at s2;clear PO h6;(go_wp2_with fail);(with_reducible refine s2.mono ?_);rintro _ w4 ⟨rfl,Aq⟩;go_wp2;go_ret;exact⟨by rw [HH.out];rfl,hx3.trans Aq⟩
 have SU:=Ajw (show r=if e.l=e.r then 7 else 0 by rw [PO.out,h6];rfl);rw [h6]at s2;clear PO h6;(go_wp2_with fail);(with_reducible refine s2.mono ?_);rintro _ w4 ⟨rfl,Aq⟩;have TO:=(Aq.block _ (Ajx Na)).trans Na;replace Aq:=hx3.trans Aq;clear e1 e2 e3 e4 Cd Na hx3 s2;have e1:=Aa (o:=0) TO rfl;have e2:=Aa (o:=1) TO rfl;have e3:=Aa (o:=2) TO rfl;have e4:=Aa (o:=3) TO rfl;by_cases n7:e.l=e.r
 ·have dd:(e.l == e.r)=true:=(by rw [beq_iff_eq];exact n7);have HH:=Ajw (show r=7 by rw [SU.out,if_pos n7]);clear SU n7;go_wp2;go_ret;exact⟨by rw [HH.out];rfl,Aq⟩
 ·have dd:(e.l == e.r)=false:=(by rw [beq_eq_false_iff_ne];exact n7);have HH:=Ajw (show r=0 by rw [SU.out,if_neg n7]);clear SU n7;go_wp2;go_ret;exact⟨by rw [HH.out];rfl,Aq⟩
def Da:List Pt→List Pt→Int
 | _,[]=>0
 | pre,p::l=>if pre.any (Ay p)then 9 else Da (pre ++ [p]) l
def Dk(np nf:Nat):List EdZ→List EdZ→Int
 | _,[]=>0
 | pre,e::l=>if Jb np nf pre e≠0 then Jb np nf pre e else Dk np nf (pre ++ [e]) l
def DV(l:List Pt)(z:Int):Pt:=l.getD z.toNat ⟨0,0⟩
def Oi(l:List Pt)(e f:EdZ):Bool:=M5 (DV l e.f) (DV l e.t) (DV l f.f) (DV l f.t)
def DG(pts:List Pt):List EdZ→List EdZ→Int
 | _,[]=>0
 | pre,e::l=>if pre.any (Oi pts e)then 26 else DG pts (pre ++ [e]) l
def L8(m:MapZ):Bool:=decide (400<m.pts.length)||(decide (1200<m.eds.length)||decide (800<m.nf))
theorem ue{l:List Pt}{j:Nat}(h:j<l.length):Da (l.take j) (l.drop j)=if (l.take j).any (Ay l[j])then 9 else Da (l.take (j+1)) (l.drop (j+1)):=by
 rw [List.drop_eq_getElem_cons h,Aj2 h];rfl
theorem uf{np nf:Nat}{l:List EdZ}{j:Nat}(h:j<l.length):Dk np nf (l.take j) (l.drop j)=if Jb np nf (l.take j) l[j]≠0 then Jb np nf (l.take j) l[j] else Dk np nf (l.take (j+1)) (l.drop (j+1)):=by
 rw [List.drop_eq_getElem_cons h,Aj2 h];rfl
theorem ug{pts:List Pt}{l:List EdZ}{j:Nat}(h:j<l.length):DG pts (l.take j) (l.drop j)=if (l.take j).any (Oi pts l[j])then 26 else DG pts (l.take (j+1)) (l.drop (j+1)):=by
 rw [List.drop_eq_getElem_cons h,Aj2 h];rfl
theorem Qk{np nf:Nat}{pre:List EdZ}{e:EdZ}(h:Jb np nf pre e=0):0<=e.f/\0<=e.t/\e.f<(np:Int)/\e.t<(np:Int)/\e.f≠e.t/\pre.any (Fb · e)=false/\Eg nf e.l=true/\Eg nf e.r=true/\e.l≠e.r:=by
 unfold Jb at h
 split at h
 ·cases h
 split at h
 ·cases h
 split at h
 ·cases h
 split at h
 ·cases h
 split at h
 ·cases h
 split at h
 ·cases h
 split at h
 ·cases h
 rename_i h1 h2 h3 h4 h5 h6 h7
 exact⟨by omega,by omega,by omega,by omega,h3,by simpa using h4,by simpa using h5,by simpa using h6,h7⟩
theorem Og{np nf:Nat}{l:List EdZ} : ∀{pre rest:List EdZ},Dk np nf pre rest=0→∀(i:Nat) (h:i<rest.length),Jb np nf (pre++rest.take i) rest[i]=0
 | pre,[],_,i,h=>by simp at h
 | pre,e::rest,hc,i,h=>by
  unfold Dk at hc
  split at hc
  ·rename_i hne
   exact absurd hc hne
  ·rename_i h0
   simp only [ne_eq,Decidable.not_not]at h0
   cases i with
   | zero=>simpa using h0
   | succ i=>
    have:=Og (l:=l) hc i (by simpa using h)
    simpa using this
theorem jV{pts:List Pt} : ∀{pre rest:List EdZ},DG pts pre rest=0→∀(i:Nat) (h:i<rest.length),(pre++rest.take i).any (Oi pts rest[i])=false
 | pre,[],_,i,h=>by simp at h
 | pre,e::rest,hc,i,h=>by
  unfold DG at hc
  split at hc
  ·cases hc
  ·rename_i h0
   cases i with
   | zero=>simpa using h0
   | succ i=>
    have:=jV hc i (by simpa using h)
    simpa using this
theorem jU:∀{pre rest:List Pt},Da pre rest=0→∀(i:Nat) (h:i<rest.length),(pre++rest.take i).any (Ay rest[i])=false
 | pre,[],_,i,h=>by simp at h
 | pre,e::rest,hc,i,h=>by
  unfold Da at hc
  split at hc
  ·cases hc
  ·rename_i h0
   cases i with
   | zero=>simpa using h0
   | succ i=>
    have:=jU hc i (by simpa using h)
    simpa using this
def AN(s t:Sg):Bool:=Ay s.a t.a&&Ay s.b t.b
theorem Hd{s t:Sg} : AN s t=true↔s=t:=by
 unfold AN;rw [Bool.and_eq_true,C3,C3];constructor
 ·rintro⟨h1,h2⟩
  cases s;cases t;simp_all
 ·rintro rfl;exact⟨rfl,rfl⟩
theorem lR(p q:Pt)(W:World):(Op.equal 27 (Ak p) (Ak q)).run Tryz.prog W=.ok (Ay p q) W:=by
 unfold Ay Ak;rw [←IY,←IY]
 cases b1:(R p.x == R q.x)<;>cases b2:(R p.y == R q.y)<;>simp [go_sem,Op.equal,Op.maxDepth,b1,b2]
theorem lS(s t:Sg)(W:World):(Op.equal 175 (AC s) (AC t)).run Tryz.prog W=.ok (AN s t) W:=by
 unfold AN Ay AC;rw [←IY,←IY,←IY,←IY]
 cases b1:(R s.a.x == R t.a.x)<;>cases b2:(R s.a.y == R t.a.y)<;>cases b3:(R s.b.x == R t.b.x)<;>cases b4:(R s.b.y == R t.b.y)<;>simp [go_sem,Op.equal,Op.maxDepth,b1,b2,b3,b4]
theorem jQ(b:Bool)(p:Pt)(W:World):(Instr.checkKey b 10000 27 (Ak p)).run Tryz.prog W=.ok () W:=by
 unfold Ak
 kernel_rfl
theorem jR(b:Bool)(s:Sg)(W:World):(Instr.checkKey b 10000 175 (AC s)).run Tryz.prog W=.ok () W:=by
 unfold AC
 kernel_rfl
/-! ### Entries -/
section
variable {α : Type} (enc : α → Value) (same : α → α → Bool)
def AH(l:List (α×Value×Nat)):List MapEntry:=l.map (fun e=>⟨enc e.1,e.2.1,e.2.2⟩)
theorem mD{kt:TypeId}(heq:∀x y W,(Op.equal kt (enc x) (enc y)).run Tryz.prog W=.ok (same x y) W)(k:α)(W:World):∀(l:List (α×Value×Nat)) (i:Nat),
  (Instr.findAsking kt (enc k) (AH enc l) i).run Tryz.prog W=.ok ((l.findIdx? (fun e=>same k e.1)).bind (fun j=>(l[j]?).map (fun e=>(i+j,e.2.1)))) W
 | [],i=>by simp [AH,Instr.findAsking]
 | e::l,i=>by
  have ih:=mD heq k W l (i+1);have e0:AH enc (e::l)=⟨enc e.1,e.2.1,e.2.2⟩::AH enc l:=rfl;rw [e0];unfold Instr.findAsking;simp only [Sem.run_bind,heq,Result.andThen_ok];rw [List.findIdx?_cons]
  cases h:same k e.1
  ·simp only [Bool.false_eq_true,if_false,ih]
   congr 1
   cases h2:l.findIdx? (fun e=>same k e.1)with
   | none=>simp
   | some j=>
    simp only [Option.map_some,Option.bind_some,List.getElem?_cons_succ]
    congr 1
    funext x
    rw [show i+1+j=i+(j+1)by omega]
  ·simp
end
section
variable {α : Type} {enc : α → Value} {same : α → α → Bool}
structure IV(mt kt et:TypeId)(z:Value)(enc:α→Value)(same:α→α→Bool):Prop where
 map:Tryz.prog.underlying mt=some (.map kt et)
 st:∃fs,Tryz.prog.underlying kt=some (.struct fs)
 zero:∀W,(zeroValue et).run Tryz.prog W=.ok z W
 eq:∀x y W,(Op.equal kt (enc x) (enc y)).run Tryz.prog W=.ok (same x y) W
 chk:∀b x W,(Instr.checkKey b 10000 kt (enc x)).run Tryz.prog W=.ok () W
 iff:∀{x y},same x y=true↔x=y
 bits:∀x,Instr.sameBits 10000 (enc x) (enc x)=true
def EH(same:α→α→Bool)(k:α)(l:List (α×Value×Nat)):Option Nat:=l.findIdx? (fun e=>same k e.1)
theorem Qw{mt kt et:TypeId}{z:Value}(K:IV mt kt et z enc same)(k:α)(l:List (α×Value×Nat))(W:World) :
  (Instr.findKey kt (enc k) (AH enc l)).run Tryz.prog W=.ok ((EH same k l).bind (fun j=>(l[j]?).map (fun e=>(j,e.2.1)))) W:=by
 obtain⟨fs,hfs⟩:=K.st;unfold Instr.findKey;simp only [Sem.run_bind,run_underlying hfs,Result.andThen_ok]
 cases l with
 | nil=>simp [AH,Instr.findNow,EH]
 | cons e l=>
  have e0:AH enc (e::l)=⟨enc e.1,e.2.1,e.2.2⟩::AH enc l:=rfl
  have h1:Instr.findNow (.struct fs) (enc k) (AH enc (e::l)) 0=none:=by rw [e0];unfold Instr.findNow;have:Instr.sameNow (.struct fs) (enc k) (enc e.1)=none:=(by unfold Instr.sameNow;rfl);rw [this]
  rw [h1];have h2:=mD enc same K.eq k W (e::l) 0;simp only [Nat.zero_add]at h2;exact h2
def EJ(same:α→α→Bool)(z:Value)(k:α)(l:List (α×Value×Nat)):Value:=match l.find? (fun e=>same k e.1)with|some e=>e.2.1|none=>z
theorem uC{k:α}{l:List (α×Value×Nat)} : (EH same k l).bind (fun j=>(l[j]?).map (fun e=>(j,e.2.1)))=(EH same k l).bind (fun j=>(l.find? (fun e=>same k e.1)).map (fun e=>(j,e.2.1))):=by
 unfold EH
 cases h:l.findIdx? (fun e=>same k e.1)with
 | none=>rfl
 | some j=>
  simp only [Option.bind_some];rw [List.findIdx?_eq_some_iff_getElem]at h;obtain⟨hj,h1,h2⟩:=h
  have h3:l.find? (fun e=>same k e.1)=some l[j]:=by rw [List.find?_eq_some_iff_getElem];exact⟨h1,j,hj,rfl,fun i hi=>by have:=h2 i hi;simpa using this⟩
  rw [h3,Aj4 hj]
theorem Px{mt kt et:TypeId}{z:Value}(K:IV mt kt et z enc same)(k:α)(l:List (α×Value×Nat)){b clock:Nat}{W:World}(hb:W.heap[b]?=some (.map (AH enc l).toArray clock)) :
  (Instr.lookup mt (.map (some b)) (enc k) false).run Tryz.prog W=.ok (EJ same z k l) W:=by
 have hf:=Qw K k l W;rw [uC]at hf;unfold EJ
 cases h:l.find? (fun e=>same k e.1)with
 | none=>
  rw [h]at hf
  have hf':(Instr.findKey kt (enc k) (AH enc l)).run Tryz.prog W=.ok none W:=by rw [hf];cases EH same k l<;>rfl
  simp [Instr.lookup,run_underlying K.map,MapKept.run_getObj_map hb,K.chk,hf',K.zero,Result.andThen]
 | some e=>
  have hi:(EH same k l).isSome:=by unfold EH;rw [List.findIdx?_isSome,List.any_eq_true];exact⟨e,List.mem_of_find?_eq_some h,(by have:=List.find?_some h;exact this)⟩
  obtain⟨j,hj⟩:=Option.isSome_iff_exists.1 hi;rw [h,hj]at hf;simp only [Option.bind_some,Option.map_some]at hf;simp [Instr.lookup,run_underlying K.map,MapKept.run_getObj_map hb,K.chk,hf,Result.andThen]
end
theorem OY:IV 163 27 31 (.slice none 0 0) Ak Ay where
 map:=Tryz.underlying163
 st:=⟨_,Tryz.underlying27⟩
 zero:=fun W=>by simp [go_sem]
 eq:=lR
 chk:=jQ
 iff:=C3
 bits:=fun x=>by unfold Ak;simp [Instr.sameBits,beq_toListBytes]
theorem UL:IV 162 175 3 (.int .i64 0) AC AN where
 map:=Tryz.underlying162
 st:=⟨_,Tryz.underlying175⟩
 zero:=fun W=>by simp [go_sem]
 eq:=lS
 chk:=jR
 iff:=Hd
 bits:=fun x=>by unfold AC;simp [Instr.sameBits,beq_toListBytes]
section
open Go.ChangeMaps (setBlock)
theorem KY{w:World}{b:Nat}{o o':Obj}(h:w.heap[b]?=some o'):(setBlock w b o).heap[b]?=some o:=by
 have hlt:=(Array.getElem?_eq_some_iff.1 h).1;show (w.heap.setIfInBounds b o)[b]?=some o;rw [Array.getElem?_setIfInBounds_self];simp [hlt]
theorem Sr{w:World}{b k:Nat}{o:Obj}(h:k≠b):(setBlock w b o).heap[k]?=w.heap[k]?:=by
 show (w.heap.setIfInBounds b o)[k]?=w.heap[k]?;rw [Array.getElem?_setIfInBounds_ne (by omega)]
theorem dA{w:World}{b:Nat}{o:Obj}(h:w.heap[b]?=some o):setBlock w b o=w:=by
 have hlt:=(Array.getElem?_eq_some_iff.1 h).1
 have e:w.heap.setIfInBounds b o=w.heap:=by
  apply Array.ext_getElem?;intro i;by_cases hi:i=b
  ·subst hi;rw [Array.getElem?_setIfInBounds_self];simp [hlt]at *;exact h.symm
  ·rw [Array.getElem?_setIfInBounds_ne (by omega)]
 unfold setBlock;rw [e]
section
variable {α : Type} {enc : α → Value} {same : α → α → Bool}
theorem cV{mt kt et:TypeId}{z:Value}(K:IV mt kt et z enc same)(k:α)(l:List (α×Value×Nat))(hno:∀e∈l,same k e.1=false){b clock:Nat}{W:World}(hb:W.heap[b]?=some (.map (AH enc l).toArray clock)) :
  (Instr.mapEntry mt (.map (some b)) (enc k)).run Tryz.prog W=.ok (.tuple #[z,.int .i64 (clock:Nat)]) (setBlock W b (.map (AH enc (l ++ [(k,z,clock)])).toArray (clock+1))):=by
 have hf:=Qw K k l W
 have hi:EH same k l=none:=by unfold EH;rw [List.findIdx?_eq_none_iff];exact hno
 rw [hi]at hf;simp only [Option.bind_none]at hf
 have e0:AH enc l ++ [{key:=enc k,val:=z,born:=clock}]=AH enc (l ++ [(k,z,clock)]):=by simp [AH]
 simp [Instr.mapEntry,run_underlying K.map,MapKept.run_getObj_map hb,K.chk,hf,K.zero,MapKept.run_setObj_map _ hb,Result.andThen,setBlock,e0,goInt]
theorem AfI{mt kt et:TypeId}{z:Value}(K:IV mt kt et z enc same)(k:α)(l:List (α×Value×Nat)){j:Nat}(hj:j<l.length)(hno:∀e∈l.take j,same k e.1=false)(hk:l[j].1=k){b clock:Nat}{W:World}(hb:W.heap[b]?=some (.map (AH enc l).toArray clock)) :
  (Instr.mapEntry mt (.map (some b)) (enc k)).run Tryz.prog W=.ok (.tuple #[l[j].2.1,.int .i64 (l[j].2.2:Nat)]) W:=by
 have hf:=Qw K k l W
 have hi:EH same k l=some j:=by unfold EH;rw [List.findIdx?_eq_some_iff_getElem];refine⟨hj,by rw [hk];exact K.iff.2 rfl,fun i Bl=>?_⟩;rw [Bool.not_eq_true];refine hno l[i] ?_;rw [List.mem_take_iff_getElem];exact⟨i,by omega,rfl⟩
 rw [hi]at hf;simp only [Option.bind_some,Aj4 hj,Option.map_some]at hf
 have Ec:(AH enc l)[j]?=some ⟨enc k,l[j].2.1,l[j].2.2⟩:=by simp [AH,Aj4 hj,hk]
 have hst:(Instr.keyThatStays (enc k) (enc k)).run Tryz.prog W=.ok (enc k) W:=by simp [Instr.keyThatStays,K.bits]
 have hmod:(AH enc l).modify j (fun e=>{e with key:=enc k})=AH enc l:=by
  apply List.ext_getElem?;intro i;rw [List.getElem?_modify];by_cases Bl:j=i
  ·subst Bl;rw [Ec];simp
  ·simp [Bl]
 have Cg:(setBlock W b (.map (AH enc l).toArray clock))=W:=dA hb;unfold setBlock at Cg;simp [Instr.mapEntry,run_underlying K.map,MapKept.run_getObj_map hb,K.chk,hf,Ec,hst,MapKept.run_setObj_map _ hb,Result.andThen,goInt];rw [hmod];exact Cg
theorem yP(mt:TypeId)(l:List (α×Value×Nat)){j:Nat}(hj:j<l.length)(hno:∀e∈l.take j,e.2.2≠l[j].2.2)(v:Value){b clock:Nat}{W:World}(hb:W.heap[b]?=some (.map (AH enc l).toArray clock)) :
  (Instr.entryStore mt (.map (some b)) (.int .i64 (l[j].2.2:Nat)) v).run Tryz.prog W=.ok () (setBlock W b (.map (AH enc (l.set j (l[j].1,v,l[j].2.2))).toArray clock)):=by
 have hf:(AH enc l).findIdx? (fun e=>(e.born:Int) == (l[j].2.2:Int))=some j:=by rw [List.findIdx?_eq_some_iff_getElem];refine⟨by simp [AH];exact hj,by simp [AH],fun i Bl=>?_⟩;have:=hno l[i] (by rw [List.mem_take_iff_getElem];exact⟨i,by omega,rfl⟩);simp [AH];omega
 have e0:(AH enc l).modify j (fun e=>{e with val:=v})=AH enc (l.set j (l[j].1,v,l[j].2.2)):=by
  apply List.ext_getElem?;intro i;rw [List.getElem?_modify];by_cases Bl:j=i
  ·subst Bl;simp [AH,hj]
  ·simp [Bl,AH,List.getElem?_set_ne Bl]
 simp [Instr.entryStore,MapKept.run_getObj_map hb,asInt,asIntOf,hf,MapKept.run_setObj_map _ hb,Result.andThen,setBlock,e0]
end
end
section
open Go.ChangeMaps (setBlock)
def AV(s:Sg):Sg:=⟨s.b,s.a⟩
theorem Ts(s:Sg)(w:World):Calls Tryz.prog 114 #[AC s] w (Bp (AC (AV s)) w):=by
 have hE:=((Ac.refl w).alloc (.cells #[S (R s.a.x),S (R s.a.y),S (R s.b.x),S (R s.b.y)] 175)).alloc (.cells #[S [],S [],S [],S []] 175);have hb1:=(Below.heap_alloc (w.alloc (.cells #[S (R s.a.x),S (R s.a.y),S (R s.b.x),S (R s.b.y)] 175)) (.cells #[S [],S [],S [],S []] 175) w.heap.size (by simp)).trans (Ajy w (.cells #[S (R s.a.x),S (R s.a.y),S (R s.b.x),S (R s.b.y)] 175));have hb2:=Ajy (w.alloc (.cells #[S (R s.a.x),S (R s.a.y),S (R s.b.x),S (R s.b.y)] 175)) (.cells #[S [],S [],S [],S []] 175);rw [Aj6]at hb2;unfold AV AC;go_enter Tryz.func114,Tryz.ntmps114
 go_upto_region 1 with fail
 rw [show (⟨#[]⟩:ByteArray)=⟨([]:Bs).toArray⟩from rfl];generalize (w.alloc (.cells #[S (R s.a.x),S (R s.a.y),S (R s.b.x),S (R s.b.y)] 175)).alloc (.cells #[S [],S [],S [],S []] 175)=V at *;obtain⟨bb,Bf⟩:=Ajv w.heap.size;have hle:w.heap.size<=bb+1:=(by omega);rw [←Bf]at hb1 hb2 ⊢;clear Bf;have k1:=Aa (o:=0) hb1 rfl;have k2:=Aa (o:=1) hb1 rfl;have k3:=Aa (o:=2) hb1 rfl;have k4:=Aa (o:=3) hb1 rfl;have y0:=Aj (o:=0) hb2;have y1:=Aj (o:=1) hb2;have y2:=Aj (o:=2) hb2;have y3:=Aj (o:=3) hb2;have z0:=Aa (o:=0) hb2 rfl;have z1:=Aa (o:=1) hb2 rfl;have z2:=Aa (o:=2) hb2 rfl;have z3:=Aa (o:=3) hb2 rfl;have hq:=Oc (S (R s.b.x)) (S (R s.b.y)) (S (R s.a.x)) (S (R s.a.y)) hb2;have q0:=Aa (o:=0) hq rfl;have q1:=Aa (o:=1) hq rfl;have q2:=Aa (o:=2) hq rfl;have q3:=Aa (o:=3) hq rfl;clear hq hb1 hb2;go_wp2;refine bodyPost_ret (v:=.agg #[S (R s.b.x),S (R s.b.y),S (R s.a.x),S (R s.a.y)]) (by simp [results,Tryz.results114,go_sem,q0,q1,q2,q3]) rfl ?_;exact⟨rfl,(((hE.setCell (p:=⟨bb+1,0,none⟩) hle _).setCell (p:=⟨bb+1,1,none⟩) hle _).setCell (p:=⟨bb+1,2,none⟩) hle _).setCell (p:=⟨bb+1,3,none⟩) hle _⟩
def MU(w:World):World:=((w.alloc (.map #[] 0)).alloc (.map #[] 0)).alloc (.cells #[.map (some w.heap.size),.map (some (w.heap.size+1))] 165)
theorem lN(w:World):Calls Tryz.prog 116 #[] w (fun e w'=>e=.returned (.pointer (some ⟨w.heap.size+1+1,0,none⟩))/\w'=MU w):=by
 have hmm:=@run_makeMap Tryz.prog;go_enter Tryz.func116,Tryz.ntmps116;go_wp2;go_ret;exact⟨rfl,rfl⟩
end
section
open Go.ChangeMaps (setBlock)
def F8(R:List (Pt×List Pt))(p:Pt):Nat:=(R.findIdx? (fun e=>Ay p e.1)).getD R.length
def Ga(R:List (Pt×List Pt))(p:Pt):List (Pt×List Pt):=match R.findIdx? (fun e=>Ay p e.1)with|some _=>R|none=>R ++ [(p,[])]
def CZ(R:List (Pt×List Pt))(p q:Pt):List (Pt×List Pt):=(Ga R p).modify (F8 R p) (fun e=>(e.1,e.2 ++ [q]))
structure D4(B:Nat)(W:World)(b2:Nat)(E:List (Pt×Value×Nat))(R:List (Pt×List Pt)):Prop where
 blk:W.heap[b2]?=some (.map (AH Ak E).toArray E.length)
 len:E.length=R.length
 row:∀i (h:i<E.length) (h':i<R.length),E[i].1=R[i].1/\E[i].2.2=i/\W.ownsRow B 27 2 E[i].2.1 R[i].2.length (flat (Ai R[i].2))
 apart:∀i j (hi:i<E.length) (hj:j<E.length),i≠j→E[i].2.1.ownBlock=none∨E[i].2.1.ownBlock≠E[j].2.1.ownBlock
 own:B<=b2
theorem D4.lt{B:Nat}{W:World}{b2:Nat}{E:List (Pt×Value×Nat)}{R:List (Pt×List Pt)}(h:D4 B W b2 E R):b2<W.heap.size:=(Array.getElem?_eq_some_iff.1 h.blk).1
theorem D4.keep{B:Nat}{W W':World}{b2:Nat}{E:List (Pt×Value×Nat)}{R:List (Pt×List Pt)}(h:D4 B W b2 E R)(hg:W.grownBy W' none):D4 B W' b2 E R:=
 ⟨(hg.block b2 h.lt (by simp)).trans h.blk,h.len,fun i hi hi'=>⟨(h.row i hi hi').1,(h.row i hi hi').2.1,(h.row i hi hi').2.2.kept hg (by
  rcases hv:E[i].2.1.ownBlock with _|g
  ·exact .inl rfl
  ·exact .inr (by simp))⟩,h.apart,h.own⟩
theorem Xz{E:List (Pt×Value×Nat)}{R:List (Pt×List Pt)}(hl:E.length=R.length)(he:∀i (h:i<E.length) (h':i<R.length),E[i].1=R[i].1)(p:Pt):E.findIdx? (fun e=>Ay p e.1)=R.findIdx? (fun e=>Ay p e.1):=by
 have h1:E.map (·.1)=R.map (·.1):=by
  apply List.ext_getElem
  ·simp [hl]
  ·intro i h1 h2;simp at h1 h2 ⊢;exact he i h1 h2
 have f:∀{β:Type} (l:List (Pt×β)),l.findIdx? (fun e=>Ay p e.1)=(l.map (·.1)).findIdx? (Ay p):=by
  intro β l;rw [List.findIdx?_map]
  rfl
 rw [f E,f R,h1]
theorem Kc{w:World}{b:Nat}{o o':Obj}(_:w.heap[b]?=some o'):w.grownBy (setBlock w b o) (some b):=
 ⟨rfl,rfl,rfl,by simp [setBlock],fun k _ hk=>Sr (fun e=>hk (by rw [e]))⟩
theorem D4.entry{B:Nat}{W:World}{b2:Nat}{E:List (Pt×Value×Nat)}{R:List (Pt×List Pt)}(h:D4 B W b2 E R)(p:Pt) :
  ∃W1 E1,D4 B W1 b2 E1 (Ga R p)/\W.grownBy W1 (some b2)/\W1.heap.size=W.heap.size/\∃hj:F8 R p<E1.length,∃hj':F8 R p<(Ga R p).length,((Ga R p)[F8 R p]).1=p/\
   (∀V,V.heap[b2]?=W.heap[b2]?→(Instr.mapEntry 163 (.map (some b2)) (Ak p)).run Tryz.prog V=.ok (.tuple #[E1[F8 R p].2.1,.int .i64 (F8 R p:Nat)]) (setBlock V b2 (.map (AH Ak E1).toArray E1.length)))/\W1=setBlock W b2 (.map (AH Ak E1).toArray E1.length):=by
 have Dy:=Xz h.len (fun i h1 h2=>(h.row i h1 h2).1) p
 cases hf:R.findIdx? (fun e=>Ay p e.1)with
 | none=>
  have e1:F8 R p=R.length:=(by unfold F8;rw [hf];rfl);have e2:Ga R p=R ++ [(p,[])]:=(by unfold Ga;rw [hf]);rw [hf]at Dy;have hno:∀e∈E,Ay p e.1=false:=(by rw [List.findIdx?_eq_none_iff]at Dy;exact Dy);have hnew:=cV OY p E hno (W:=W) h.blk;rw [e2];refine⟨_,E ++ [(p,.slice none 0 0,E.length)],⟨?_,?_,?_,?_,h.own⟩,Kc h.blk,?_,?_,?_,?_,?_,rfl⟩
  ·rw [KY h.blk]
  ·simp [h.len]
  ·intro i hi hi';by_cases hlt:i<E.length
   ·have OI:i<R.length:=(by rw [←h.len];exact hlt);rw [List.getElem_append_left hlt,List.getElem_append_left OI];obtain⟨r1,r2,r3⟩:=h.row i hlt OI;refine⟨r1,r2,r3.kept (Kc h.blk) ?_⟩
    rcases r3.2 with⟨hn,_⟩|⟨g,cap,cur,hv,hb,hg,_⟩
    ·left;rw [hn];rfl
    ·right
     rw [hv];simp only [Value.ownBlock,ne_eq,Aj3];intro e;rw [e,h.blk]at hg
     cases hg
   ·have OE:i=E.length:=(by simp at hi;omega);subst OE;rw [List.getElem_append_right (by omega),List.getElem_append_right (by rw [h.len];omega)];simp only [Nat.sub_self,List.getElem_cons_zero,h.len];exact⟨by trivial,by trivial,⟨rfl,.inl ⟨rfl,rfl⟩⟩⟩
  ·intro i j hi hj Bl;by_cases Me:i<E.length
   ·rw [List.getElem_append_left Me];by_cases AP:j<E.length
    ·rw [List.getElem_append_left AP];exact h.apart i j Me AP Bl
    ·rw [List.getElem_append_right (by omega)];have Mf:j=E.length:=(by simp at hj;omega);subst Mf;simp only [Nat.sub_self,List.getElem_cons_zero]
     cases E[i].2.1.ownBlock with
     | none=>left;rfl
     | some g=>right;simp [Value.ownBlock]
   ·rw [List.getElem_append_right (by omega)];have OE:i=E.length:=(by simp at hi;omega);subst OE
    left
    simp [Value.ownBlock]
  ·simp [setBlock]
  ·rw [e1,←h.len];simp
  ·rw [e1];simp
  ·simp only [e1];rw [List.getElem_append_right (by omega)];simp
  ·intro V hV;have hnV:=cV OY p E hno (W:=V) (hV.trans h.blk);rw [hnV];simp only [e1];rw [List.getElem_append_right (by rw [h.len];omega)];simp [h.len]
 | some j=>
  have e1:F8 R p=j:=(by unfold F8;rw [hf];rfl);have e2:Ga R p=R:=(by unfold Ga;rw [hf]);rw [hf]at Dy;rw [List.findIdx?_eq_some_iff_getElem]at Dy;obtain⟨hj,h1,h2⟩:=Dy;have hj':j<R.length:=by rw [←h.len];exact hj
  have hno:∀e∈E.take j,Ay p e.1=false:=by
   intro e he;rw [List.mem_take_iff_getElem]at he;obtain⟨i,hi,rfl⟩:=he;have:=h2 i (by omega)
   simpa using this
  have hk:E[j].1=p:=(C3.1 h1).symm;rw [e2];refine⟨W,E,h,⟨rfl,rfl,rfl,Ajz _,fun _ _ _=>rfl⟩,rfl,by rw [e1];exact hj,by rw [e1];exact hj',?_,?_,(dA h.blk).symm⟩
  ·simp only [e1];rw [←(h.row j hj hj').1];exact hk
  ·intro V hV;have hb:=hV.trans h.blk;have:=AfI OY p E hj hno hk (W:=V) hb;rw [this,dA hb];simp only [e1,(h.row j hj hj').2.1]
end
section
open Go.ChangeMaps (setBlock)
theorem D4.append{B:Nat}{Y:World}{b2:Nat}{E:List (Pt×Value×Nat)}{R:List (Pt×List Pt)}(h:D4 B Y b2 E R)(hB:B<=Y.heap.size){j:Nat}(hj:j<E.length)(hj':j<R.length)(hn:R[j].2.length<200000)
  (q:Pt) {g:Nat} (hg:Y.heap[g]?=some (.cells #[S (Kl.R q.x),S (Kl.R q.y)] 27)) (ty:TypeId) :
  ∃v' Z Z',(Builtin.append_ #[31,31] ty #[E[j].2.1,.slice (some ⟨g,0,none⟩) 1 1]).run Tryz.prog Y=.ok v' Z/\Y.grownBy Z E[j].2.1.ownBlock
   /\(Instr.entryStore 163 (.map (some b2)) (.int .i64 (j:Nat)) v').run Tryz.prog Z=.ok () Z'/\Z.grownBy Z' (some b2)/\D4 B Z' b2 (E.set j (E[j].1,v',j)) (R.modify j (fun e=>(e.1,e.2 ++ [q]))):=by
 obtain⟨i0,hi,hz0,hz1,hz2⟩:=info_parts Tryz.infoPt;obtain⟨r1,r2,r3⟩:=h.row j hj hj'
 obtain⟨v',Z,hr,hown,hgr,_,hat⟩:=run_append_own_at (P:=Tryz.prog) Y B 31 ty 27 i0 (.agg #[S [],S []]) 2 32 Tryz.underlying31 hi hz0 hz1 hz2 rfl (by omega) E[j].2.1 R[j].2.length (flat (Ai R[j].2)) r3
  ⟨g,0,none⟩ 1 1 [S (Kl.R q.x),S (Kl.R q.y)] rfl (fun k u hu=>by
   rw [Addr.add_lit,Nat.zero_add];refine Aa hg ?_;rw [←Array.getElem?_toList]
   exact hu) (fun u hu=>by
   simp only [List.mem_cons,AjA,or_false]at hu
   rcases hu with rfl|rfl<;>rfl) (by unfold maxLen;omega) (by omega) hB
 rw [←bY]at hown
 have hb2:Z.heap[b2]?=Y.heap[b2]?:=hgr.block b2 h.lt (by
  rcases r3.2 with⟨hv,_⟩|⟨g0,cap,cur,hv,_,hg0,_⟩
  ·rw [hv];simp [Value.ownBlock]
  ·rw [hv];simp only [Value.ownBlock,ne_eq,Aj3];intro e;rw [←e,h.blk]at hg0
   cases hg0)
 have Uh:=hb2.trans h.blk
 have hno:∀e∈E.take j,e.2.2≠E[j].2.2:=by intro e he;rw [List.mem_take_iff_getElem]at he;obtain⟨i,hi,rfl⟩:=he;rw [(h.row i (by omega) (by rw [←h.len];omega)).2.1,r2];omega
 have hst:=yP (enc:=Ak) 163 E hj hno v' Uh;rw [r2]at hst;have YZ:=Kc (o:=.map (AH Ak (E.set j (E[j].1,v',j))).toArray E.length) Uh;refine⟨v',Z,_,hr,hgr,hst,YZ,⟨?_,?_,?_,?_,h.own⟩⟩
 ·rw [KY Uh];simp
 ·simp [h.len]
 ·intro i hi hi';have Mc:i<E.length:=(by simpa using hi);have Kt:i<R.length:=(by simpa using hi');by_cases Bl:j=i
  ·subst Bl;rw [List.getElem_set_self,List.getElem_modify_eq];refine⟨r1,rfl,?_⟩;have hl:(R[j].2 ++ [q]).length=R[j].2.length+1:=(by simp);simp only [hl];refine hown.kept YZ ?_
   rcases hown.2 with⟨hv,_⟩|⟨g0,cap,cur,hv,_,hg0,_⟩
   ·left;rw [hv];rfl
   ·right
    rw [hv];simp only [Value.ownBlock,ne_eq,Aj3];intro e;rw [e,Uh]at hg0
    cases hg0
  ·rw [List.getElem_set_ne Bl];have hm:(R.modify j (fun e=>(e.1,e.2 ++ [q])))[i]=R[i]:=(by rw [List.getElem_modify,if_neg Bl]);rw [hm];obtain⟨s1,s2,s3⟩:=h.row i Mc Kt;refine⟨s1,s2,(s3.kept hgr (h.apart i j Mc hj (fun e=>Bl e.symm))).kept YZ ?_⟩
   rcases s3.2 with⟨hv,_⟩|⟨g0,cap,cur,hv,_,hg0,_⟩
   ·left;rw [hv];rfl
   ·right
    rw [hv];simp only [Value.ownBlock,ne_eq,Aj3];intro e;rw [e,h.blk]at hg0
    cases hg0
 ·intro i k hi hk hik;have Mc:i<E.length:=(by simpa using hi);have Rn:k<E.length:=by simpa using hk
  have hlt:∀x (hx:x<E.length) (hx':x<R.length),E[x].2.1.ownBlock≠some Y.heap.size:=by
   intro x hx hx'
   rcases(h.row x hx hx').2.2.2 with⟨hv,_⟩|⟨g0,cap,cur,hv,_,hg0,_⟩
   ·rw [hv];simp [Value.ownBlock]
   ·rw [hv];have:=(Array.getElem?_eq_some_iff.1 hg0).1;simp only [Value.ownBlock,ne_eq,Aj3];omega
  by_cases Bl:j=i
  ·subst Bl;rw [List.getElem_set_self,List.getElem_set_ne hik]
   rcases hat with e|e
   ·rw [e];exact h.apart j k Mc Rn hik
   ·rw [e];right;exact fun e'=>hlt k Rn (by rw [←h.len];exact Rn) e'.symm
  ·rw [List.getElem_set_ne Bl];by_cases hjk:j=k
   ·subst hjk;rw [List.getElem_set_self]
    rcases hat with e|e
    ·rw [e];exact h.apart i j Mc Rn hik
    ·rw [e];right;exact hlt i Mc (by rw [←h.len];exact Mc)
   ·rw [List.getElem_set_ne hjk];exact h.apart i k Mc Rn hik
end
section
open Go.ChangeMaps (setBlock)
def stamp(L:List (Sg×Int)):List (Sg×Value×Nat):=L.mapIdx fun i e=>(e.1,.int .i64 e.2,i)
theorem D1(L:List (Sg×Int)):(stamp L).length=L.length:=by simp [stamp]
theorem zY(L:List (Sg×Int))(e:Sg×Int):stamp (L ++ [e])=stamp L ++ [(e.1,.int .i64 e.2,L.length)]:=by simp [stamp,List.mapIdx_append]
theorem dK{L:List (Sg×Int)}{x:Sg×Value×Nat}(h:x∈stamp L):∃e∈L,x.1=e.1:=by
 unfold stamp at h;rw [List.mem_mapIdx]at h;obtain⟨i,hi,rfl⟩:=h;exact⟨L[i],Aj0 hi,rfl⟩
theorem AgC{L:List (Sg×Int)}{x:Sg×Value×Nat}(h:x∈stamp L):x.2.2<L.length:=by
 unfold stamp at h;rw [List.mem_mapIdx]at h;obtain⟨i,hi,rfl⟩:=h;exact hi
structure Br(B:Nat)(W:World)(r b1 b2:Nat)(L:List (Sg×Int))(E:List (Pt×Value×Nat))(R:List (Pt×List Pt)):Prop where
 cell:W.heap[r]?=some (.cells #[.map (some b1),.map (some b2)] 165)
 left:W.heap[b1]?=some (.map (AH AC (stamp L)).toArray L.length)
 ar:D4 B W b2 E R
 r0:B<=r
 r1:B<=b1
 ne:b1≠b2
theorem uW{W:World}{b1:Nat}{L:List (Sg×Int)}(h:W.heap[b1]?=some (.map (AH AC (stamp L)).toArray L.length))(s:Sg)(hno:∀e∈L,AN s e.1=false)(z:Int) :
  ∃X,(Instr.mapEntry 162 (.map (some b1)) (AC s)).run Tryz.prog W=.ok (.tuple #[.int .i64 0,.int .i64 (L.length:Nat)]) X
   /\W.grownBy X (some b1)/\X.heap.size=W.heap.size
   /\∃Z,(Instr.entryStore 162 (.map (some b1)) (.int .i64 (L.length:Nat)) (.int .i64 z)).run Tryz.prog X=.ok () Z/\W.grownBy Z (some b1)/\Z.heap.size=W.heap.size/\Z.heap[b1]?=some (.map (AH AC (stamp (L ++ [(s,z)]))).toArray (L ++ [(s,z)]).length):=by
 have Ab8:∀e∈stamp L,AN s e.1=false:=by intro e he;obtain⟨x,hx,h1⟩:=dK he;rw [h1];exact hno x hx
 have h1:=cV UL s (stamp L) Ab8 (W:=W) h;have hb:=KY (o:=.map (AH AC (stamp L ++ [(s,.int .i64 0,L.length)])).toArray (L.length+1)) h;have hlt:L.length<(stamp L ++ [(s,Value.int .i64 0,L.length)]).length:=by simp [D1]
 have hge:(stamp L ++ [(s,Value.int .i64 0,L.length)])[L.length]=(s,.int .i64 0,L.length):=by rw [List.getElem_append_right (by rw [D1];omega)];simp [D1]
 have h2:=yP (enc:=AC) 162 (stamp L ++ [(s,.int .i64 0,L.length)]) hlt (by
  intro e he;rw [hge]
  have:e∈stamp L:=by rw [List.take_append_of_le_length (by rw [D1];omega),Aj7 (by rw [D1];omega)]at he;exact he
  have:=AgC this;show e.2.2≠L.length
  omega) (.int .i64 z) hb
 rw [hge]at h2
 have A7:(stamp L ++ [(s,Value.int .i64 0,L.length)]).set L.length (s,.int .i64 z,L.length)=stamp (L ++ [(s,z)]):=by rw [zY,List.set_append_right _ _ (by rw [D1];omega)];simp [D1]
 rw [A7]at h2;refine⟨_,h1,Kc h,by simp [setBlock],_,h2,?_,by simp [setBlock],?_⟩
 ·exact⟨rfl,rfl,rfl,by simp [setBlock],fun k _ hk=>by
   have hkb:k≠b1:=fun e=>hk (by rw [e])
   rw [Sr hkb,Sr hkb]⟩
 ·rw [KY hb];simp
end
section
open Go.ChangeMaps (setBlock)
theorem Oo{w w':World}{row:Option Nat}(hg:w.grownBy w' row){a:Addr}{v:Value}(h:w.cell? a=some v)(hn:some a.block≠row):w'.cell? a=some v:=by
 have hlt:a.block<w.heap.size:=by
  unfold World.cell? at h
  rcases Nat.lt_or_ge a.block w.heap.size with h'|h'
  ·exact h'
  ·simp [Array.getElem?_eq_none h']at h
 exact(World.cell?_of_block (hg.block a.block hlt hn)).trans h
theorem Ge{w w':World}(h:Ac w w')(row:Option Nat):w.grownBy w' row:=⟨h.os,h.tape,h.output,h.size,fun k hk _=>h.block k hk⟩
theorem MV{a b c:World}{row:Option Nat}(h:a.grownBy b row)(k:b.grownBy c row):a.grownBy c row:=
 ⟨k.os.trans h.os,k.tape.trans h.tape,k.output.trans h.output,Aj9 h.size k.size,fun i hi hr=>(k.block i (Aj8 hi h.size) hr).trans (h.block i hi hr)⟩
theorem below_grown{B:Nat}{w w':World}{b:Nat}(hg:w.grownBy w' (some b))(hb:B<=b)(hB:B<=w.heap.size):Below B w w':=
 ⟨hg.os,hg.tape,hg.output,hg.size,fun k hk=>hg.block k (by omega) (by intro e;cases e;omega)⟩
theorem Adg{W:World}{b1:Nat}{L:List (Sg×Int)}(h:W.heap[b1]?=some (.map (AH AC (stamp L)).toArray L.length))(s:Sg)(h1:∀e∈L,AN s e.1=false)(h2:∀e∈L,AN (AV s) e.1=false)(hne:AN (AV s) s=false)(y z:Int) :
  ∃(n1:Nat) (X Z X2 Z2:World),(Instr.mapEntry 162 (.map (some b1)) (AC s)).run Tryz.prog W=.ok (.tuple #[.int .i64 0,.int .i64 (L.length:Nat)]) X
   /\(Instr.entryStore 162 (.map (some b1)) (.int .i64 (L.length:Nat)) (.int .i64 y)).run Tryz.prog X=.ok () Z
   /\(Instr.mapEntry 162 (.map (some b1)) (AC (AV s))).run Tryz.prog Z=.ok (.tuple #[.int .i64 0,.int .i64 (n1:Nat)]) X2
   /\(Instr.entryStore 162 (.map (some b1)) (.int .i64 (n1:Nat)) (.int .i64 z)).run Tryz.prog X2=.ok () Z2
   /\W.grownBy X (some b1)/\W.grownBy Z (some b1)/\W.grownBy X2 (some b1)/\W.grownBy Z2 (some b1)/\Z2.heap.size=W.heap.size/\Z2.heap[b1]?=some (.map (AH AC (stamp (L ++ [(s,y),(AV s,z)]))).toArray (L ++ [(s,y),(AV s,z)]).length):=by
 obtain⟨X,e1,g1,s1,Z,e2,g2,s2,hb⟩:=uW h s h1 y
 obtain⟨X2,e3,g3,s3,Z2,e4,g4,s4,hb2⟩:=uW hb (AV s) (by
  intro e he
  rcases List.mem_append.1 he with he|he
  ·exact h2 e he
  ·simp only [AjB]at he;subst he;exact hne) z
 have hl:(L ++ [(s,y)]).length=L.length+1:=(by simp);rw [hl]at e3 e4;rw [List.append_assoc]at hb2;exact⟨L.length+1,X,Z,X2,Z2,e1,e2,e3,e4,g1,g2,MV g2 g3,MV g2 g4,by omega,hb2⟩
section
variable {ops : Array Oper} {o : Oper} {a : Act} {K : Act → World → Prop} {Q : Exit → Act → World → Prop} {E : Prop}
theorem zZ(hgd:o.guard=none)(s x:Operand)(ho:o.op=.call {callee:=.builtin .append,args:=#[s,x],argTypes:=#[31,31]})
  {v u v':Value} {w Z:World} (hs:a.eval s=v) (hx:a.eval x=u) (hr:(Builtin.append_ #[31,31] o.type #[v,u]).run Tryz.prog w=.ok v' Z) (h:K (a.put o.dst v') Z) :
  if Region.wanted o (yielded ops a.tmps)=true then Oper.wp Tryz.prog o a w K Q else E:=by
 have hw:Region.wanted o (yielded ops a.tmps)=true:=(by simp [Region.wanted,hgd]);rw [if_pos hw];unfold Oper.wp execOp;simp only [ho,resolve,invoke,builtin,Sem.run_bind,Sem.run_pure,Result.andThen_ok,List.map_toArray,List.map_cons,List.map_nil,hs,hx,hr];exact h
end
def BH(b2:Nat)(W V:World):Prop:=W.heap.size<=V.heap.size/\∀k o,W.heap[k]?=some o→k≠b2→(∀cs,o≠.cells cs 27 (0,0))→V.heap[k]?=some o
theorem BH.trans{b2:Nat}{a b c:World}(h:BH b2 a b)(k:BH b2 b c):BH b2 a c:=
 ⟨Aj9 h.1 k.1,fun i o h1 h2 h3=>k.2 i o (h.2 i o h1 h2 h3) h2 h3⟩
theorem BH.of_ext{b2:Nat}{a b:World}(h:Ac a b):BH b2 a b:=⟨h.size,fun i _ h1 _ _=>(h.block i (Array.getElem?_eq_some_iff.1 h1).1).trans h1⟩
theorem BH.of_grown{b2:Nat}{a b:World}(h:a.grownBy b (some b2)):BH b2 a b:=⟨h.size,fun i _ h1 h2 _=>(h.block i (Array.getElem?_eq_some_iff.1 h1).1 (by simp;exact h2)).trans h1⟩
theorem iI{R:List (Pt×List Pt)}{p:Pt}{n:Nat}(h:∀e∈R,e.2.length<=n):∀e∈Ga R p,e.2.length<=n:=by
 unfold Ga
 split
 ·exact h
 ·intro e he
  rcases List.mem_append.1 he with he|he
  ·exact h e he
  ·simp only [AjB]at he;subst he;simp
theorem WE{R:List (Pt×List Pt)}{p q:Pt}{n:Nat}(h:∀e∈R,e.2.length<=n):∀e∈CZ R p q,e.2.length<=n+1:=by
 intro e he;unfold CZ at he;obtain⟨i,hi,rfl⟩:=List.getElem_of_mem he;rw [List.getElem_modify];have hi':i<(Ga R p).length:=(by simpa using hi);have:=iI (p:=p) h _ (Aj0 hi')
 split
 ·simp;omega
 ·omega
theorem iJ{B:Nat}{W:World}{b2:Nat}{E:List (Pt×Value×Nat)}{R0:List (Pt×List Pt)}(h:D4 B W b2 E R0)(hB:B<=W.heap.size)(p q:Pt)(hn:∀e∈R0,e.2.length<=100000) :
  ∃(j:Nat) (v v':Value) (X Z Z':World) (E':List (Pt×Value×Nat)),
   (Instr.mapEntry 163 (.map (some b2)) (Ak p)).run Tryz.prog (W.alloc (.cells #[S (R q.x),S (R q.y)] 27)).drew=.ok (.tuple #[v,.int .i64 (j:Nat)]) X
   /\(∀ty,ty=31→(Builtin.append_ #[31,31] ty #[v,.slice (some ⟨W.heap.size,0,none⟩) 1 1]).run Tryz.prog X=.ok v' Z)
   /\(Instr.entryStore 163 (.map (some b2)) (.int .i64 (j:Nat)) v').run Tryz.prog Z=.ok () Z'
   /\BH b2 W X/\BH b2 W Z/\BH b2 W Z'/\Below B W Z'/\D4 B Z' b2 E' (CZ R0 p q):=by
 have hx:=((Ac.refl W).alloc (.cells #[S (R q.x),S (R q.y)] 27)).drew;have hg0:(W.alloc (.cells #[S (R q.x),S (R q.y)] 27)).drew.heap[W.heap.size]?=_:=Ajy W (.cells #[S (R q.x),S (R q.y)] 27);have hA:=h.keep (Ge hx none);obtain⟨X,E1,hA1,g1,s1,hj,hj',hk,hrun,hX⟩:=hA.entry p;have hgX:X.heap[W.heap.size]?=some (.cells #[S (R q.x),S (R q.y)] 27):=(g1.block _ (by simp) (by have:=h.lt;simp;omega)).trans hg0;have mT:B<=X.heap.size:=by rw [s1];simp;omega
 have hlen:((Ga R0 p)[F8 R0 p]).2.length<200000:=by have:=iI hn _ (Aj0 hj');omega
 obtain⟨v',Z,Z',hr,gZ,hst,mL,hA2⟩:=hA1.append mT hj hj' hlen q hgX 31;have dI:BH b2 W X:=(BH.of_ext hx).trans (BH.of_grown g1)
 have zX:BH b2 X Z:=by
  refine⟨gZ.size,fun k o h1 _ h3=>(gZ.block k (Array.getElem?_eq_some_iff.1 h1).1 ?_).trans h1⟩
  rcases(hA1.row _ hj hj').2.2.2 with⟨hv,_⟩|⟨g,cap,cur,hv,_,hg,_⟩
  ·rw [hv];simp [Value.ownBlock]
  ·rw [hv];simp only [Value.ownBlock,ne_eq,Aj3];intro e;rw [e,hg]at h1;exact h3 cur (Option.some.inj h1).symm
 have bZ:Below B X Z:=⟨gZ.os,gZ.tape,gZ.output,gZ.size,fun k hkB=>gZ.block k (by omega) (by
  rcases(hA1.row _ hj hj').2.2.2 with⟨hv,_⟩|⟨g,cap,cur,hv,hb,_⟩
  ·rw [hv];simp [Value.ownBlock]
  ·rw [hv];simp only [Value.ownBlock,ne_eq,Aj3];omega)⟩
 have bb:=h.own;have TK:B<=Z.heap.size:=Aj9 mT gZ.size;have qs:Below B W Z':=((Below.mono hx hB).trans (below_grown g1 bb (by simp;omega))).trans (bZ.trans (below_grown mL bb TK));refine⟨F8 R0 p,E1[F8 R0 p].2.1,v',X,Z,Z',_,?_,?_,hst,dI,dI.trans zX,dI.trans (zX.trans (BH.of_grown mL)),qs,hA2⟩
 ·rw [hX];exact hrun _ rfl
 ·intro ty Dq;subst Dq;exact hr
theorem WF{B:Nat}{w:World}{r b1 b2:Nat}{L:List (Sg×Int)}{E:List (Pt×Value×Nat)}{R0:List (Pt×List Pt)}(h:Br B w r b1 b2 L E R0)(hB:B<=w.heap.size)(s:Sg)(y z:Int)
  (h1:∀e∈L,AN s e.1=false) (h2:∀e∈L,AN (AV s) e.1=false) (hne:AN (AV s) s=false) (hn:∀e∈R0,e.2.length<=90000) :
  Calls Tryz.prog 121 #[.pointer (some ⟨r,0,none⟩),AC s,.int .i64 y,.int .i64 z] w (fun e w'=>e=.returned (.tuple #[])/\Below B w w'/\(∀k o,w.heap[k]?=some o→k≠b1→k≠b2→(∀cs,o≠.cells cs 27 (0,0))→w'.heap[k]?=some o)/\∃E',Br B w' r b1 b2 (L ++ [(s,y),(AV s,z)]) E' (CZ (CZ R0 s.a s.b) s.b s.a)):=by
 have hE:=(Ac.refl w).alloc (.cells #[S (R s.a.x),S (R s.a.y),S (R s.b.x),S (R s.b.y)] 175);have B8:=Ajy w (.cells #[S (R s.a.x),S (R s.a.y),S (R s.b.x),S (R s.b.y)] 175);obtain⟨hc,hl,ha,hr0,hr1,Bf⟩:=h;have hcl:=Ajx hc;have Ed:=(Array.getElem?_eq_some_iff.1 hl).1;have O6:=ha.lt;have bk:=Ts s;unfold AC at bk;unfold AC;go_enter Tryz.func121,Tryz.ntmps121
 go_upto_region 1 with fail
 replace hc:=(hE.block r hcl).trans hc;replace hl:=(hE.block b1 Ed).trans hl;replace ha:=ha.keep (Ge hE none);generalize hV:w.alloc (.cells #[S (R s.a.x),S (R s.a.y),S (R s.b.x),S (R s.b.y)] 175)=V at *;obtain⟨bs,QX⟩:=Ajv w.heap.size;rw [←QX]at B8 ⊢;have nr:b1≠r:=(by intro e;rw [e,hc]at hl;cases hl);have ns:b1≠bs:=(by omega);have nbs:B<=bs:=(by omega);have nrs:r≠bs:=(by omega);have aM:b2≠bs:=(by omega);have nle:w.heap.size<=bs:=(by omega);have HV:=Ajw hV;clear QX hV
 have SO:∀w',V.grownBy w' (some b1)→(w'.cell? ⟨r,0,none⟩=some (.map (some b1))/\w'.cell? ⟨r,1,none⟩=some (.map (some b2))/\w'.cell? ⟨bs,0,none⟩=some (S (R s.a.x))/\w'.cell? ⟨bs,1,none⟩=some (S (R s.a.y))/\w'.cell? ⟨bs,2,none⟩=some (S (R s.b.x))/\w'.cell? ⟨bs,3,none⟩=some (S (R s.b.y))):=fun w' hg=>⟨Oo hg (Aa hc rfl) (by simp;omega),Oo hg (Aa hc rfl) (by simp;omega),Oo hg (Aa B8 rfl) (by simp;omega),Oo hg (Aa B8 rfl) (by simp;omega),Oo hg (Aa B8 rfl) (by simp;omega),Oo hg (Aa B8 rfl) (by simp;omega)⟩
 have t0:V.grownBy V.drew (some b1):=Ge (Ac.refl V).drew _
 go_region_held3 (fun w'=>w'.cell? ⟨r,0,none⟩=some (.map (some b1))/\w'.cell? ⟨r,1,none⟩=some (.map (some b2))/\w'.cell? ⟨bs,0,none⟩=some (S (R s.a.x))/\w'.cell? ⟨bs,1,none⟩=some (S (R s.a.y))/\w'.cell? ⟨bs,2,none⟩=some (S (R s.b.x))/\w'.cell? ⟨bs,3,none⟩=some (S (R s.b.y)))
  (first|with_reducible exact SO _ t0|with_reducible exact SO _ t1|with_reducible exact SO _ t2|with_reducible exact SO _ t3|with_reducible exact SO _ t4|with_reducible exact SO _ t5)
  (first|((with_reducible refine(bk _).mono ?_);rintro e w1 ⟨rfl,hx1⟩;have t1:V.grownBy w1 (some b1):=MV t0 (Ge hx1 _);obtain⟨n1,X,Z,X2,Z2,e1,e2,e3,e4,u1,u2,u3,u4,u5,u6⟩:=Adg (((Ac.refl V).drew.trans hx1).block b1 (Ajx hl) |>.trans hl) s h1 h2 hne y z;have t2:=MV t1 u1;have t3:=MV t1 u2;have t4:=MV t1 u3;have t5:=MV t1 u4;unfold AC at e1 e3))
 have gz:V.grownBy Z2 (some b1):=t5;have UR:r≠b2:=(by intro e;rw [e,ha.blk]at hc;cases hc);have hc1:=(gz.block r (Ajx hc) (by simp;omega)).trans hc;have hb1:=(gz.block bs (Ajx B8) (by simp;omega)).trans B8;have Nk:D4 B V b2 E R0:=ha
 have oY:D4 B Z2 b2 E R0:=by
  refine⟨(gz.block b2 Nk.lt (by simp;omega)).trans Nk.blk,Nk.len,fun i hi hi'=>?_,Nk.apart,Nk.own⟩;obtain⟨s1,s2,s3⟩:=Nk.row i hi hi';refine⟨s1,s2,s3.kept gz ?_⟩
  rcases s3.2 with⟨hv,_⟩|⟨g,cap,cur,hv,_,hg,_⟩
  ·left;rw [hv];rfl
  ·right
   rw [hv];simp only [Value.ownBlock,ne_eq,Aj3];intro e;rw [e,hl]at hg
   cases hg
 have MG:=Ajw u6;have GZ:=Ajw (show ∀k o,w.heap[k]?=some o→k≠b1→Z2.heap[k]?=some o from fun k o q1 q2=>(gz.block k (Aj8 (Array.getElem?_eq_some_iff.1 q1).1 hE.size) (by simp;exact q2)).trans ((hE.block k (Array.getElem?_eq_some_iff.1 q1).1).trans q1));have bz:Below B w Z2:=(Below.mono hE hB).trans (below_grown gz hr1 (by have:=hE.size;omega));have BZ:=Ajw bz;have HC:=Ajw hc;have TK:B<=Z2.heap.size:=(by have:=gz.size;have:=hE.size;omega);clear SO t0 t1 t2 t3 t4 t5 e1 e2 e3 e4 u1 u2 u3 u4 u5 u6 ha Nk hc hl B8 hx1 bz gz;obtain⟨j1,v1,u1,X1,Y1,Q1,E1,c1,c2,c3,y1,y2,y3,y4,y5⟩:=iJ oY TK s.a s.b (fun e he=>Aj9 (hn e he) (by omega));replace c2:=c2 _ rfl
 have NY:∀w',BH b2 Z2 w'→(w'.cell? ⟨r,0,none⟩=some (.map (some b1))/\w'.cell? ⟨r,1,none⟩=some (.map (some b2))/\w'.cell? ⟨bs,0,none⟩=some (S (R s.a.x))/\w'.cell? ⟨bs,1,none⟩=some (S (R s.a.y))/\w'.cell? ⟨bs,2,none⟩=some (S (R s.b.x))/\w'.cell? ⟨bs,3,none⟩=some (S (R s.b.y))):=fun w' hg=>
  have z1:=hg.2 r _ hc1 UR (by intro cs e;cases e);have z2:=hg.2 bs _ hb1 (fun e=>aM e.symm) (by intro cs e;cases e)
  ⟨Aa z1 rfl,Aa z1 rfl,Aa z2 rfl,Aa z2 rfl,Aa z2 rfl,Aa z2 rfl⟩
 have t0:BH b2 Z2 Z2.drew:=BH.of_ext (Ac.refl Z2).drew;have t1:BH b2 Z2 (Z2.alloc (.cells #[S (R (s.b).x),S (R (s.b).y)] 27)).drew:=BH.of_ext ((Ac.refl _).alloc _).drew;unfold Ak at c1;(go_wp2_with fail)
 go_region_held3 (fun w'=>w'.cell? ⟨r,0,none⟩=some (.map (some b1))/\w'.cell? ⟨r,1,none⟩=some (.map (some b2))/\w'.cell? ⟨bs,0,none⟩=some (S (R s.a.x))/\w'.cell? ⟨bs,1,none⟩=some (S (R s.a.y))/\w'.cell? ⟨bs,2,none⟩=some (S (R s.b.x))/\w'.cell? ⟨bs,3,none⟩=some (S (R s.b.y)))
  (first|with_reducible exact NY _ t0|with_reducible exact NY _ t1|with_reducible exact NY _ y1|with_reducible exact NY _ y2|with_reducible exact NY _ y3)
  (first|(refine zZ (s:=.tmp 31) (x:=.tmp 34) ?hgd ?ho ?hs ?hx c2 ?h;(case hgd=>rfl);(case ho=>rfl);(case hs=>rfl);(case hx=>rfl)))
 have haQ:=y5;have hBQ:B<=Q1.heap.size:=Aj9 TK y3.1;have hc2:=y3.2 r _ hc1 UR (by intro cs e;cases e);have Y9:=y3.2 bs _ hb1 (fun e=>aM e.symm) (by intro cs e;cases e);have Y3:=Ajw y3;have Y4:=Ajw y4;clear NY t0 t1 c1 c2 c3 y1 y2 y3 y4 y5 oY hc1 hb1;obtain⟨j2,v2,u2,X2',Y2',Q2,E2,c1,c2,c3,y1,y2,VC,y4',y5'⟩:=iJ haQ hBQ s.b s.a (fun e he=>Aj9 (WE hn e he) (by omega));replace c2:=c2 _ rfl
 have Qa:∀w',BH b2 Q1 w'→(w'.cell? ⟨r,0,none⟩=some (.map (some b1))/\w'.cell? ⟨r,1,none⟩=some (.map (some b2))/\w'.cell? ⟨bs,0,none⟩=some (S (R s.a.x))/\w'.cell? ⟨bs,1,none⟩=some (S (R s.a.y))/\w'.cell? ⟨bs,2,none⟩=some (S (R s.b.x))/\w'.cell? ⟨bs,3,none⟩=some (S (R s.b.y))):=fun w' hg=>
  have z1:=hg.2 r _ hc2 UR (by intro cs e;cases e);have z2:=hg.2 bs _ Y9 (fun e=>aM e.symm) (by intro cs e;cases e)
  ⟨Aa z1 rfl,Aa z1 rfl,Aa z2 rfl,Aa z2 rfl,Aa z2 rfl,Aa z2 rfl⟩
 have t0:BH b2 Q1 Q1.drew:=BH.of_ext (Ac.refl Q1).drew;have t1:BH b2 Q1 (Q1.alloc (.cells #[S (R (s.a).x),S (R (s.a).y)] 27)).drew:=BH.of_ext ((Ac.refl _).alloc _).drew;unfold Ak at c1;(go_wp2_with fail)
 go_region_held3 (fun w'=>w'.cell? ⟨r,0,none⟩=some (.map (some b1))/\w'.cell? ⟨r,1,none⟩=some (.map (some b2))/\w'.cell? ⟨bs,0,none⟩=some (S (R s.a.x))/\w'.cell? ⟨bs,1,none⟩=some (S (R s.a.y))/\w'.cell? ⟨bs,2,none⟩=some (S (R s.b.x))/\w'.cell? ⟨bs,3,none⟩=some (S (R s.b.y)))
  (first|with_reducible exact Qa _ t0|with_reducible exact Qa _ t1|with_reducible exact Qa _ y1|with_reducible exact Qa _ y2|with_reducible exact Qa _ VC)
  (first|(refine zZ (s:=.tmp 44) (x:=.tmp 47) ?hgd ?ho ?hs ?hx c2 ?h;(case hgd=>rfl);(case ho=>rfl);(case hs=>rfl);(case hx=>rfl)))
 go_wp2
 go_end0
 refine⟨rfl,(BZ.out.trans Y4.out).trans y4',fun k o q1 q2 q3 q4=>VC.2 k o (Y3.out.2 k o (GZ.out k o q1 q2) q3 q4) q3 q4,E2,⟨VC.2 r _ hc2 UR (by intro cs e;cases e),VC.2 b1 _ (Y3.out.2 b1 _ MG.out Bf (by intro cs e;cases e)) Bf (by intro cs e;cases e),y5',hr0,hr1,Bf⟩⟩
end
section
open Go.ChangeMaps (setBlock)
def Be(pts:List Pt)(e:EdZ):Sg:=⟨DV pts e.f,DV pts e.t⟩
def AG(pts:List Pt)(l:List EdZ):List (Sg×Int):=l.flatMap fun e=>[(Be pts e,e.l),(AV (Be pts e),e.r)]
def BD(pts:List Pt)(l:List EdZ):List (Pt×List Pt):=l.foldl (fun R0 e=>CZ (CZ R0 (Be pts e).a (Be pts e).b) (Be pts e).b (Be pts e).a) []
theorem UV(pts:List Pt)(l:List EdZ)(e:EdZ):AG pts (l ++ [e])=AG pts l ++ [(Be pts e,e.l),(AV (Be pts e),e.r)]:=by simp [AG]
theorem UW(pts:List Pt)(l:List EdZ)(e:EdZ):BD pts (l ++ [e])=CZ (CZ (BD pts l) (Be pts e).a (Be pts e).b) (Be pts e).b (Be pts e).a:=by simp [BD]
theorem vS(pts:List Pt):∀(l:List EdZ) (R0:List (Pt×List Pt)) (n:Nat),(∀e∈R0,e.2.length<=n)→∀e∈l.foldl (fun R0 e=>CZ (CZ R0 (Be pts e).a (Be pts e).b) (Be pts e).b (Be pts e).a) R0,e.2.length<=n+2*l.length
 | [],_,_,h=>by simpa using h
 | x::l,R0,n,h=>by intro e he;rw [List.foldl_cons]at he;have:=vS pts l _ (n+1+1) (WE (WE h)) e he;rw [List.length_cons];omega
theorem Pe(pts:List Pt)(l:List EdZ):∀e∈BD pts l,e.2.length<=2*l.length:=by
 intro e he;have:=vS pts l [] 0 (by simp) e he;omega
theorem Afn{w:World}{b o:Nat}{cs:List Value}(h:Ae w (some ⟨b,o,none⟩) cs)(hl:0<cs.length):b<w.heap.size:=by
 obtain⟨b',o',e,hc⟩:=h.ad hl;have e2:(⟨b,o,none⟩:Addr)=⟨b',o',none⟩:=Option.some.inj e;obtain rfl:b=b':=(by injection e2);have h1:=hc 0 hl;unfold World.cell? at h1
 rcases Nat.lt_or_ge b w.heap.size with h'|h'
 ·exact h'
 ·simp [Array.getElem?_eq_none h']at h1
theorem Tu{B:Nat}{w w':World}(h:Below B w w'){a:Addr}{v:Value}(hb:a.block<B)(hv:w.cell? a=some v):w'.cell? a=some v:=(World.cell?_of_block (h.block _ hb)).trans hv
theorem wV{w:World}{B B':Nat}{e:TypeId}{size:Nat}{v:Value}{n:Nat}{xs:List Value}(h:w.ownsRow B e size v n xs)(hB:B'<=B):w.ownsRow B' e size v n xs:=by
 refine⟨h.1,?_⟩
 rcases h.2 with h'|⟨g,cap,cur,h1,h2,h3⟩
 ·exact .inl h'
 ·exact .inr ⟨g,cap,cur,h1,Aj9 hB h2,h3⟩
theorem Br.ext{B:Nat}{W W':World}{r b1 b2:Nat}{L:List (Sg×Int)}{E:List (Pt×Value×Nat)}{R0:List (Pt×List Pt)}(h:Br B W r b1 b2 L E R0)(hx:Ac W W'):Br B W' r b1 b2 L E R0:=
 ⟨(hx.block _ (Ajx h.cell)).trans h.cell,(hx.block _ (Array.getElem?_eq_some_iff.1 h.left).1).trans h.left,h.ar.keep (Ge hx none),h.r0,h.r1,h.ne⟩
structure MD(pts:List Pt)(l:List EdZ):Prop where
 rng:∀e∈l,0<=e.f/\0<=e.t/\e.f<(pts.length:Int)/\e.t<(pts.length:Int)
 ne:∀e∈l,AN (AV (Be pts e)) (Be pts e)=false
 dis:∀j (h:j<l.length),∀e∈l.take j,AN (Be pts l[j]) (Be pts e)=false/\AN (Be pts l[j]) (AV (Be pts e))=false/\AN (AV (Be pts l[j])) (Be pts e)=false/\AN (AV (Be pts l[j])) (AV (Be pts e))=false
theorem MD.keys{pts:List Pt}{l:List EdZ}(h:MD pts l){j:Nat}(hj:j<l.length):(∀e∈AG pts (l.take j),AN (Be pts l[j]) e.1=false)/\(∀e∈AG pts (l.take j),AN (AV (Be pts l[j])) e.1=false):=by
 constructor
 all_goals
  intro e he;unfold AG at he;rw [List.mem_flatMap]at he;obtain⟨x,hx,he⟩:=he;obtain⟨d1,d2,d3,d4⟩:=h.dis j hj x hx;simp only [List.mem_cons,AjA,or_false]at he
  rcases he with rfl|rfl<;>assumption
theorem lM{w:World} : Br w.heap.size (MU w) (w.heap.size+1+1) w.heap.size (w.heap.size+1) [] [] []:=by
 unfold MU;have h0:=Ajy w (.map #[] 0);have h1:=Ajy (w.alloc (.map #[] 0)) (.map #[] 0);have h2:=Ajy ((w.alloc (.map #[] 0)).alloc (.map #[] 0)) (.cells #[.map (some w.heap.size),.map (some (w.heap.size+1))] 165);simp only [Aj6]at h1 h2;have x1:=((Ac.refl (w.alloc (.map #[] 0))).alloc (.map #[] 0)).alloc (.cells #[.map (some w.heap.size),.map (some (w.heap.size+1))] 165);have x2:=(Ac.refl ((w.alloc (.map #[] 0)).alloc (.map #[] 0))).alloc (.cells #[.map (some w.heap.size),.map (some (w.heap.size+1))] 165);exact⟨h2,(x1.block _ (by simp)).trans h0,⟨(x2.block _ (by simp)).trans h1,rfl,fun i hi=>by simp at hi,fun i _ hi=>by simp at hi,by omega⟩,by omega,Ajz _,by omega⟩
theorem Vb(m:MapZ)(A B F:Option Addr)(c d g:Nat)(An:Bj m c d g)(Ap:MD m.pts m.eds)(hle:m.eds.length<=1200)(w:World)(hA:Ae w A (flat (Ai m.pts)))(hB:Ae w B (Au m.eds)) :
  Calls Tryz.prog 106 #[As A B F m c d g] w (fun e w'=>∃r b1 b2 E,e=.returned (.pointer (some ⟨r,0,none⟩))/\Ac w w'/\Br w.heap.size w' r b1 b2 (AG m.pts m.eds) E (BD m.pts m.eds)):=by
 obtain⟨c1,c2,d1,d2,g1,g2⟩:=An;have hM:=Ajy w (.cells #[.slice A m.pts.length c,.slice B m.eds.length d,.slice F m.nf g] 35);have hE:=(Ac.refl w).alloc (.cells #[.slice A m.pts.length c,.slice B m.eds.length d,.slice F m.nf g] 35);unfold As;go_enter Tryz.func106,Tryz.ntmps106
 go_upto_region 1 with fail
 have hA:=hA.ext hE;have hB:=hB.ext hE;generalize w.alloc (.cells #[.slice A m.pts.length c,.slice B m.eds.length d,.slice F m.nf g] 35)=V at *;obtain⟨bm,AD⟩:=Ajv w.heap.size;have pN:bm<V.heap.size:=(by have:=Ajx hM;omega);rw [←AD]at hM ⊢;clear AD;have em:=lN V;have en:=@lM V
 have eb:Below V.heap.size V (MU V):=((Ac.refl V).alloc _).alloc _ |>.alloc _
 generalize MU V=V0 at *;obtain⟨r,hr⟩:=Ajv (V.heap.size+1+1);obtain⟨b2,hb2⟩:=Ajv (V.heap.size+1);obtain⟨b1,hb1⟩:=Ajv V.heap.size;rw [←hr]at em en;rw [←hb2]at en;have yi:Br V.heap.size V0 r b1 b2 [] [] []:=(by rw [hb1];exact en);clear hr hb2 hb1 en;have Ng:∀w',Ac V w'→w'.heap[bm]?=some (.cells #[.slice A m.pts.length c,.slice B m.eds.length d,.slice F m.nf g] 35):=fun w' h=>(h.block _ pN).trans hM;have m1:=Aa (o:=1) (Ng V0 eb) rfl;(go_wp2_with fail);(with_reducible refine em.mono ?_);rintro e w1 ⟨rfl,hw1⟩;rw [hw1];clear hw1
 go_upto_region 3 with fail
 clear m1 em
 go_loopw [10] (fun i wr=>∃j:Nat,i=.int .i64 (j:Nat)/\j<=m.eds.length/\Below V.heap.size V wr/\∃E,Br V.heap.size wr r b1 b2 (AG m.pts (m.eds.take j)) E (BD m.pts (m.eds.take j))) (fun i _=>m.eds.length-(intOf i).toNat)
 case atStart=>exact⟨0,rfl,by omega,eb,[],by simpa [AG,BD]using yi⟩
 case round=>
  obtain⟨j,rfl,hj,Km,E,hN⟩:=hrel;have Ag:Ac V wr:=Km;by_cases hlt:j<m.eds.length
  ·have hj0:(0:Int)<=(j:Int):=(by omega);have AP:(j:Int)<(m.eds.length:Int):=(by omega);obtain⟨b,o,rfl,hg1,hg2,hg3,hg4⟩:=KV (hB.ext Ag) hlt;have DL:=Ap.keys hlt;have hne:=Ap.ne _ (Aj0 hlt);have hrg:=Ap.rng _ (Aj0 hlt);have hrl:=Pe m.pts (m.eds.take j);have RA:=UV m.pts (m.eds.take j) m.eds[j];have RB:=UW m.pts (m.eds.take j) m.eds[j];rw [←Aj2 hlt]at RA RB;obtain⟨e,he⟩:=Ajv (m.eds[j]);rw [←he]at hg1 hg2 hg3 hg4 DL hne hrg RA RB;clear he;obtain⟨ef,Np⟩:∃n:Nat,e.f=(n:Int):=⟨e.f.toNat,by omega⟩;obtain⟨et,Nq⟩:∃n:Nat,e.t=(n:Int):=⟨e.t.toNat,by omega⟩;have OA:ef<m.pts.length:=(by omega);have OB:et<m.pts.length:=(by omega);rw [Np]at hg1;rw [Nq]at hg2;obtain⟨ba,oa,rfl,ha1,ha2⟩:=BW (hA.ext Ag) OA;obtain⟨b3,o3,Jm,Y5,Y6⟩:=BW (hA.ext Ag) OB;have fp:=Ajw (Afn hA (by rw [flat_length];simp [Ai];omega));obtain⟨rfl,rfl⟩:ba=b3/\oa=o3:=by simpa using Jm
   have hs:Be m.pts e=⟨m.pts[ef],m.pts[et]⟩:=by unfold Be DV;rw [Np,Nq];simp [OA,OB]
   obtain⟨pa,Fl⟩:=Ajv (m.pts[ef]);obtain⟨pb,OL⟩:=Ajv (m.pts[et]);rw [←Fl]at ha1 ha2 hs;rw [←OL]at Y5 Y6 hs;rw [hs]at DL hne RA RB;have f0:(0:Int)<=(ef:Int):=(by omega);have f1:(ef:Int)<(m.pts.length:Int):=(by omega);have f2:(0:Int)<=(et:Int):=(by omega);have f3:(et:Int)<(m.pts.length:Int):=(by omega);have hx1:=(Ac.refl wr).alloc (.cells #[.int .i64 (ef:Nat),.int .i64 (et:Nat),.int .i64 e.l,.int .i64 e.r] 118);have AB:=Ajy wr (.cells #[.int .i64 (ef:Nat),.int .i64 (et:Nat),.int .i64 e.l,.int .i64 e.r] 118);have Ip:=Ajw RA;have ki:=Ajw RB;clear RA RB hs Fl OL Jm hrg Np Nq
   go_upto_region 5 with fail
   have Gg:=(hN.ext hx1).ext (Ac.refl _).drew;have Ep:=Ng _ (Ag.trans hx1);have k1:=hx1.cellS ha1;have k2:=hx1.cellS ha2;have k3:=hx1.cellS Y5;have k4:=hx1.cellS Y6;have qP:=Ag.trans hx1;generalize wr.alloc (.cells #[.int .i64 (ef:Nat),.int .i64 (et:Nat),.int .i64 e.l,.int .i64 e.r] 118)=W1 at *;obtain⟨be,pQ⟩:=Ajv wr.heap.size;rw [←pQ]at AB ⊢;clear pQ ha1 ha2 Y5 Y6 hg1 hg2 hg3 hg4;have ad:=WF Gg (by have:=qP.size;show V.heap.size<=W1.heap.size;exact this) ⟨pa,pb⟩ e.l e.r DL.1 DL.2 hne (fun x hx=>by have:=hrl x hx;rw [List.length_take]at this;omega);unfold AC at ad
   have SO:∀w',Ac W1 w'→(w'.cell? ⟨bm,0,none⟩=some (.slice (some ⟨ba,oa,none⟩) m.pts.length c)/\w'.cell? ⟨be,0,none⟩=some (.int .i64 (ef:Nat))/\w'.cell? ⟨be,1,none⟩=some (.int .i64 (et:Nat))/\w'.cell? ⟨be,2,none⟩=some (.int .i64 e.l)/\w'.cell? ⟨be,3,none⟩=some (.int .i64 e.r)/\w'.cell? ⟨ba,oa+ef*2,none⟩=some (S (R pa.x))/\w'.cell? ⟨ba,oa+ef*2+1,none⟩=some (S (R pa.y))/\w'.cell? ⟨ba,oa+et*2,none⟩=some (S (R pb.x))/\w'.cell? ⟨ba,oa+et*2+1,none⟩=some (S (R pb.y))):=fun w' h=>⟨h.cellS (Aa Ep rfl),h.cellS (Aa AB rfl),h.cellS (Aa AB rfl),h.cellS (Aa AB rfl),h.cellS (Aa AB rfl),h.cellS k1,h.cellS k2,h.cellS k3,h.cellS k4⟩
   have UT:be≠b1:=(by intro e;have q:=Gg.left;rw [←e]at q;cases (show W1.heap[be]?=_ from q).symm.trans AB);have Mv:be≠b2:=(by intro e;have q:=Gg.ar.blk;rw [←e]at q;cases (show W1.heap[be]?=_ from q).symm.trans AB);have Av:ba<V.heap.size:=fp.out;have X:Ac W1 W1:=Ac.refl W1;have Xd:=X.drew
   go_region_held3 (fun w'=>w'.cell? ⟨bm,0,none⟩=some (.slice (some ⟨ba,oa,none⟩) m.pts.length c)/\w'.cell? ⟨be,0,none⟩=some (.int .i64 (ef:Nat))/\w'.cell? ⟨be,1,none⟩=some (.int .i64 (et:Nat))/\w'.cell? ⟨be,2,none⟩=some (.int .i64 e.l)/\w'.cell? ⟨be,3,none⟩=some (.int .i64 e.r)/\w'.cell? ⟨ba,oa+ef*2,none⟩=some (S (R pa.x))/\w'.cell? ⟨ba,oa+ef*2+1,none⟩=some (S (R pa.y))/\w'.cell? ⟨ba,oa+et*2,none⟩=some (S (R pb.x))/\w'.cell? ⟨ba,oa+et*2+1,none⟩=some (S (R pb.y)))
    (first|with_reducible exact SO _ Xd|exact S5)
    (first|((with_reducible refine ad.mono ?_);rintro _ w5 ⟨rfl,hb5,hs5,E5,Nh⟩;have S5:(w5.cell? ⟨bm,0,none⟩=some (.slice (some ⟨ba,oa,none⟩) m.pts.length c)/\w5.cell? ⟨be,0,none⟩=some (.int .i64 (ef:Nat))/\w5.cell? ⟨be,1,none⟩=some (.int .i64 (et:Nat))/\w5.cell? ⟨be,2,none⟩=some (.int .i64 e.l)/\w5.cell? ⟨be,3,none⟩=some (.int .i64 e.r)/\w5.cell? ⟨ba,oa+ef*2,none⟩=some (S (R pa.x))/\w5.cell? ⟨ba,oa+ef*2+1,none⟩=some (S (R pa.y))/\w5.cell? ⟨ba,oa+et*2,none⟩=some (S (R pb.x))/\w5.cell? ⟨ba,oa+et*2+1,none⟩=some (S (R pb.y))):=⟨Aa ((hb5.block bm pN).trans Ep) rfl,Aa (hs5 be _ AB UT Mv (by intro cs e;cases e)) rfl,Aa (hs5 be _ AB UT Mv (by intro cs e;cases e)) rfl,Aa (hs5 be _ AB UT Mv (by intro cs e;cases e)) rfl,Aa (hs5 be _ AB UT Mv (by intro cs e;cases e)) rfl,Tu hb5 Av k1,Tu hb5 Av k2,Tu hb5 Av k3,Tu hb5 Av k4⟩))
   have TT:=Ip.out▸ki.out▸Nh;have AW:Below V.heap.size V w5:=Below.trans (Ac.drew qP) hb5;have fl:=Ajw AW;clear SO S5 X Xd ad hb5 hs5 AW;go_wp2;go_roundw
   case rel=>exact⟨j+1,by go_num,hlt,fl.out,E5,TT⟩
   case measure=>simp [intOf];omega
  ·have Zk:(m.eds.length:Int)<=(j:Int):=(by omega);obtain rfl:j=m.eds.length:=(by omega);rw [Aj7 (Ajz _)]at hN;have HN:=Ajw hN;have HE:=Ajw (hE.trans Ag);have HS:=Ajw hE.size;clear hN Ag Km;go_wp2;go_ret;have hN:=HN.out;exact⟨r,b1,b2,E,rfl,HE.out,⟨hN.cell,hN.left,⟨hN.ar.blk,hN.ar.len,fun i hi hi'=>⟨(hN.ar.row i hi hi').1,(hN.ar.row i hi hi').2.1,wV (hN.ar.row i hi hi').2.2 HS.out⟩,hN.ar.apart,Aj9 HS.out hN.ar.own⟩,Aj9 HS.out hN.r0,Aj9 HS.out hN.r1,hN.ne⟩⟩
end
def Jc(R0:List (Pt×List Pt))(p:Pt):Nat:=match R0.find? (fun e=>Ay p e.1)with|some e=>e.2.length|none=>0
theorem zv{E:List (Pt×Value×Nat)}{R0:List (Pt×List Pt)}{B:Nat}{W:World}{b2:Nat}(h:D4 B W b2 E R0)(p:Pt) :
  (∃A c,EJ Ay (.slice none 0 0) p E=.slice A (Jc R0 p) c):=by
 have Dy:=Xz h.len (fun i h1 h2=>(h.row i h1 h2).1) p;unfold EJ Jc
 cases hf:R0.findIdx? (fun e=>Ay p e.1)with
 | none=>
  rw [hf]at Dy
  have e1:E.find? (fun e=>Ay p e.1)=none:=by rw [List.find?_eq_none];rw [List.findIdx?_eq_none_iff]at Dy;intro x hx;rw [Dy x hx];simp
  have e2:R0.find? (fun e=>Ay p e.1)=none:=by rw [List.find?_eq_none];rw [List.findIdx?_eq_none_iff]at hf;intro x hx;rw [hf x hx];simp
  rw [e1,e2];exact⟨none,0,rfl⟩
 | some j=>
  rw [hf]at Dy;rw [List.findIdx?_eq_some_iff_getElem]at Dy hf;obtain⟨hj,h1,h2⟩:=Dy;obtain⟨hj',h3,h4⟩:=hf
  have e1:E.find? (fun e=>Ay p e.1)=some E[j]:=by rw [List.find?_eq_some_iff_getElem];exact⟨h1,j,hj,rfl,fun i hi=>by have:=h2 i hi;simpa using this⟩
  have e2:R0.find? (fun e=>Ay p e.1)=some R0[j]:=by rw [List.find?_eq_some_iff_getElem];exact⟨h3,j,hj',rfl,fun i hi=>by have:=h4 i hi;simpa using this⟩
  rw [e1,e2]
  rcases(h.row j hj hj').2.2.2 with⟨hv,hn⟩|⟨g,cap,cur,hv,_⟩
  ·simp only;rw [hv,hn];exact⟨none,0,rfl⟩
  ·simp only;rw [hv];exact⟨_,_,rfl⟩
theorem zk{B:Nat}{w:World}{r b1 b2:Nat}{L:List (Sg×Int)}{E:List (Pt×Value×Nat)}{R0:List (Pt×List Pt)}(h:Br B w r b1 b2 L E R0)(bn:Nat)(Dd:w.cell? ⟨bn,0,none⟩=some (.pointer (some ⟨r,0,none⟩)))(p:Pt) :
  Calls Tryz.prog 108 #[Ak p,.pointer (some ⟨bn,0,none⟩)] w (By (decide (Jc R0 p<2)) w):=by
 have hE:=(Ac.refl w).alloc (.cells #[S (R p.x),S (R p.y)] 27);have hb0:=Ajy w (.cells #[S (R p.x),S (R p.y)] 27);have hN:=h.ext hE;obtain⟨A,c,hv⟩:=zv h.ar p;have pY:=hE.cellS Dd;obtain⟨x,hx⟩:=Ajv (decide (Jc R0 p<2));rw [←hx];have HX:=Ajw (show x=decide ((Jc R0 p:Int)<2)by rw [hx];simp;omega);unfold Ak;clear hx;go_enter Tryz.func108,Tryz.ntmps108
 go_upto_region 1 with fail
 generalize w.alloc (.cells #[S (R p.x),S (R p.y)] 27)=V at *;obtain⟨bp,Aw⟩:=Ajv w.heap.size;rw [←Aw]at hb0 ⊢;clear Aw;have q1:∀q:Af V,q.w.cell? ⟨bn,0,none⟩=some (.pointer (some ⟨r,0,none⟩)):=Af.cell pY;have q2:∀q:Af V,q.w.cell? ⟨r,1,none⟩=some (.map (some b2)):=Af.cell (Aa hN.cell rfl);have q3:∀q:Af V,q.w.cell? ⟨bp,0,none⟩=some (S (R p.x)):=Af.cell (Aa hb0 rfl);have q4:∀q:Af V,q.w.cell? ⟨bp,1,none⟩=some (S (R p.y)):=Af.cell (Aa hb0 rfl)
 have q5:∀q:Af V,(Instr.lookup 163 (.map (some b2)) (Ak p) false).run Tryz.prog q.w=.ok (.slice A (Jc R0 p) c) q.w:=fun q=>by rw [Px OY p E (W:=q.w) ((q.h.block b2 hN.ar.lt).trans hN.ar.blk),hv]
 unfold Ak at q5;clear pY hb0 hN h Dd hv;refine CW (by kernel_rfl) (by kernel_rfl) ?_
 repeat (go_big_quiet_step (fail))
 refine wpQuiet_nil ?_;rintro _ ⟨q,rfl⟩;go_wp2;go_ret;exact⟨by rw [HX.out];rfl,hE.trans q.h⟩
end Go.Proofs.YtgnejnampofhoaaGreatDoor
