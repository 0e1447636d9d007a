/- I19: ShS6 ShS7 ShM1 ShM2 ShM3 ShM4 ShM5 ShM6 ShM7 ShM8 ShM9 ShM10. -/
import Derived.Maps.RangeWalk
import Derived.Maps.AppendAt
import Derived.Test.YtnddllipjippnaaGreatDoorI17
set_option maxRecDepth 100000
set_option maxHeartbeats 16000000
namespace Go.Proofs.YtnddllipjippnaaGreatDoor
open Go.RowKit Kl
def AeG(l:List EdZ)(e0:EdZ)(w:World)(e:Ending)(w':World):Prop:=∃k:Int,e=.returned (.int .i64 k)/\(0<=k↔∃p∈l,Gk p e0=true)/\Ab w w'
theorem AkD(l:List EdZ)(e:EdZ)(bb:Nat)(t:TypeId)(A:Option Addr)(c:Nat)(w:World)(hr:Ad w A (Ar l))(hc:l.length<=c)(hcm:c<=9223372036854775807)
  (hb:w.heap[bb]?=some (.cells #[.int .i64 e.f,.int .i64 e.t,.int .i64 e.l,.int .i64 e.r] t)) :
  Calls Tryz.prog 76 #[.slice A l.length c,.func (.func 101) #[] #[.pointer (some ⟨bb,0,none⟩)]] w (AeG l e w):=by
 go_enter Tryz.func76,Tryz.ntmps76;go_wp2
 go_loopw [8] (fun i wr=>∃j:Nat,i=.int .i64 (j:Nat)/\j<=l.length/\(∀p∈l.take j,Gk p e=false)/\Ab w wr) (fun i _=>l.length-(intOf i).toNat)
 case atStart=>exact⟨0,rfl,by omega,by simp,Ab.refl _⟩
 case round=>
  obtain⟨j,rfl,hj,Ai,Ae⟩:=hrel;have HO:=Asx Ai;clear Ai;by_cases hlt:j<l.length
  ·obtain⟨b,o,rfl,hg1,hg2,hg3,hg4⟩:=MD (hr.ext Ae) hlt;obtain⟨p,hp⟩:=Asw (l[j]);rw [←hp]at hg1 hg2 hg3 hg4;have hmem:p∈l:=(by rw [hp];exact As1 hlt);have HX:=Asx hp;clear hp;have hj0:(0:Int)<=(j:Int):=(by omega);have Ay:(j:Int)<(l.length:Int):=(by omega);have bf:=AgT p e bb t wr ((Ae.block _ (Asy hb)).trans hb);unfold IZ at bf
   cases hL:Gk p e
   ·rw [hL]at bf;have Ik:=Asx hL;clear hL;(go_wp2_with fail);(with_reducible refine bf.mono ?_);rintro e w2 ⟨rfl,hx2⟩;go_wp2;go_roundw
    case rel=>
     refine⟨j+1,by go_num,hlt,?_,Ae.trans hx2⟩;intro q hq;rw [As3 hlt,←HX.out]at hq
     rcases List.mem_append.1 hq with h|h
     ·exact HO.out q h
     ·simp only [AsC]at h;rw [h];exact Ik.out
    case measure=>simp [intOf];omega
   ·rw [hL]at bf;have Ik:=Asx hL;clear hL;(go_wp2_with fail);(with_reducible refine bf.mono ?_);rintro e w2 ⟨rfl,hx2⟩;go_wp2;go_ret;exact⟨j,rfl,⟨fun _=>⟨_,hmem,Ik.out⟩,fun _=>by omega⟩,Ae.trans hx2⟩
  ·have hle:(l.length:Int)<=(j:Int):=(by omega);go_wp2;go_ret;refine⟨-1,rfl,⟨fun h=>by omega,?_⟩,Ae⟩;rintro⟨p,hp,h⟩;have:=HO.out p (by rw [As8 (by omega)];exact hp);rw [this]at h;cases h
theorem Ag0(l:List EdZ)(e:EdZ)(bb:Nat)(t:TypeId)(A:Option Addr)(c:Nat)(w:World)(hr:Ad w A (Ar l))(hc:l.length<=c)(hcm:c<=9223372036854775807)
  (hb:w.heap[bb]?=some (.cells #[.int .i64 e.f,.int .i64 e.t,.int .i64 e.l,.int .i64 e.r] t)) :
  Calls Tryz.prog 100 #[.slice A l.length c,.func (.func 101) #[] #[.pointer (some ⟨bb,0,none⟩)]] w (BP (l.any (Gk · e)) w):=by
 have ix:=AkD l e bb t A c w hr hc hcm hb;obtain⟨r,hr0⟩:=Asw (l.any (Gk · e));rw [←hr0];have HR:=Asx hr0;clear hr hb hr0;go_enter Tryz.func100,Tryz.ntmps100;(go_wp2_with fail);(with_reducible refine ix.mono ?_);rintro e w2 ⟨k,rfl,hk,hx⟩;have HK:=Asx hk;clear hk;go_wp2;go_ret;refine⟨?_,hx⟩
 have e:decide (0<=k)=r:=by
  rw [HR.out]
  cases h:l.any (Gk · _)
  ·rw [decide_eq_false_iff_not,HK.out];rintro⟨p,hp,h2⟩;rw [List.any_eq_false]at h;exact h p hp h2
  ·rw [decide_eq_true_eq,HK.out];rw [List.any_eq_true]at h;exact h
 rw [←e];rfl
def KH(np nf:Nat)(pre:List EdZ)(e:EdZ):Int:=
 if min e.f e.t<0 then 3 else if (np:Int)<=max e.f e.t then 3 else if e.f=e.t then 17 else if pre.any (Gk · e)then 9
 else if Fg nf e.l=false then 3 else if Fg nf e.r=false then 3 else if e.l=e.r then 7 else 0
structure MapZ where
 pts:List Pt
 eds:List EdZ
 nf:Nat
def AH(A B F:Option Addr)(m:MapZ)(c d g:Nat):Value:=.agg #[.slice A m.pts.length c,.slice B m.eds.length d,.slice F m.nf g]
structure Db(m:MapZ)(c d g:Nat):Prop where
 c1:m.pts.length<=c
 c2:c<=9223372036854775807
 d1:m.eds.length<=d
 d2:d<=9223372036854775807
 g1:m.nf<=g
 g2:g<=9223372036854775807
theorem eK(l:List EdZ)(i:Nat):Ar (l.take i)=(Ar l).take (i*4):=by
 induction l generalizing i with
 | nil=>simp [Ar]
 | cons e l ih=>
  cases i with
  | zero=>simp [Ar]
  | succ i=>have e0:∀l,Ar (e::l)=.int .i64 e.f :: .int .i64 e.t :: .int .i64 e.l :: .int .i64 e.r::Ar l:=fun _=>rfl;rw [List.take_succ_cons,e0,e0,ih];have e1:(i+1)*4=i*4+1+1+1+1:=(by omega);rw [e1];simp
theorem Ad.take{w:World}{A:Option Addr}{cs:List Value}(h:Ad w A cs)(n:Nat):Ad w A (cs.take n):=
 ⟨fun h0=>by
  obtain⟨b,o,e,hc⟩:=h.ad (by rw [List.length_take]at h0;omega);refine⟨b,o,e,fun j hj=>?_⟩;rw [List.length_take]at hj
  rw [hc j (by omega),List.getElem_take]⟩
theorem Agc(m:MapZ)(A B F:Option Addr)(c d g:Nat)(AW:Db m c d g)(i:Nat)(hi:i<m.eds.length)(w:World)(hB:Ad w B (Ar m.eds)) :
  Calls Tryz.prog 49 #[AH A B F m c d g,.int .i64 (i:Nat)] w (AI (KH m.pts.length m.nf (m.eds.take i) m.eds[i]) w):=by
 have Asg:=@Aoi Tryz.prog;have Asf:=@Aog Tryz.prog;obtain⟨c1,c2,d1,d2,g1,g2⟩:=AW;obtain⟨e,he⟩:=Asw (m.eds[i]);obtain⟨b,o,rfl,hg1,hg2,hg3,hg4⟩:=MD hB hi;rw [←he]at hg1 hg2 hg3 hg4 ⊢;obtain⟨r,hr⟩:=Asw (KH m.pts.length m.nf (m.eds.take i) e);rw [←hr]
 have hr':r=if min e.f e.t<0 then 3 else if (m.pts.length:Int)<=max e.f e.t then 3 else if e.f=e.t then 17 else if (m.eds.take i).any (Gk · e)then 9
  else if Fg m.nf e.l=false then 3 else if Fg m.nf e.r=false then 3 else if e.l=e.r then 7 else 0:=hr
 have HR:=Asx hr';have hpl:(m.eds.take i).length=i:=by rw [List.length_take];omega
 have hid:∀bb t w',Ab w w'→w'.heap[bb]?=some (.cells #[.int .i64 e.f,.int .i64 e.t,.int .i64 e.l,.int .i64 e.r] t)→Calls Tryz.prog 100 #[.slice (some ⟨b,o,none⟩) i d,.func (.func 101) #[] #[.pointer (some ⟨bb,0,none⟩)]] w' (BP ((m.eds.take i).any (Gk · e)) w'):=by intro bb t w' hx h;have:=Ag0 (m.eds.take i) e bb t (some ⟨b,o,none⟩) d w' (by rw [eK];exact(hB.ext hx).take _) (by omega) d2 h;rw [hpl]at this;exact this
 generalize (m.eds.take i).any (Gk · e)=du at *;obtain⟨np,Ka⟩:=Asw m.pts.length;obtain⟨ne,hne⟩:=Asw m.eds.length;obtain⟨nf,BS⟩:=Asw m.nf;rw [←Ka]at c1 HR;rw [←hne]at d1 hi;rw [←BS]at g1 HR;unfold AH;rw [←Ka,←hne,←BS];have EW:(0:Int)<=(i:Int):=(by omega);have Lc:(i:Int)<(ne:Int):=(by omega);have hix:(i:Int)<=(d:Int):=(by omega);have hM:=Asz w (.cells #[.slice A np c,.slice (some ⟨b,o,none⟩) ne d,.slice F nf g] 35);have hx0:=(Ab.refl w).alloc (.cells #[.slice A np c,.slice (some ⟨b,o,none⟩) ne d,.slice F nf g] 35);have j1:=hx0.cellS hg1;have j2:=hx0.cellS hg2;have j3:=hx0.cellS hg3;have j4:=hx0.cellS hg4;have hx1:=hx0.alloc (.cells #[.int .i64 e.f,.int .i64 e.t,.int .i64 e.l,.int .i64 e.r] 51);have hD:=Asz (w.alloc (.cells #[.slice A np c,.slice (some ⟨b,o,none⟩) ne d,.slice F nf g] 35)) (.cells #[.int .i64 e.f,.int .i64 e.t,.int .i64 e.l,.int .i64 e.r] 51);have CE:=(((Ab.refl _).alloc (.cells #[.int .i64 e.f,.int .i64 e.t,.int .i64 e.l,.int .i64 e.r] 51)).block _ (Asy hM)).trans hM;rw [As7]at hD;clear he hr hr' hpl Ka hne BS hB hg1 hg2 hg3 hg4 hM hi;go_enter Tryz.func49,Tryz.ntmps49
 go_upto_region 2 with fail
 clear j1 j2 j3 j4;generalize (w.alloc (.cells #[.slice A np c,.slice (some ⟨b,o,none⟩) ne d,.slice F nf g] 35)).alloc (.cells #[.int .i64 e.f,.int .i64 e.t,.int .i64 e.l,.int .i64 e.r] 51)=V at *;obtain⟨bm,AB⟩:=Asw w.heap.size;rw [←AB]at CE hD ⊢;clear AB hx0;have m1:=Aa (o:=0) CE rfl;have m2:=Aa (o:=1) CE rfl;have m3:=Aa (o:=2) CE rfl;have e1:=Aa (o:=0) hD rfl;have e2:=Aa (o:=1) hD rfl;have e3:=Aa (o:=2) hD rfl;have e4:=Aa (o:=3) hD rfl;generalize hmn:min e.f e.t=mn at *;generalize hmx:max e.f e.t=mx at *;by_cases n1:mn<0
 ·have dd:decide (mn<0)=true:=decide_eq_true n1;have HH:=Asx (show r=3 by rw [HR.out,if_pos n1]);clear HR hid;go_wp2;go_ret;exact⟨by rw [HH.out];rfl,hx1⟩
 have TF:decide (mn<0)=false:=decide_eq_false n1;by_cases n2:(np:Int)<=mx
 ·have dd:decide ((np:Int)<=mx)=true:=decide_eq_true n2;have HH:=Asx (show r=3 by rw [HR.out,if_neg n1,if_pos n2]);clear HR hid n1;go_wp2;go_ret;exact⟨by rw [HH.out];rfl,hx1⟩
 have Q8:decide ((np:Int)<=mx)=false:=decide_eq_false n2;by_cases n3:e.f=e.t
 ·have dd:(e.f == e.t)=true:=(by rw [beq_iff_eq];exact n3);have HH:=Asx (show r=17 by rw [HR.out,if_neg n1,if_neg n2,if_pos n3]);clear HR hid n1 n2 n3;go_wp2;go_ret;exact⟨by rw [HH.out];rfl,hx1⟩
 have Xq:(e.f == e.t)=false:=(by rw [beq_eq_false_iff_ne];exact n3);have OG:=Asx (show r=if du=true then 9 else if Fg nf e.l=false then 3 else if Fg nf e.r=false then 3 else if e.l=e.r then 7 else 0 by rw [HR.out,if_neg n1,if_neg n2,if_neg n3]);have ci:=hid (bm+1) _ V hx1 hD;clear HR n1 n2 n3 hid
 cases Hw:du
 rotate_left
 ·have HH:=Asx (show r=9 by rw [OG.out,Hw];rfl);rw [Hw]at ci;clear OG Hw;(go_wp2_with fail);(with_reducible refine ci.mono ?_);rintro e w2 ⟨rfl,hx2⟩;go_wp2;go_ret;exact⟨by rw [HH.out];rfl,hx1.trans hx2⟩
 have WA:=Asx (show r=if Fg nf e.l=false then 3 else if Fg nf e.r=false then 3 else if e.l=e.r then 7 else 0 by rw [OG.out,Hw];rfl);rw [Hw]at ci;clear OG Hw;(go_wp2_with fail);(with_reducible refine ci.mono ?_);rintro _ w2 ⟨rfl,hx2⟩;have EB:=(hx2.block _ (Asy CE)).trans CE;have OW:=(hx2.block _ (Asy hD)).trans hD;have s1:=AbU e.l bm nf g F _ _ _ w2 EB;replace hx2:=hx1.trans hx2;clear m1 m2 m3 e1 e2 e3 e4 CE hD hx1 ci;have e1:=Aa (o:=0) OW rfl;have e2:=Aa (o:=1) OW rfl;have e3:=Aa (o:=2) OW rfl;have e4:=Aa (o:=3) OW rfl
 cases h5:Fg nf e.l
 ·have HH:=Asx (show r=3 by rw [WA.out,h5];rfl);rw [h5]at s1;clear WA h5;(go_wp2_with fail);(with_reducible refine s1.mono ?_);rintro _ w3 ⟨rfl,hx3⟩;go_wp2;go_ret;exact⟨by rw [HH.out];rfl,hx2.trans hx3⟩
 have SZ:=Asx (show r=if Fg nf e.r=false then 3 else if e.l=e.r then 7 else 0 by rw [WA.out,h5];rfl);rw [h5]at s1;clear WA h5;(go_wp2_with fail);(with_reducible refine s1.mono ?_);rintro _ w3 ⟨rfl,hx3⟩;have CG:=(hx3.block _ (Asy EB)).trans EB;have OX:=(hx3.block _ (Asy OW)).trans OW;have s2:=AbU e.r bm nf g F _ _ _ w3 CG;replace hx3:=hx2.trans hx3;clear e1 e2 e3 e4 EB OW hx2 s1;have e1:=Aa (o:=0) OX rfl;have e2:=Aa (o:=1) OX rfl;have e3:=Aa (o:=2) OX rfl;have e4:=Aa (o:=3) OX rfl
 cases h6:Fg nf e.r
 ·have HH:=Asx (show r=3 by rw [SZ.out,h6];rfl);rw [h6]at s2;clear SZ h6;(go_wp2_with fail);(with_reducible refine s2.mono ?_);rintro _ w4 ⟨rfl,Ao⟩;go_wp2;go_ret;exact⟨by rw [HH.out];rfl,hx3.trans Ao⟩
 have WB:=Asx (show r=if e.l=e.r then 7 else 0 by rw [SZ.out,h6];rfl);rw [h6]at s2;clear SZ h6;(go_wp2_with fail);(with_reducible refine s2.mono ?_);rintro _ w4 ⟨rfl,Ao⟩;have XI:=(Ao.block _ (Asy OX)).trans OX;replace Ao:=hx3.trans Ao;clear e1 e2 e3 e4 CG OX hx3 s2;have e1:=Aa (o:=0) XI rfl;have e2:=Aa (o:=1) XI rfl;have e3:=Aa (o:=2) XI rfl;have e4:=Aa (o:=3) XI rfl;by_cases n7:e.l=e.r
 ·have dd:(e.l == e.r)=true:=(by rw [beq_iff_eq];exact n7);have HH:=Asx (show r=7 by rw [WB.out,if_pos n7]);clear WB n7;go_wp2;go_ret;exact⟨by rw [HH.out];rfl,Ao⟩
 ·have dd:(e.l == e.r)=false:=(by rw [beq_eq_false_iff_ne];exact n7);have HH:=Asx (show r=0 by rw [WB.out,if_neg n7]);clear WB n7;go_wp2;go_ret;exact⟨by rw [HH.out];rfl,Ao⟩
def Cr:List Pt→List Pt→Int
 | _,[]=>0
 | pre,p::l=>if pre.any (Aq p)then 9 else Cr (pre ++ [p]) l
def DC(np nf:Nat):List EdZ→List EdZ→Int
 | _,[]=>0
 | pre,e::l=>if KH np nf pre e≠0 then KH np nf pre e else DC np nf (pre ++ [e]) l
def EJ(l:List Pt)(z:Int):Pt:=l.getD z.toNat ⟨0,0⟩
def Q5(l:List Pt)(e f:EdZ):Bool:=Oy (EJ l e.f) (EJ l e.t) (EJ l f.f) (EJ l f.t)
def Ey(pts:List Pt):List EdZ→List EdZ→Int
 | _,[]=>0
 | pre,e::l=>if pre.any (Q5 pts e)then 26 else Ey pts (pre ++ [e]) l
def Nt(m:MapZ):Bool:=decide (400<m.pts.length)||(decide (1200<m.eds.length)||decide (800<m.nf))
theorem wO{l:List Pt}{j:Nat}(h:j<l.length):Cr (l.take j) (l.drop j)=if (l.take j).any (Aq l[j])then 9 else Cr (l.take (j+1)) (l.drop (j+1)):=by
 rw [List.drop_eq_getElem_cons h,As3 h];rfl
theorem Agi{np nf:Nat}{l:List EdZ}{j:Nat}(h:j<l.length):DC np nf (l.take j) (l.drop j)=if KH np nf (l.take j) l[j]≠0 then KH np nf (l.take j) l[j] else DC np nf (l.take (j+1)) (l.drop (j+1)):=by
 rw [List.drop_eq_getElem_cons h,As3 h];rfl
theorem Agj{pts:List Pt}{l:List EdZ}{j:Nat}(h:j<l.length):Ey pts (l.take j) (l.drop j)=if (l.take j).any (Q5 pts l[j])then 26 else Ey pts (l.take (j+1)) (l.drop (j+1)):=by
 rw [List.drop_eq_getElem_cons h,As3 h];rfl
theorem T8{np nf:Nat}{pre:List EdZ}{e:EdZ}(h:KH np nf pre e=0):0<=e.f/\0<=e.t/\e.f<(np:Int)/\e.t<(np:Int)/\e.f≠e.t/\pre.any (Gk · e)=false/\Fg nf e.l=true/\Fg nf e.r=true/\e.l≠e.r:=by
 unfold KH at h
 split at h
 ·cases h
 split at h
 ·cases h
 split at h
 ·cases h
 split at h
 ·cases h
 split at h
 ·cases h
 split at h
 ·cases h
 split at h
 ·cases h
 rename_i h1 h2 h3 h4 h5 h6 h7
 exact⟨by omega,by omega,by omega,by omega,h3,by simpa using h4,by simpa using h5,by simpa using h6,h7⟩
theorem Q0{np nf:Nat}{l:List EdZ} : ∀{pre rest:List EdZ},DC np nf pre rest=0→∀(i:Nat) (h:i<rest.length),KH np nf (pre++rest.take i) rest[i]=0
 | pre,[],_,i,h=>by simp at h
 | pre,e::rest,hc,i,h=>by
  unfold DC at hc
  split at hc
  ·rename_i hne
   exact absurd hc hne
  ·rename_i h0
   simp only [ne_eq,Decidable.not_not]at h0
   cases i with
   | zero=>simpa using h0
   | succ i=>
    have:=Q0 (l:=l) hc i (by simpa using h)
    simpa using this
theorem wP{pts:List Pt} : ∀{pre rest:List EdZ},Ey pts pre rest=0→∀(i:Nat) (h:i<rest.length),(pre++rest.take i).any (Q5 pts rest[i])=false
 | pre,[],_,i,h=>by simp at h
 | pre,e::rest,hc,i,h=>by
  unfold Ey at hc
  split at hc
  ·cases hc
  ·rename_i h0
   cases i with
   | zero=>simpa using h0
   | succ i=>
    have:=wP hc i (by simpa using h)
    simpa using this
theorem wL:∀{pre rest:List Pt},Cr pre rest=0→∀(i:Nat) (h:i<rest.length),(pre++rest.take i).any (Aq rest[i])=false
 | pre,[],_,i,h=>by simp at h
 | pre,e::rest,hc,i,h=>by
  unfold Cr at hc
  split at hc
  ·cases hc
  ·rename_i h0
   cases i with
   | zero=>simpa using h0
   | succ i=>
    have:=wL hc i (by simpa using h)
    simpa using this
def AU(s t:Sg):Bool:=Aq s.a t.a&&Aq s.b t.b
theorem IG{s t:Sg} : AU s t=true↔s=t:=by
 unfold AU;rw [Bool.and_eq_true,Ca,Ca];constructor
 ·rintro⟨h1,h2⟩
  cases s;cases t;simp_all
 ·rintro rfl;exact⟨rfl,rfl⟩
theorem yS(p q:Pt)(W:World):(Op.equal 24 (Af p) (Af q)).run Tryz.prog W=.ok (Aq p q) W:=by
 unfold Aq Af;rw [←KC,←KC]
 cases b1:(R p.x == R q.x)<;>cases b2:(R p.y == R q.y)<;>simp [go_sem,Op.equal,Op.maxDepth,b1,b2]
theorem yT(s t:Sg)(W:World):(Op.equal 140 (A8 s) (A8 t)).run Tryz.prog W=.ok (AU s t) W:=by
 unfold AU Aq A8;rw [←KC,←KC,←KC,←KC]
 cases b1:(R s.a.x == R t.a.x)<;>cases b2:(R s.a.y == R t.a.y)<;>cases b3:(R s.b.x == R t.b.x)<;>cases b4:(R s.b.y == R t.b.y)<;>simp [go_sem,Op.equal,Op.maxDepth,b1,b2,b3,b4]
theorem wH(b:Bool)(p:Pt)(W:World):(Instr.checkKey b 10000 24 (Af p)).run Tryz.prog W=.ok () W:=by
 unfold Af
 kernel_rfl
theorem wI(b:Bool)(s:Sg)(W:World):(Instr.checkKey b 10000 140 (A8 s)).run Tryz.prog W=.ok () W:=by
 unfold A8
 kernel_rfl
/-! ### Entries -/
section
variable {α : Type} (enc : α → Value) (same : α → α → Bool)
def AK(l:List (α×Value×Nat)):List MapEntry:=l.map (fun e=>⟨enc e.1,e.2.1,e.2.2⟩)
theorem zA{kt:TypeId}(heq:∀x y W,(Op.equal kt (enc x) (enc y)).run Tryz.prog W=.ok (same x y) W)(k:α)(W:World):∀(l:List (α×Value×Nat)) (i:Nat),
  (Instr.findAsking kt (enc k) (AK enc l) i).run Tryz.prog W=.ok ((l.findIdx? (fun e=>same k e.1)).bind (fun j=>(l[j]?).map (fun e=>(i+j,e.2.1)))) W
 | [],i=>by simp [AK,Instr.findAsking]
 | e::l,i=>by
  have ih:=zA heq k W l (i+1);have e0:AK enc (e::l)=⟨enc e.1,e.2.1,e.2.2⟩::AK enc l:=rfl;rw [e0];unfold Instr.findAsking;simp only [Sem.run_bind,heq,Result.andThen_ok];rw [List.findIdx?_cons]
  cases h:same k e.1
  ·simp only [Bool.false_eq_true,if_false,ih]
   congr 1
   cases h2:l.findIdx? (fun e=>same k e.1)with
   | none=>simp
   | some j=>
    simp only [Option.map_some,Option.bind_some,List.getElem?_cons_succ]
    congr 1
    funext x
    rw [show i+1+j=i+(j+1)by omega]
  ·simp
end
section
variable {α : Type} {enc : α → Value} {same : α → α → Bool}
structure K7(mt kt et:TypeId)(z:Value)(enc:α→Value)(same:α→α→Bool):Prop where
 map:Tryz.prog.underlying mt=some (.map kt et)
 st:∃fs,Tryz.prog.underlying kt=some (.struct fs)
 zero:∀W,(zeroValue et).run Tryz.prog W=.ok z W
 eq:∀x y W,(Op.equal kt (enc x) (enc y)).run Tryz.prog W=.ok (same x y) W
 chk:∀b x W,(Instr.checkKey b 10000 kt (enc x)).run Tryz.prog W=.ok () W
 iff:∀{x y},same x y=true↔x=y
 bits:∀x,Instr.sameBits 10000 (enc x) (enc x)=true
def FV(same:α→α→Bool)(k:α)(l:List (α×Value×Nat)):Option Nat:=l.findIdx? (fun e=>same k e.1)
theorem TP{mt kt et:TypeId}{z:Value}(K:K7 mt kt et z enc same)(k:α)(l:List (α×Value×Nat))(W:World) :
  (Instr.findKey kt (enc k) (AK enc l)).run Tryz.prog W=.ok ((FV same k l).bind (fun j=>(l[j]?).map (fun e=>(j,e.2.1)))) W:=by
 obtain⟨fs,hfs⟩:=K.st;unfold Instr.findKey;simp only [Sem.run_bind,run_underlying hfs,Result.andThen_ok]
 cases l with
 | nil=>simp [AK,Instr.findNow,FV]
 | cons e l=>
  have e0:AK enc (e::l)=⟨enc e.1,e.2.1,e.2.2⟩::AK enc l:=rfl
  have h1:Instr.findNow (.struct fs) (enc k) (AK enc (e::l)) 0=none:=by rw [e0];unfold Instr.findNow;have:Instr.sameNow (.struct fs) (enc k) (enc e.1)=none:=(by unfold Instr.sameNow;rfl);rw [this]
  rw [h1];have h2:=zA enc same K.eq k W (e::l) 0;simp only [Nat.zero_add]at h2;exact h2
def FW(same:α→α→Bool)(z:Value)(k:α)(l:List (α×Value×Nat)):Value:=match l.find? (fun e=>same k e.1)with|some e=>e.2.1|none=>z
theorem xi{k:α}{l:List (α×Value×Nat)} : (FV same k l).bind (fun j=>(l[j]?).map (fun e=>(j,e.2.1)))=(FV same k l).bind (fun j=>(l.find? (fun e=>same k e.1)).map (fun e=>(j,e.2.1))):=by
 unfold FV
 cases h:l.findIdx? (fun e=>same k e.1)with
 | none=>rfl
 | some j=>
  simp only [Option.bind_some];rw [List.findIdx?_eq_some_iff_getElem]at h;obtain⟨hj,h1,h2⟩:=h
  have h3:l.find? (fun e=>same k e.1)=some l[j]:=by rw [List.find?_eq_some_iff_getElem];exact⟨h1,j,hj,rfl,fun i hi=>by have:=h2 i hi;simpa using this⟩
  rw [h3,As5 hj]
theorem Sp{mt kt et:TypeId}{z:Value}(K:K7 mt kt et z enc same)(k:α)(l:List (α×Value×Nat)){b clock:Nat}{W:World}(hb:W.heap[b]?=some (.map (AK enc l).toArray clock)) :
  (Instr.lookup mt (.map (some b)) (enc k) false).run Tryz.prog W=.ok (FW same z k l) W:=by
 have hf:=TP K k l W;rw [xi]at hf;unfold FW
 cases h:l.find? (fun e=>same k e.1)with
 | none=>
  rw [h]at hf
  have hf':(Instr.findKey kt (enc k) (AK enc l)).run Tryz.prog W=.ok none W:=by rw [hf];cases FV same k l<;>rfl
  simp [Instr.lookup,run_underlying K.map,MapKept.run_getObj_map hb,K.chk,hf',K.zero,Result.andThen]
 | some e=>
  have hi:(FV same k l).isSome:=by unfold FV;rw [List.findIdx?_isSome,List.any_eq_true];exact⟨e,List.mem_of_find?_eq_some h,(by have:=List.find?_some h;exact this)⟩
  obtain⟨j,hj⟩:=Option.isSome_iff_exists.1 hi;rw [h,hj]at hf;simp only [Option.bind_some,Option.map_some]at hf;simp [Instr.lookup,run_underlying K.map,MapKept.run_getObj_map hb,K.chk,hf,Result.andThen]
end
theorem RN:K7 96 24 31 (.slice none 0 0) Af Aq where
 map:=Tryz.underlying96
 st:=⟨_,Tryz.underlying24⟩
 zero:=fun W=>by simp [go_sem]
 eq:=yS
 chk:=wH
 iff:=Ca
 bits:=fun x=>by unfold Af;simp [Instr.sameBits,beq_toListBytes]
theorem Za:K7 95 140 3 (.int .i64 0) A8 AU where
 map:=Tryz.underlying95
 st:=⟨_,Tryz.underlying140⟩
 zero:=fun W=>by simp [go_sem]
 eq:=yT
 chk:=wI
 iff:=IG
 bits:=fun x=>by unfold A8;simp [Instr.sameBits,beq_toListBytes]
section
open Go.ChangeMaps (setBlock)
theorem MI{w:World}{b:Nat}{o o':Obj}(h:w.heap[b]?=some o'):(setBlock w b o).heap[b]?=some o:=by
 have hlt:=(Array.getElem?_eq_some_iff.1 h).1;show (w.heap.setIfInBounds b o)[b]?=some o;rw [Array.getElem?_setIfInBounds_self];simp [hlt]
theorem VR{w:World}{b k:Nat}{o:Obj}(h:k≠b):(setBlock w b o).heap[k]?=w.heap[k]?:=by
 show (w.heap.setIfInBounds b o)[k]?=w.heap[k]?;rw [Array.getElem?_setIfInBounds_ne (by omega)]
theorem pY{w:World}{b:Nat}{o:Obj}(h:w.heap[b]?=some o):setBlock w b o=w:=by
 have hlt:=(Array.getElem?_eq_some_iff.1 h).1
 have e:w.heap.setIfInBounds b o=w.heap:=by
  apply Array.ext_getElem?;intro i;by_cases hi:i=b
  ·subst hi;rw [Array.getElem?_setIfInBounds_self];simp [hlt]at *;exact h.symm
  ·rw [Array.getElem?_setIfInBounds_ne (by omega)]
 unfold setBlock;rw [e]
section
variable {α : Type} {enc : α → Value} {same : α → α → Bool}
theorem pT{mt kt et:TypeId}{z:Value}(K:K7 mt kt et z enc same)(k:α)(l:List (α×Value×Nat))(hno:∀e∈l,same k e.1=false){b clock:Nat}{W:World}(hb:W.heap[b]?=some (.map (AK enc l).toArray clock)) :
  (Instr.mapEntry mt (.map (some b)) (enc k)).run Tryz.prog W=.ok (.tuple #[z,.int .i64 (clock:Nat)]) (setBlock W b (.map (AK enc (l ++ [(k,z,clock)])).toArray (clock+1))):=by
 have hf:=TP K k l W
 have hi:FV same k l=none:=by unfold FV;rw [List.findIdx?_eq_none_iff];exact hno
 rw [hi]at hf;simp only [Option.bind_none]at hf
 have e0:AK enc l ++ [{key:=enc k,val:=z,born:=clock}]=AK enc (l ++ [(k,z,clock)]):=by simp [AK]
 simp [Instr.mapEntry,run_underlying K.map,MapKept.run_getObj_map hb,K.chk,hf,K.zero,MapKept.run_setObj_map _ hb,Result.andThen,setBlock,e0,goInt]
theorem Aof{mt kt et:TypeId}{z:Value}(K:K7 mt kt et z enc same)(k:α)(l:List (α×Value×Nat)){j:Nat}(hj:j<l.length)(hno:∀e∈l.take j,same k e.1=false)(hk:l[j].1=k){b clock:Nat}{W:World}(hb:W.heap[b]?=some (.map (AK enc l).toArray clock)) :
  (Instr.mapEntry mt (.map (some b)) (enc k)).run Tryz.prog W=.ok (.tuple #[l[j].2.1,.int .i64 (l[j].2.2:Nat)]) W:=by
 have hf:=TP K k l W
 have hi:FV same k l=some j:=by unfold FV;rw [List.findIdx?_eq_some_iff_getElem];refine⟨hj,by rw [hk];exact K.iff.2 rfl,fun i Bj=>?_⟩;rw [Bool.not_eq_true];refine hno l[i] ?_;rw [List.mem_take_iff_getElem];exact⟨i,by omega,rfl⟩
 rw [hi]at hf;simp only [Option.bind_some,As5 hj,Option.map_some]at hf
 have EU:(AK enc l)[j]?=some ⟨enc k,l[j].2.1,l[j].2.2⟩:=by simp [AK,As5 hj,hk]
 have hst:(Instr.keyThatStays (enc k) (enc k)).run Tryz.prog W=.ok (enc k) W:=by simp [Instr.keyThatStays,K.bits]
 have hmod:(AK enc l).modify j (fun e=>{e with key:=enc k})=AK enc l:=by
  apply List.ext_getElem?;intro i;rw [List.getElem?_modify];by_cases Bj:j=i
  ·subst Bj;rw [EU];simp
  ·simp [Bj]
 have AQ:(setBlock W b (.map (AK enc l).toArray clock))=W:=pY hb;unfold setBlock at AQ;simp [Instr.mapEntry,run_underlying K.map,MapKept.run_getObj_map hb,K.chk,hf,EU,hst,MapKept.run_setObj_map _ hb,Result.andThen,goInt];rw [hmod];exact AQ
theorem AbB(mt:TypeId)(l:List (α×Value×Nat)){j:Nat}(hj:j<l.length)(hno:∀e∈l.take j,e.2.2≠l[j].2.2)(v:Value){b clock:Nat}{W:World}(hb:W.heap[b]?=some (.map (AK enc l).toArray clock)) :
  (Instr.entryStore mt (.map (some b)) (.int .i64 (l[j].2.2:Nat)) v).run Tryz.prog W=.ok () (setBlock W b (.map (AK enc (l.set j (l[j].1,v,l[j].2.2))).toArray clock)):=by
 have hf:(AK enc l).findIdx? (fun e=>(e.born:Int) == (l[j].2.2:Int))=some j:=by rw [List.findIdx?_eq_some_iff_getElem];refine⟨by simp [AK];exact hj,by simp [AK],fun i Bj=>?_⟩;have:=hno l[i] (by rw [List.mem_take_iff_getElem];exact⟨i,by omega,rfl⟩);simp [AK];omega
 have e0:(AK enc l).modify j (fun e=>{e with val:=v})=AK enc (l.set j (l[j].1,v,l[j].2.2)):=by
  apply List.ext_getElem?;intro i;rw [List.getElem?_modify];by_cases Bj:j=i
  ·subst Bj;simp [AK,hj]
  ·simp [Bj,AK,List.getElem?_set_ne Bj]
 simp [Instr.entryStore,MapKept.run_getObj_map hb,asInt,asIntOf,hf,MapKept.run_setObj_map _ hb,Result.andThen,setBlock,e0]
end
end
section
open Go.ChangeMaps (setBlock)
def Bg(s:Sg):Sg:=⟨s.b,s.a⟩
theorem Xc(s:Sg)(w:World):Calls Tryz.prog 82 #[A8 s] w (BA (A8 (Bg s)) w):=by
 have hE:=((Ab.refl w).alloc (.cells #[S (R s.a.x),S (R s.a.y),S (R s.b.x),S (R s.b.y)] 140)).alloc (.cells #[S [],S [],S [],S []] 140);have hb1:=(Below.heap_alloc (w.alloc (.cells #[S (R s.a.x),S (R s.a.y),S (R s.b.x),S (R s.b.y)] 140)) (.cells #[S [],S [],S [],S []] 140) w.heap.size (by simp)).trans (Asz w (.cells #[S (R s.a.x),S (R s.a.y),S (R s.b.x),S (R s.b.y)] 140));have hb2:=Asz (w.alloc (.cells #[S (R s.a.x),S (R s.a.y),S (R s.b.x),S (R s.b.y)] 140)) (.cells #[S [],S [],S [],S []] 140);rw [As7]at hb2;unfold Bg A8;go_enter Tryz.func82,Tryz.ntmps82
 go_upto_region 1 with fail
 rw [show (⟨#[]⟩:ByteArray)=⟨([]:Bs).toArray⟩from rfl];generalize (w.alloc (.cells #[S (R s.a.x),S (R s.a.y),S (R s.b.x),S (R s.b.y)] 140)).alloc (.cells #[S [],S [],S [],S []] 140)=V at *;obtain⟨bb,AZ⟩:=Asw w.heap.size;have hle:w.heap.size<=bb+1:=(by omega);rw [←AZ]at hb1 hb2 ⊢;clear AZ;have k1:=Aa (o:=0) hb1 rfl;have k2:=Aa (o:=1) hb1 rfl;have k3:=Aa (o:=2) hb1 rfl;have k4:=Aa (o:=3) hb1 rfl;have y0:=Ah (o:=0) hb2;have y1:=Ah (o:=1) hb2;have y2:=Ah (o:=2) hb2;have y3:=Ah (o:=3) hb2;have z0:=Aa (o:=0) hb2 rfl;have z1:=Aa (o:=1) hb2 rfl;have z2:=Aa (o:=2) hb2 rfl;have z3:=Aa (o:=3) hb2 rfl;have hq:=Qz (S (R s.b.x)) (S (R s.b.y)) (S (R s.a.x)) (S (R s.a.y)) hb2;have q0:=Aa (o:=0) hq rfl;have q1:=Aa (o:=1) hq rfl;have q2:=Aa (o:=2) hq rfl;have q3:=Aa (o:=3) hq rfl;clear hq hb1 hb2;go_wp2;refine bodyPost_ret (v:=.agg #[S (R s.b.x),S (R s.b.y),S (R s.a.x),S (R s.a.y)]) (by simp [results,Tryz.results82,go_sem,q0,q1,q2,q3]) rfl ?_;exact⟨rfl,(((hE.setCell (p:=⟨bb+1,0,none⟩) hle _).setCell (p:=⟨bb+1,1,none⟩) hle _).setCell (p:=⟨bb+1,2,none⟩) hle _).setCell (p:=⟨bb+1,3,none⟩) hle _⟩
def OQ(w:World):World:=((w.alloc (.map #[] 0)).alloc (.map #[] 0)).alloc (.cells #[.map (some w.heap.size),.map (some (w.heap.size+1))] 98)
theorem yN(w:World):Calls Tryz.prog 84 #[] w (fun e w'=>e=.returned (.pointer (some ⟨w.heap.size+1+1,0,none⟩))/\w'=OQ w):=by
 have hmm:=@run_makeMap Tryz.prog;go_enter Tryz.func84,Tryz.ntmps84;go_wp2;go_ret;exact⟨rfl,rfl⟩
end
section
open Go.ChangeMaps (setBlock)
def G9(R:List (Pt×List Pt))(p:Pt):Nat:=(R.findIdx? (fun e=>Aq p e.1)).getD R.length
def Hd(R:List (Pt×List Pt))(p:Pt):List (Pt×List Pt):=match R.findIdx? (fun e=>Aq p e.1)with|some _=>R|none=>R ++ [(p,[])]
def Dw(R:List (Pt×List Pt))(p q:Pt):List (Pt×List Pt):=(Hd R p).modify (G9 R p) (fun e=>(e.1,e.2 ++ [q]))
structure El(B:Nat)(W:World)(b2:Nat)(E:List (Pt×Value×Nat))(R:List (Pt×List Pt)):Prop where
 blk:W.heap[b2]?=some (.map (AK Af E).toArray E.length)
 len:E.length=R.length
 row:∀i (h:i<E.length) (h':i<R.length),E[i].1=R[i].1/\E[i].2.2=i/\W.ownsRow B 24 2 E[i].2.1 R[i].2.length (flat (Ag R[i].2))
 apart:∀i j (hi:i<E.length) (hj:j<E.length),i≠j→E[i].2.1.ownBlock=none∨E[i].2.1.ownBlock≠E[j].2.1.ownBlock
 own:B<=b2
theorem El.lt{B:Nat}{W:World}{b2:Nat}{E:List (Pt×Value×Nat)}{R:List (Pt×List Pt)}(h:El B W b2 E R):b2<W.heap.size:=(Array.getElem?_eq_some_iff.1 h.blk).1
theorem El.keep{B:Nat}{W W':World}{b2:Nat}{E:List (Pt×Value×Nat)}{R:List (Pt×List Pt)}(h:El B W b2 E R)(hg:W.grownBy W' none):El B W' b2 E R:=
 ⟨(hg.block b2 h.lt (by simp)).trans h.blk,h.len,fun i hi hi'=>⟨(h.row i hi hi').1,(h.row i hi hi').2.1,(h.row i hi hi').2.2.kept hg (by
  rcases hv:E[i].2.1.ownBlock with _|g
  ·exact .inl rfl
  ·exact .inr (by simp))⟩,h.apart,h.own⟩
theorem eS{E:List (Pt×Value×Nat)}{R:List (Pt×List Pt)}(hl:E.length=R.length)(he:∀i (h:i<E.length) (h':i<R.length),E[i].1=R[i].1)(p:Pt):E.findIdx? (fun e=>Aq p e.1)=R.findIdx? (fun e=>Aq p e.1):=by
 have h1:E.map (·.1)=R.map (·.1):=by
  apply List.ext_getElem
  ·simp [hl]
  ·intro i h1 h2;simp at h1 h2 ⊢;exact he i h1 h2
 have f:∀{β:Type} (l:List (Pt×β)),l.findIdx? (fun e=>Aq p e.1)=(l.map (·.1)).findIdx? (Aq p):=by
  intro β l;rw [List.findIdx?_map]
  rfl
 rw [f E,f R,h1]
theorem LQ{w:World}{b:Nat}{o o':Obj}(_:w.heap[b]?=some o'):w.grownBy (setBlock w b o) (some b):=
 ⟨rfl,rfl,rfl,by simp [setBlock],fun k _ hk=>VR (fun e=>hk (by rw [e]))⟩
theorem El.entry{B:Nat}{W:World}{b2:Nat}{E:List (Pt×Value×Nat)}{R:List (Pt×List Pt)}(h:El B W b2 E R)(p:Pt) :
  ∃W1 E1,El B W1 b2 E1 (Hd R p)/\W.grownBy W1 (some b2)/\W1.heap.size=W.heap.size/\∃hj:G9 R p<E1.length,∃hj':G9 R p<(Hd R p).length,((Hd R p)[G9 R p]).1=p/\
   (∀V,V.heap[b2]?=W.heap[b2]?→(Instr.mapEntry 96 (.map (some b2)) (Af p)).run Tryz.prog V=.ok (.tuple #[E1[G9 R p].2.1,.int .i64 (G9 R p:Nat)]) (setBlock V b2 (.map (AK Af E1).toArray E1.length)))/\W1=setBlock W b2 (.map (AK Af E1).toArray E1.length):=by
 have DY:=eS h.len (fun i h1 h2=>(h.row i h1 h2).1) p
 cases hf:R.findIdx? (fun e=>Aq p e.1)with
 | none=>
  have e1:G9 R p=R.length:=(by unfold G9;rw [hf];rfl);have e2:Hd R p=R ++ [(p,[])]:=(by unfold Hd;rw [hf]);rw [hf]at DY;have hno:∀e∈E,Aq p e.1=false:=(by rw [List.findIdx?_eq_none_iff]at DY;exact DY);have hnew:=pT RN p E hno (W:=W) h.blk;rw [e2];refine⟨_,E ++ [(p,.slice none 0 0,E.length)],⟨?_,?_,?_,?_,h.own⟩,LQ h.blk,?_,?_,?_,?_,?_,rfl⟩
  ·rw [MI h.blk]
  ·simp [h.len]
  ·intro i hi hi';by_cases hlt:i<E.length
   ·have Rr:i<R.length:=(by rw [←h.len];exact hlt);rw [List.getElem_append_left hlt,List.getElem_append_left Rr];obtain⟨r1,r2,r3⟩:=h.row i hlt Rr;refine⟨r1,r2,r3.kept (LQ h.blk) ?_⟩
    rcases r3.2 with⟨hn,_⟩|⟨g,cap,cur,hv,hb,hg,_⟩
    ·left;rw [hn];rfl
    ·right
     rw [hv];simp only [Value.ownBlock,ne_eq,As4];intro e;rw [e,h.blk]at hg
     cases hg
   ·have Ro:i=E.length:=(by simp at hi;omega);subst Ro;rw [List.getElem_append_right (by omega),List.getElem_append_right (by rw [h.len];omega)];simp only [Nat.sub_self,List.getElem_cons_zero,h.len];exact⟨by trivial,by trivial,⟨rfl,.inl ⟨rfl,rfl⟩⟩⟩
  ·intro i j hi hj Bj;by_cases Lc:i<E.length
   ·rw [List.getElem_append_left Lc];by_cases Ay:j<E.length
    ·rw [List.getElem_append_left Ay];exact h.apart i j Lc Ay Bj
    ·rw [List.getElem_append_right (by omega)];have NT:j=E.length:=(by simp at hj;omega);subst NT;simp only [Nat.sub_self,List.getElem_cons_zero]
     cases E[i].2.1.ownBlock with
     | none=>left;rfl
     | some g=>right;simp [Value.ownBlock]
   ·rw [List.getElem_append_right (by omega)];have Ro:i=E.length:=(by simp at hi;omega);subst Ro
    left
    simp [Value.ownBlock]
  ·simp [setBlock]
  ·rw [e1,←h.len];simp
  ·rw [e1];simp
  ·simp only [e1];rw [List.getElem_append_right (by omega)];simp
  ·intro V hV;have hnV:=pT RN p E hno (W:=V) (hV.trans h.blk);rw [hnV];simp only [e1];rw [List.getElem_append_right (by rw [h.len];omega)];simp [h.len]
 | some j=>
  have e1:G9 R p=j:=(by unfold G9;rw [hf];rfl);have e2:Hd R p=R:=(by unfold Hd;rw [hf]);rw [hf]at DY;rw [List.findIdx?_eq_some_iff_getElem]at DY;obtain⟨hj,h1,h2⟩:=DY;have hj':j<R.length:=by rw [←h.len];exact hj
  have hno:∀e∈E.take j,Aq p e.1=false:=by
   intro e he;rw [List.mem_take_iff_getElem]at he;obtain⟨i,hi,rfl⟩:=he;have:=h2 i (by omega)
   simpa using this
  have hk:E[j].1=p:=(Ca.1 h1).symm;rw [e2];refine⟨W,E,h,⟨rfl,rfl,rfl,As0 _,fun _ _ _=>rfl⟩,rfl,by rw [e1];exact hj,by rw [e1];exact hj',?_,?_,(pY h.blk).symm⟩
  ·simp only [e1];rw [←(h.row j hj hj').1];exact hk
  ·intro V hV;have hb:=hV.trans h.blk;have:=Aof RN p E hj hno hk (W:=V) hb;rw [this,pY hb];simp only [e1,(h.row j hj hj').2.1]
end
section
open Go.ChangeMaps (setBlock)
theorem El.append{B:Nat}{Y:World}{b2:Nat}{E:List (Pt×Value×Nat)}{R:List (Pt×List Pt)}(h:El B Y b2 E R)(hB:B<=Y.heap.size){j:Nat}(hj:j<E.length)(hj':j<R.length)(hn:R[j].2.length<200000)
  (q:Pt) {g:Nat} (hg:Y.heap[g]?=some (.cells #[S (Kl.R q.x),S (Kl.R q.y)] 24)) (ty:TypeId) :
  ∃v' Z Z',(Builtin.append_ #[31,31] ty #[E[j].2.1,.slice (some ⟨g,0,none⟩) 1 1]).run Tryz.prog Y=.ok v' Z/\Y.grownBy Z E[j].2.1.ownBlock
   /\(Instr.entryStore 96 (.map (some b2)) (.int .i64 (j:Nat)) v').run Tryz.prog Z=.ok () Z'/\Z.grownBy Z' (some b2)/\El B Z' b2 (E.set j (E[j].1,v',j)) (R.modify j (fun e=>(e.1,e.2 ++ [q]))):=by
 obtain⟨i0,hi,hz0,hz1,hz2⟩:=info_parts Tryz.infoPt;obtain⟨r1,r2,r3⟩:=h.row j hj hj'
 obtain⟨v',Z,hr,hown,hgr,_,hat⟩:=run_append_own_at (P:=Tryz.prog) Y B 31 ty 24 i0 (.agg #[S [],S []]) 2 32 Tryz.underlying31 hi hz0 hz1 hz2 rfl (by omega) E[j].2.1 R[j].2.length (flat (Ag R[j].2)) r3
  ⟨g,0,none⟩ 1 1 [S (Kl.R q.x),S (Kl.R q.y)] rfl (fun k u hu=>by
   rw [Addr.add_lit,Nat.zero_add];refine Aa hg ?_;rw [←Array.getElem?_toList]
   exact hu) (fun u hu=>by
   simp only [List.mem_cons,AsB,or_false]at hu
   rcases hu with rfl|rfl<;>rfl) (by unfold maxLen;omega) (by omega) hB
 rw [←pN]at hown
 have hb2:Z.heap[b2]?=Y.heap[b2]?:=hgr.block b2 h.lt (by
  rcases r3.2 with⟨hv,_⟩|⟨g0,cap,cur,hv,_,hg0,_⟩
  ·rw [hv];simp [Value.ownBlock]
  ·rw [hv];simp only [Value.ownBlock,ne_eq,As4];intro e;rw [←e,h.blk]at hg0
   cases hg0)
 have Ye:=hb2.trans h.blk
 have hno:∀e∈E.take j,e.2.2≠E[j].2.2:=by intro e he;rw [List.mem_take_iff_getElem]at he;obtain⟨i,hi,rfl⟩:=he;rw [(h.row i (by omega) (by rw [←h.len];omega)).2.1,r2];omega
 have hst:=AbB (enc:=Af) 96 E hj hno v' Ye;rw [r2]at hst;have kH:=LQ (o:=.map (AK Af (E.set j (E[j].1,v',j))).toArray E.length) Ye;refine⟨v',Z,_,hr,hgr,hst,kH,⟨?_,?_,?_,?_,h.own⟩⟩
 ·rw [MI Ye];simp
 ·simp [h.len]
 ·intro i hi hi';have NS:i<E.length:=(by simpa using hi);have Mo:i<R.length:=(by simpa using hi');by_cases Bj:j=i
  ·subst Bj;rw [List.getElem_set_self,List.getElem_modify_eq];refine⟨r1,rfl,?_⟩;have hl:(R[j].2 ++ [q]).length=R[j].2.length+1:=(by simp);simp only [hl];refine hown.kept kH ?_
   rcases hown.2 with⟨hv,_⟩|⟨g0,cap,cur,hv,_,hg0,_⟩
   ·left;rw [hv];rfl
   ·right
    rw [hv];simp only [Value.ownBlock,ne_eq,As4];intro e;rw [e,Ye]at hg0
    cases hg0
  ·rw [List.getElem_set_ne Bj];have hm:(R.modify j (fun e=>(e.1,e.2 ++ [q])))[i]=R[i]:=(by rw [List.getElem_modify,if_neg Bj]);rw [hm];obtain⟨s1,s2,s3⟩:=h.row i NS Mo;refine⟨s1,s2,(s3.kept hgr (h.apart i j NS hj (fun e=>Bj e.symm))).kept kH ?_⟩
   rcases s3.2 with⟨hv,_⟩|⟨g0,cap,cur,hv,_,hg0,_⟩
   ·left;rw [hv];rfl
   ·right
    rw [hv];simp only [Value.ownBlock,ne_eq,As4];intro e;rw [e,h.blk]at hg0
    cases hg0
 ·intro i k hi hk hik;have NS:i<E.length:=(by simpa using hi);have UH:k<E.length:=by simpa using hk
  have hlt:∀x (hx:x<E.length) (hx':x<R.length),E[x].2.1.ownBlock≠some Y.heap.size:=by
   intro x hx hx'
   rcases(h.row x hx hx').2.2.2 with⟨hv,_⟩|⟨g0,cap,cur,hv,_,hg0,_⟩
   ·rw [hv];simp [Value.ownBlock]
   ·rw [hv];have:=(Array.getElem?_eq_some_iff.1 hg0).1;simp only [Value.ownBlock,ne_eq,As4];omega
  by_cases Bj:j=i
  ·subst Bj;rw [List.getElem_set_self,List.getElem_set_ne hik]
   rcases hat with e|e
   ·rw [e];exact h.apart j k NS UH hik
   ·rw [e];right;exact fun e'=>hlt k UH (by rw [←h.len];exact UH) e'.symm
  ·rw [List.getElem_set_ne Bj];by_cases hjk:j=k
   ·subst hjk;rw [List.getElem_set_self]
    rcases hat with e|e
    ·rw [e];exact h.apart i j NS UH hik
    ·rw [e];right;exact hlt i NS (by rw [←h.len];exact NS)
   ·rw [List.getElem_set_ne hjk];exact h.apart i k NS UH hik
end
section
open Go.ChangeMaps (setBlock)
def stamp(L:List (Sg×Int)):List (Sg×Value×Nat):=L.mapIdx fun i e=>(e.1,.int .i64 e.2,i)
theorem Eg(L:List (Sg×Int)):(stamp L).length=L.length:=by simp [stamp]
theorem Ack(L:List (Sg×Int))(e:Sg×Int):stamp (L ++ [e])=stamp L ++ [(e.1,.int .i64 e.2,L.length)]:=by simp [stamp,List.mapIdx_append]
theorem qK{L:List (Sg×Int)}{x:Sg×Value×Nat}(h:x∈stamp L):∃e∈L,x.1=e.1:=by
 unfold stamp at h;rw [List.mem_mapIdx]at h;obtain⟨i,hi,rfl⟩:=h;exact⟨L[i],As1 hi,rfl⟩
theorem Apc{L:List (Sg×Int)}{x:Sg×Value×Nat}(h:x∈stamp L):x.2.2<L.length:=by
 unfold stamp at h;rw [List.mem_mapIdx]at h;obtain⟨i,hi,rfl⟩:=h;exact hi
structure B7(B:Nat)(W:World)(r b1 b2:Nat)(L:List (Sg×Int))(E:List (Pt×Value×Nat))(R:List (Pt×List Pt)):Prop where
 cell:W.heap[r]?=some (.cells #[.map (some b1),.map (some b2)] 98)
 left:W.heap[b1]?=some (.map (AK A8 (stamp L)).toArray L.length)
 ar:El B W b2 E R
 r0:B<=r
 r1:B<=b1
 ne:b1≠b2
theorem yv{W:World}{b1:Nat}{L:List (Sg×Int)}(h:W.heap[b1]?=some (.map (AK A8 (stamp L)).toArray L.length))(s:Sg)(hno:∀e∈L,AU s e.1=false)(z:Int) :
  ∃X,(Instr.mapEntry 95 (.map (some b1)) (A8 s)).run Tryz.prog W=.ok (.tuple #[.int .i64 0,.int .i64 (L.length:Nat)]) X
   /\W.grownBy X (some b1)/\X.heap.size=W.heap.size
   /\∃Z,(Instr.entryStore 95 (.map (some b1)) (.int .i64 (L.length:Nat)) (.int .i64 z)).run Tryz.prog X=.ok () Z/\W.grownBy Z (some b1)/\Z.heap.size=W.heap.size/\Z.heap[b1]?=some (.map (AK A8 (stamp (L ++ [(s,z)]))).toArray (L ++ [(s,z)]).length):=by
 have AjA:∀e∈stamp L,AU s e.1=false:=by intro e he;obtain⟨x,hx,h1⟩:=qK he;rw [h1];exact hno x hx
 have h1:=pT Za s (stamp L) AjA (W:=W) h;have hb:=MI (o:=.map (AK A8 (stamp L ++ [(s,.int .i64 0,L.length)])).toArray (L.length+1)) h;have hlt:L.length<(stamp L ++ [(s,Value.int .i64 0,L.length)]).length:=by simp [Eg]
 have hge:(stamp L ++ [(s,Value.int .i64 0,L.length)])[L.length]=(s,.int .i64 0,L.length):=by rw [List.getElem_append_right (by rw [Eg];omega)];simp [Eg]
 have h2:=AbB (enc:=A8) 95 (stamp L ++ [(s,.int .i64 0,L.length)]) hlt (by
  intro e he;rw [hge]
  have:e∈stamp L:=by rw [List.take_append_of_le_length (by rw [Eg];omega),As8 (by rw [Eg];omega)]at he;exact he
  have:=Apc this;show e.2.2≠L.length
  omega) (.int .i64 z) hb
 rw [hge]at h2
 have AA:(stamp L ++ [(s,Value.int .i64 0,L.length)]).set L.length (s,.int .i64 z,L.length)=stamp (L ++ [(s,z)]):=by rw [Ack,List.set_append_right _ _ (by rw [Eg];omega)];simp [Eg]
 rw [AA]at h2;refine⟨_,h1,LQ h,by simp [setBlock],_,h2,?_,by simp [setBlock],?_⟩
 ·exact⟨rfl,rfl,rfl,by simp [setBlock],fun k _ hk=>by
   have hkb:k≠b1:=fun e=>hk (by rw [e])
   rw [VR hkb,VR hkb]⟩
 ·rw [MI hb];simp
end
section
open Go.ChangeMaps (setBlock)
theorem QA{w w':World}{row:Option Nat}(hg:w.grownBy w' row){a:Addr}{v:Value}(h:w.cell? a=some v)(hn:some a.block≠row):w'.cell? a=some v:=by
 have hlt:a.block<w.heap.size:=by
  unfold World.cell? at h
  rcases Nat.lt_or_ge a.block w.heap.size with h'|h'
  ·exact h'
  ·simp [Array.getElem?_eq_none h']at h
 exact(World.cell?_of_block (hg.block a.block hlt hn)).trans h
theorem Hm{w w':World}(h:Ab w w')(row:Option Nat):w.grownBy w' row:=⟨h.os,h.tape,h.output,h.size,fun k hk _=>h.block k hk⟩
theorem OT{a b c:World}{row:Option Nat}(h:a.grownBy b row)(k:b.grownBy c row):a.grownBy c row:=
 ⟨k.os.trans h.os,k.tape.trans h.tape,k.output.trans h.output,AsA h.size k.size,fun i hi hr=>(k.block i (As9 hi h.size) hr).trans (h.block i hi hr)⟩
theorem below_grown{B:Nat}{w w':World}{b:Nat}(hg:w.grownBy w' (some b))(hb:B<=b)(hB:B<=w.heap.size):Below B w w':=
 ⟨hg.os,hg.tape,hg.output,hg.size,fun k hk=>hg.block k (by omega) (by intro e;cases e;omega)⟩
theorem Aln{W:World}{b1:Nat}{L:List (Sg×Int)}(h:W.heap[b1]?=some (.map (AK A8 (stamp L)).toArray L.length))(s:Sg)(h1:∀e∈L,AU s e.1=false)(h2:∀e∈L,AU (Bg s) e.1=false)(hne:AU (Bg s) s=false)(y z:Int) :
  ∃(n1:Nat) (X Z X2 Z2:World),(Instr.mapEntry 95 (.map (some b1)) (A8 s)).run Tryz.prog W=.ok (.tuple #[.int .i64 0,.int .i64 (L.length:Nat)]) X
   /\(Instr.entryStore 95 (.map (some b1)) (.int .i64 (L.length:Nat)) (.int .i64 y)).run Tryz.prog X=.ok () Z
   /\(Instr.mapEntry 95 (.map (some b1)) (A8 (Bg s))).run Tryz.prog Z=.ok (.tuple #[.int .i64 0,.int .i64 (n1:Nat)]) X2
   /\(Instr.entryStore 95 (.map (some b1)) (.int .i64 (n1:Nat)) (.int .i64 z)).run Tryz.prog X2=.ok () Z2
   /\W.grownBy X (some b1)/\W.grownBy Z (some b1)/\W.grownBy X2 (some b1)/\W.grownBy Z2 (some b1)/\Z2.heap.size=W.heap.size/\Z2.heap[b1]?=some (.map (AK A8 (stamp (L ++ [(s,y),(Bg s,z)]))).toArray (L ++ [(s,y),(Bg s,z)]).length):=by
 obtain⟨X,e1,g1,s1,Z,e2,g2,s2,hb⟩:=yv h s h1 y
 obtain⟨X2,e3,g3,s3,Z2,e4,g4,s4,hb2⟩:=yv hb (Bg s) (by
  intro e he
  rcases List.mem_append.1 he with he|he
  ·exact h2 e he
  ·simp only [AsC]at he;subst he;exact hne) z
 have hl:(L ++ [(s,y)]).length=L.length+1:=(by simp);rw [hl]at e3 e4;rw [List.append_assoc]at hb2;exact⟨L.length+1,X,Z,X2,Z2,e1,e2,e3,e4,g1,g2,OT g2 g3,OT g2 g4,by omega,hb2⟩
section
variable {ops : Array Oper} {o : Oper} {a : Act} {K : Act → World → Prop} {Q : Exit → Act → World → Prop} {E : Prop}
theorem Acn(hgd:o.guard=none)(s x:Operand)(ho:o.op=.call {callee:=.builtin .append,args:=#[s,x],argTypes:=#[31,31]})
  {v u v':Value} {w Z:World} (hs:a.eval s=v) (hx:a.eval x=u) (hr:(Builtin.append_ #[31,31] o.type #[v,u]).run Tryz.prog w=.ok v' Z) (h:K (a.put o.dst v') Z) :
  if Region.wanted o (yielded ops a.tmps)=true then Oper.wp Tryz.prog o a w K Q else E:=by
 have hw:Region.wanted o (yielded ops a.tmps)=true:=(by simp [Region.wanted,hgd]);rw [if_pos hw];unfold Oper.wp execOp;simp only [ho,resolve,invoke,builtin,Sem.run_bind,Sem.run_pure,Result.andThen_ok,List.map_toArray,List.map_cons,List.map_nil,hs,hx,hr];exact h
end
def BX(b2:Nat)(W V:World):Prop:=W.heap.size<=V.heap.size/\∀k o,W.heap[k]?=some o→k≠b2→(∀cs,o≠.cells cs 24 (0,0))→V.heap[k]?=some o
theorem BX.trans{b2:Nat}{a b c:World}(h:BX b2 a b)(k:BX b2 b c):BX b2 a c:=
 ⟨AsA h.1 k.1,fun i o h1 h2 h3=>k.2 i o (h.2 i o h1 h2 h3) h2 h3⟩
theorem BX.of_ext{b2:Nat}{a b:World}(h:Ab a b):BX b2 a b:=⟨h.size,fun i _ h1 _ _=>(h.block i (Array.getElem?_eq_some_iff.1 h1).1).trans h1⟩
theorem BX.of_grown{b2:Nat}{a b:World}(h:a.grownBy b (some b2)):BX b2 a b:=⟨h.size,fun i _ h1 h2 _=>(h.block i (Array.getElem?_eq_some_iff.1 h1).1 (by simp;exact h2)).trans h1⟩
theorem uS{R:List (Pt×List Pt)}{p:Pt}{n:Nat}(h:∀e∈R,e.2.length<=n):∀e∈Hd R p,e.2.length<=n:=by
 unfold Hd
 split
 ·exact h
 ·intro e he
  rcases List.mem_append.1 he with he|he
  ·exact h e he
  ·simp only [AsC]at he;subst he;simp
theorem cQ{R:List (Pt×List Pt)}{p q:Pt}{n:Nat}(h:∀e∈R,e.2.length<=n):∀e∈Dw R p q,e.2.length<=n+1:=by
 intro e he;unfold Dw at he;obtain⟨i,hi,rfl⟩:=List.getElem_of_mem he;rw [List.getElem_modify];have hi':i<(Hd R p).length:=(by simpa using hi);have:=uS (p:=p) h _ (As1 hi')
 split
 ·simp;omega
 ·omega
theorem uT{B:Nat}{W:World}{b2:Nat}{E:List (Pt×Value×Nat)}{R0:List (Pt×List Pt)}(h:El B W b2 E R0)(hB:B<=W.heap.size)(p q:Pt)(hn:∀e∈R0,e.2.length<=100000) :
  ∃(j:Nat) (v v':Value) (X Z Z':World) (E':List (Pt×Value×Nat)),
   (Instr.mapEntry 96 (.map (some b2)) (Af p)).run Tryz.prog (W.alloc (.cells #[S (R q.x),S (R q.y)] 24)).drew=.ok (.tuple #[v,.int .i64 (j:Nat)]) X
   /\(∀ty,ty=31→(Builtin.append_ #[31,31] ty #[v,.slice (some ⟨W.heap.size,0,none⟩) 1 1]).run Tryz.prog X=.ok v' Z)
   /\(Instr.entryStore 96 (.map (some b2)) (.int .i64 (j:Nat)) v').run Tryz.prog Z=.ok () Z'
   /\BX b2 W X/\BX b2 W Z/\BX b2 W Z'/\Below B W Z'/\El B Z' b2 E' (Dw R0 p q):=by
 have hx:=((Ab.refl W).alloc (.cells #[S (R q.x),S (R q.y)] 24)).drew;have hg0:(W.alloc (.cells #[S (R q.x),S (R q.y)] 24)).drew.heap[W.heap.size]?=_:=Asz W (.cells #[S (R q.x),S (R q.y)] 24);have hA:=h.keep (Hm hx none);obtain⟨X,E1,hA1,g1,s1,hj,hj',hk,hrun,hX⟩:=hA.entry p;have hgX:X.heap[W.heap.size]?=some (.cells #[S (R q.x),S (R q.y)] 24):=(g1.block _ (by simp) (by have:=h.lt;simp;omega)).trans hg0;have zR:B<=X.heap.size:=by rw [s1];simp;omega
 have hlen:((Hd R0 p)[G9 R0 p]).2.length<200000:=by have:=uS hn _ (As1 hj');omega
 obtain⟨v',Z,Z',hr,gZ,hst,zI,hA2⟩:=hA1.append zR hj hj' hlen q hgX 31;have qI:BX b2 W X:=(BX.of_ext hx).trans (BX.of_grown g1)
 have stZ:BX b2 X Z:=by
  refine⟨gZ.size,fun k o h1 _ h3=>(gZ.block k (Array.getElem?_eq_some_iff.1 h1).1 ?_).trans h1⟩
  rcases(hA1.row _ hj hj').2.2.2 with⟨hv,_⟩|⟨g,cap,cur,hv,_,hg,_⟩
  ·rw [hv];simp [Value.ownBlock]
  ·rw [hv];simp only [Value.ownBlock,ne_eq,As4];intro e;rw [e,hg]at h1;exact h3 cur (Option.some.inj h1).symm
 have bZ:Below B X Z:=⟨gZ.os,gZ.tape,gZ.output,gZ.size,fun k hkB=>gZ.block k (by omega) (by
  rcases(hA1.row _ hj hj').2.2.2 with⟨hv,_⟩|⟨g,cap,cur,hv,hb,_⟩
  ·rw [hv];simp [Value.ownBlock]
  ·rw [hv];simp only [Value.ownBlock,ne_eq,As4];omega)⟩
 have bb:=h.own;have XF:B<=Z.heap.size:=AsA zR gZ.size;have Af4:Below B W Z':=((Below.mono hx hB).trans (below_grown g1 bb (by simp;omega))).trans (bZ.trans (below_grown zI bb XF));refine⟨G9 R0 p,E1[G9 R0 p].2.1,v',X,Z,Z',_,?_,?_,hst,qI,qI.trans stZ,qI.trans (stZ.trans (BX.of_grown zI)),Af4,hA2⟩
 ·rw [hX];exact hrun _ rfl
 ·intro ty Jp;subst Jp;exact hr
theorem cS{B:Nat}{w:World}{r b1 b2:Nat}{L:List (Sg×Int)}{E:List (Pt×Value×Nat)}{R0:List (Pt×List Pt)}(h:B7 B w r b1 b2 L E R0)(hB:B<=w.heap.size)(s:Sg)(y z:Int)
  (h1:∀e∈L,AU s e.1=false) (h2:∀e∈L,AU (Bg s) e.1=false) (hne:AU (Bg s) s=false) (hn:∀e∈R0,e.2.length<=90000) :
  Calls Tryz.prog 89 #[.pointer (some ⟨r,0,none⟩),A8 s,.int .i64 y,.int .i64 z] w (fun e w'=>e=.returned (.tuple #[])/\Below B w w'/\(∀k o,w.heap[k]?=some o→k≠b1→k≠b2→(∀cs,o≠.cells cs 24 (0,0))→w'.heap[k]?=some o)/\∃E',B7 B w' r b1 b2 (L ++ [(s,y),(Bg s,z)]) E' (Dw (Dw R0 s.a s.b) s.b s.a)):=by
 have hE:=(Ab.refl w).alloc (.cells #[S (R s.a.x),S (R s.a.y),S (R s.b.x),S (R s.b.y)] 140);have Bz:=Asz w (.cells #[S (R s.a.x),S (R s.a.y),S (R s.b.x),S (R s.b.y)] 140);obtain⟨hc,hl,ha,hr0,hr1,AZ⟩:=h;have hcl:=Asy hc;have DK:=(Array.getElem?_eq_some_iff.1 hl).1;have QV:=ha.lt;have bk:=Xc s;unfold A8 at bk;unfold A8;go_enter Tryz.func89,Tryz.ntmps89
 go_upto_region 1 with fail
 replace hc:=(hE.block r hcl).trans hc;replace hl:=(hE.block b1 DK).trans hl;replace ha:=ha.keep (Hm hE none);generalize hV:w.alloc (.cells #[S (R s.a.x),S (R s.a.y),S (R s.b.x),S (R s.b.y)] 140)=V at *;obtain⟨bs,Uz⟩:=Asw w.heap.size;rw [←Uz]at Bz ⊢;have nr:b1≠r:=(by intro e;rw [e,hc]at hl;cases hl);have ns:b1≠bs:=(by omega);have nbs:B<=bs:=(by omega);have nrs:r≠bs:=(by omega);have nT:b2≠bs:=(by omega);have nle:w.heap.size<=bs:=(by omega);have HV:=Asx hV;clear Uz hV
 have SO:∀w',V.grownBy w' (some b1)→(w'.cell? ⟨r,0,none⟩=some (.map (some b1))/\w'.cell? ⟨r,1,none⟩=some (.map (some b2))/\w'.cell? ⟨bs,0,none⟩=some (S (R s.a.x))/\w'.cell? ⟨bs,1,none⟩=some (S (R s.a.y))/\w'.cell? ⟨bs,2,none⟩=some (S (R s.b.x))/\w'.cell? ⟨bs,3,none⟩=some (S (R s.b.y))):=fun w' hg=>⟨QA hg (Aa hc rfl) (by simp;omega),QA hg (Aa hc rfl) (by simp;omega),QA hg (Aa Bz rfl) (by simp;omega),QA hg (Aa Bz rfl) (by simp;omega),QA hg (Aa Bz rfl) (by simp;omega),QA hg (Aa Bz rfl) (by simp;omega)⟩
 have t0:V.grownBy V.drew (some b1):=Hm (Ab.refl V).drew _
 go_region_held3 (fun w'=>w'.cell? ⟨r,0,none⟩=some (.map (some b1))/\w'.cell? ⟨r,1,none⟩=some (.map (some b2))/\w'.cell? ⟨bs,0,none⟩=some (S (R s.a.x))/\w'.cell? ⟨bs,1,none⟩=some (S (R s.a.y))/\w'.cell? ⟨bs,2,none⟩=some (S (R s.b.x))/\w'.cell? ⟨bs,3,none⟩=some (S (R s.b.y)))
  (first|with_reducible exact SO _ t0|with_reducible exact SO _ t1|with_reducible exact SO _ t2|with_reducible exact SO _ t3|with_reducible exact SO _ t4|with_reducible exact SO _ t5)
  (first|((with_reducible refine(bk _).mono ?_);rintro e w1 ⟨rfl,hx1⟩;have t1:V.grownBy w1 (some b1):=OT t0 (Hm hx1 _);obtain⟨n1,X,Z,X2,Z2,e1,e2,e3,e4,u1,u2,u3,u4,u5,u6⟩:=Aln (((Ab.refl V).drew.trans hx1).block b1 (Asy hl) |>.trans hl) s h1 h2 hne y z;have t2:=OT t1 u1;have t3:=OT t1 u2;have t4:=OT t1 u3;have t5:=OT t1 u4;unfold A8 at e1 e3))
 have gz:V.grownBy Z2 (some b1):=t5;have Zi:r≠b2:=(by intro e;rw [e,ha.blk]at hc;cases hc);have hc1:=(gz.block r (Asy hc) (by simp;omega)).trans hc;have hb1:=(gz.block bs (Asy Bz) (by simp;omega)).trans Bz;have Ph:El B V b2 E R0:=ha
 have fq:El B Z2 b2 E R0:=by
  refine⟨(gz.block b2 Ph.lt (by simp;omega)).trans Ph.blk,Ph.len,fun i hi hi'=>?_,Ph.apart,Ph.own⟩;obtain⟨s1,s2,s3⟩:=Ph.row i hi hi';refine⟨s1,s2,s3.kept gz ?_⟩
  rcases s3.2 with⟨hv,_⟩|⟨g,cap,cur,hv,_,hg,_⟩
  ·left;rw [hv];rfl
  ·right
   rw [hv];simp only [Value.ownBlock,ne_eq,As4];intro e;rw [e,hl]at hg
   cases hg
 have OE:=Asx u6;have GZ:=Asx (show ∀k o,w.heap[k]?=some o→k≠b1→Z2.heap[k]?=some o from fun k o q1 q2=>(gz.block k (As9 (Array.getElem?_eq_some_iff.1 q1).1 hE.size) (by simp;exact q2)).trans ((hE.block k (Array.getElem?_eq_some_iff.1 q1).1).trans q1));have bz:Below B w Z2:=(Below.mono hE hB).trans (below_grown gz hr1 (by have:=hE.size;omega));have BZ:=Asx bz;have HC:=Asx hc;have XF:B<=Z2.heap.size:=(by have:=gz.size;have:=hE.size;omega);clear SO t0 t1 t2 t3 t4 t5 e1 e2 e3 e4 u1 u2 u3 u4 u5 u6 ha Ph hc hl Bz hx1 bz gz;obtain⟨j1,v1,u1,X1,Y1,Q1,E1,c1,c2,c3,y1,y2,y3,y4,y5⟩:=uT fq XF s.a s.b (fun e he=>AsA (hn e he) (by omega));replace c2:=c2 _ rfl
 have Qr:∀w',BX b2 Z2 w'→(w'.cell? ⟨r,0,none⟩=some (.map (some b1))/\w'.cell? ⟨r,1,none⟩=some (.map (some b2))/\w'.cell? ⟨bs,0,none⟩=some (S (R s.a.x))/\w'.cell? ⟨bs,1,none⟩=some (S (R s.a.y))/\w'.cell? ⟨bs,2,none⟩=some (S (R s.b.x))/\w'.cell? ⟨bs,3,none⟩=some (S (R s.b.y))):=fun w' hg=>
  have z1:=hg.2 r _ hc1 Zi (by intro cs e;cases e);have z2:=hg.2 bs _ hb1 (fun e=>nT e.symm) (by intro cs e;cases e)
  ⟨Aa z1 rfl,Aa z1 rfl,Aa z2 rfl,Aa z2 rfl,Aa z2 rfl,Aa z2 rfl⟩
 have t0:BX b2 Z2 Z2.drew:=BX.of_ext (Ab.refl Z2).drew;have t1:BX b2 Z2 (Z2.alloc (.cells #[S (R (s.b).x),S (R (s.b).y)] 24)).drew:=BX.of_ext ((Ab.refl _).alloc _).drew;unfold Af at c1;(go_wp2_with fail)
 go_region_held3 (fun w'=>w'.cell? ⟨r,0,none⟩=some (.map (some b1))/\w'.cell? ⟨r,1,none⟩=some (.map (some b2))/\w'.cell? ⟨bs,0,none⟩=some (S (R s.a.x))/\w'.cell? ⟨bs,1,none⟩=some (S (R s.a.y))/\w'.cell? ⟨bs,2,none⟩=some (S (R s.b.x))/\w'.cell? ⟨bs,3,none⟩=some (S (R s.b.y)))
  (first|with_reducible exact Qr _ t0|with_reducible exact Qr _ t1|with_reducible exact Qr _ y1|with_reducible exact Qr _ y2|with_reducible exact Qr _ y3)
  (first|(refine Acn (s:=.tmp 31) (x:=.tmp 34) ?hgd ?ho ?hs ?hx c2 ?h;(case hgd=>rfl);(case ho=>rfl);(case hs=>rfl);(case hx=>rfl)))
 have haQ:=y5;have hBQ:B<=Q1.heap.size:=AsA XF y3.1;have hc2:=y3.2 r _ hc1 Zi (by intro cs e;cases e);have iV:=y3.2 bs _ hb1 (fun e=>nT e.symm) (by intro cs e;cases e);have Y3:=Asx y3;have Y4:=Asx y4;clear Qr t0 t1 c1 c2 c3 y1 y2 y3 y4 y5 fq hc1 hb1;obtain⟨j2,v2,u2,X2',Y2',Q2,E2,c1,c2,c3,y1,y2,ZV,y4',y5'⟩:=uT haQ hBQ s.b s.a (fun e he=>AsA (cQ hn e he) (by omega));replace c2:=c2 _ rfl
 have To:∀w',BX b2 Q1 w'→(w'.cell? ⟨r,0,none⟩=some (.map (some b1))/\w'.cell? ⟨r,1,none⟩=some (.map (some b2))/\w'.cell? ⟨bs,0,none⟩=some (S (R s.a.x))/\w'.cell? ⟨bs,1,none⟩=some (S (R s.a.y))/\w'.cell? ⟨bs,2,none⟩=some (S (R s.b.x))/\w'.cell? ⟨bs,3,none⟩=some (S (R s.b.y))):=fun w' hg=>
  have z1:=hg.2 r _ hc2 Zi (by intro cs e;cases e);have z2:=hg.2 bs _ iV (fun e=>nT e.symm) (by intro cs e;cases e)
  ⟨Aa z1 rfl,Aa z1 rfl,Aa z2 rfl,Aa z2 rfl,Aa z2 rfl,Aa z2 rfl⟩
 have t0:BX b2 Q1 Q1.drew:=BX.of_ext (Ab.refl Q1).drew;have t1:BX b2 Q1 (Q1.alloc (.cells #[S (R (s.a).x),S (R (s.a).y)] 24)).drew:=BX.of_ext ((Ab.refl _).alloc _).drew;unfold Af at c1;(go_wp2_with fail)
 go_region_held3 (fun w'=>w'.cell? ⟨r,0,none⟩=some (.map (some b1))/\w'.cell? ⟨r,1,none⟩=some (.map (some b2))/\w'.cell? ⟨bs,0,none⟩=some (S (R s.a.x))/\w'.cell? ⟨bs,1,none⟩=some (S (R s.a.y))/\w'.cell? ⟨bs,2,none⟩=some (S (R s.b.x))/\w'.cell? ⟨bs,3,none⟩=some (S (R s.b.y)))
  (first|with_reducible exact To _ t0|with_reducible exact To _ t1|with_reducible exact To _ y1|with_reducible exact To _ y2|with_reducible exact To _ ZV)
  (first|(refine Acn (s:=.tmp 44) (x:=.tmp 47) ?hgd ?ho ?hs ?hx c2 ?h;(case hgd=>rfl);(case ho=>rfl);(case hs=>rfl);(case hx=>rfl)))
 go_wp2
 go_end0
 refine⟨rfl,(BZ.out.trans Y4.out).trans y4',fun k o q1 q2 q3 q4=>ZV.2 k o (Y3.out.2 k o (GZ.out k o q1 q2) q3 q4) q3 q4,E2,⟨ZV.2 r _ hc2 Zi (by intro cs e;cases e),ZV.2 b1 _ (Y3.out.2 b1 _ OE.out AZ (by intro cs e;cases e)) AZ (by intro cs e;cases e),y5',hr0,hr1,AZ⟩⟩
end
section
open Go.ChangeMaps (setBlock)
def Br(pts:List Pt)(e:EdZ):Sg:=⟨EJ pts e.f,EJ pts e.t⟩
def AD(pts:List Pt)(l:List EdZ):List (Sg×Int):=l.flatMap fun e=>[(Br pts e,e.l),(Bg (Br pts e),e.r)]
def BM(pts:List Pt)(l:List EdZ):List (Pt×List Pt):=l.foldl (fun R0 e=>Dw (Dw R0 (Br pts e).a (Br pts e).b) (Br pts e).b (Br pts e).a) []
theorem Zm(pts:List Pt)(l:List EdZ)(e:EdZ):AD pts (l ++ [e])=AD pts l ++ [(Br pts e,e.l),(Bg (Br pts e),e.r)]:=by simp [AD]
theorem Zn(pts:List Pt)(l:List EdZ)(e:EdZ):BM pts (l ++ [e])=Dw (Dw (BM pts l) (Br pts e).a (Br pts e).b) (Br pts e).b (Br pts e).a:=by simp [BM]
theorem Aar(pts:List Pt):∀(l:List EdZ) (R0:List (Pt×List Pt)) (n:Nat),(∀e∈R0,e.2.length<=n)→∀e∈l.foldl (fun R0 e=>Dw (Dw R0 (Br pts e).a (Br pts e).b) (Br pts e).b (Br pts e).a) R0,e.2.length<=n+2*l.length
 | [],_,_,h=>by simpa using h
 | x::l,R0,n,h=>by intro e he;rw [List.foldl_cons]at he;have:=Aar pts l _ (n+1+1) (cQ (cQ h)) e he;rw [List.length_cons];omega
theorem RS(pts:List Pt)(l:List EdZ):∀e∈BM pts l,e.2.length<=2*l.length:=by
 intro e he;have:=Aar pts l [] 0 (by simp) e he;omega
theorem AnH{w:World}{b o:Nat}{cs:List Value}(h:Ad w (some ⟨b,o,none⟩) cs)(hl:0<cs.length):b<w.heap.size:=by
 obtain⟨b',o',e,hc⟩:=h.ad hl;have e2:(⟨b,o,none⟩:Addr)=⟨b',o',none⟩:=Option.some.inj e;obtain rfl:b=b':=(by injection e2);have h1:=hc 0 hl;unfold World.cell? at h1
 rcases Nat.lt_or_ge b w.heap.size with h'|h'
 ·exact h'
 ·simp [Array.getElem?_eq_none h']at h1
theorem Xg{B:Nat}{w w':World}(h:Below B w w'){a:Addr}{v:Value}(hb:a.block<B)(hv:w.cell? a=some v):w'.cell? a=some v:=(World.cell?_of_block (h.block _ hb)).trans hv
theorem AaI{w:World}{B B':Nat}{e:TypeId}{size:Nat}{v:Value}{n:Nat}{xs:List Value}(h:w.ownsRow B e size v n xs)(hB:B'<=B):w.ownsRow B' e size v n xs:=by
 refine⟨h.1,?_⟩
 rcases h.2 with h'|⟨g,cap,cur,h1,h2,h3⟩
 ·exact .inl h'
 ·exact .inr ⟨g,cap,cur,h1,AsA hB h2,h3⟩
theorem B7.ext{B:Nat}{W W':World}{r b1 b2:Nat}{L:List (Sg×Int)}{E:List (Pt×Value×Nat)}{R0:List (Pt×List Pt)}(h:B7 B W r b1 b2 L E R0)(hx:Ab W W'):B7 B W' r b1 b2 L E R0:=
 ⟨(hx.block _ (Asy h.cell)).trans h.cell,(hx.block _ (Array.getElem?_eq_some_iff.1 h.left).1).trans h.left,h.ar.keep (Hm hx none),h.r0,h.r1,h.ne⟩
structure O9(pts:List Pt)(l:List EdZ):Prop where
 rng:∀e∈l,0<=e.f/\0<=e.t/\e.f<(pts.length:Int)/\e.t<(pts.length:Int)
 ne:∀e∈l,AU (Bg (Br pts e)) (Br pts e)=false
 dis:∀j (h:j<l.length),∀e∈l.take j,AU (Br pts l[j]) (Br pts e)=false/\AU (Br pts l[j]) (Bg (Br pts e))=false/\AU (Bg (Br pts l[j])) (Br pts e)=false/\AU (Bg (Br pts l[j])) (Bg (Br pts e))=false
theorem O9.keys{pts:List Pt}{l:List EdZ}(h:O9 pts l){j:Nat}(hj:j<l.length):(∀e∈AD pts (l.take j),AU (Br pts l[j]) e.1=false)/\(∀e∈AD pts (l.take j),AU (Bg (Br pts l[j])) e.1=false):=by
 constructor
 all_goals
  intro e he;unfold AD at he;rw [List.mem_flatMap]at he;obtain⟨x,hx,he⟩:=he;obtain⟨d1,d2,d3,d4⟩:=h.dis j hj x hx;simp only [List.mem_cons,AsB,or_false]at he
  rcases he with rfl|rfl<;>assumption
theorem yM{w:World} : B7 w.heap.size (OQ w) (w.heap.size+1+1) w.heap.size (w.heap.size+1) [] [] []:=by
 unfold OQ;have h0:=Asz w (.map #[] 0);have h1:=Asz (w.alloc (.map #[] 0)) (.map #[] 0);have h2:=Asz ((w.alloc (.map #[] 0)).alloc (.map #[] 0)) (.cells #[.map (some w.heap.size),.map (some (w.heap.size+1))] 98);simp only [As7]at h1 h2;have x1:=((Ab.refl (w.alloc (.map #[] 0))).alloc (.map #[] 0)).alloc (.cells #[.map (some w.heap.size),.map (some (w.heap.size+1))] 98);have x2:=(Ab.refl ((w.alloc (.map #[] 0)).alloc (.map #[] 0))).alloc (.cells #[.map (some w.heap.size),.map (some (w.heap.size+1))] 98);exact⟨h2,(x1.block _ (by simp)).trans h0,⟨(x2.block _ (by simp)).trans h1,rfl,fun i hi=>by simp at hi,fun i _ hi=>by simp at hi,by omega⟩,by omega,As0 _,by omega⟩
theorem Zv(m:MapZ)(A B F:Option Addr)(c d g:Nat)(AW:Db m c d g)(Ai:O9 m.pts m.eds)(hle:m.eds.length<=1200)(w:World)(hA:Ad w A (flat (Ag m.pts)))(hB:Ad w B (Ar m.eds)) :
  Calls Tryz.prog 51 #[AH A B F m c d g] w (fun e w'=>∃r b1 b2 E,e=.returned (.pointer (some ⟨r,0,none⟩))/\Ab w w'/\B7 w.heap.size w' r b1 b2 (AD m.pts m.eds) E (BM m.pts m.eds)):=by
 obtain⟨c1,c2,d1,d2,g1,g2⟩:=AW;have hM:=Asz w (.cells #[.slice A m.pts.length c,.slice B m.eds.length d,.slice F m.nf g] 35);have hE:=(Ab.refl w).alloc (.cells #[.slice A m.pts.length c,.slice B m.eds.length d,.slice F m.nf g] 35);unfold AH;go_enter Tryz.func51,Tryz.ntmps51
 go_upto_region 1 with fail
 have hA:=hA.ext hE;have hB:=hB.ext hE;generalize w.alloc (.cells #[.slice A m.pts.length c,.slice B m.eds.length d,.slice F m.nf g] 35)=V at *;obtain⟨bm,AB⟩:=Asw w.heap.size;have il:bm<V.heap.size:=(by have:=Asy hM;omega);rw [←AB]at hM ⊢;clear AB;have em:=yN V;have en:=@yM V
 have eb:Below V.heap.size V (OQ V):=((Ab.refl V).alloc _).alloc _ |>.alloc _
 generalize OQ V=V0 at *;obtain⟨r,hr⟩:=Asw (V.heap.size+1+1);obtain⟨b2,hb2⟩:=Asw (V.heap.size+1);obtain⟨b1,hb1⟩:=Asw V.heap.size;rw [←hr]at em en;rw [←hb2]at en;have en':B7 V.heap.size V0 r b1 b2 [] [] []:=(by rw [hb1];exact en);clear hr hb2 hb1 en;have Pa:∀w',Ab V w'→w'.heap[bm]?=some (.cells #[.slice A m.pts.length c,.slice B m.eds.length d,.slice F m.nf g] 35):=fun w' h=>(h.block _ il).trans hM;have m1:=Aa (o:=1) (Pa V0 eb) rfl;(go_wp2_with fail);(with_reducible refine em.mono ?_);rintro e w1 ⟨rfl,hw1⟩;rw [hw1];clear hw1
 go_upto_region 3 with fail
 clear m1 em
 go_loopw [10] (fun i wr=>∃j:Nat,i=.int .i64 (j:Nat)/\j<=m.eds.length/\Below V.heap.size V wr/\∃E,B7 V.heap.size wr r b1 b2 (AD m.pts (m.eds.take j)) E (BM m.pts (m.eds.take j))) (fun i _=>m.eds.length-(intOf i).toNat)
 case atStart=>exact⟨0,rfl,by omega,eb,[],by simpa [AD,BM]using en'⟩
 case round=>
  obtain⟨j,rfl,hj,Mf,E,hN⟩:=hrel;have Ae:Ab V wr:=Mf;by_cases hlt:j<m.eds.length
  ·have hj0:(0:Int)<=(j:Int):=(by omega);have Ay:(j:Int)<(m.eds.length:Int):=(by omega);obtain⟨b,o,rfl,hg1,hg2,hg3,hg4⟩:=MD (hB.ext Ae) hlt;have ED:=Ai.keys hlt;have hne:=Ai.ne _ (As1 hlt);have hrg:=Ai.rng _ (As1 hlt);have hrl:=RS m.pts (m.eds.take j);have Va:=Zm m.pts (m.eds.take j) m.eds[j];have Vd:=Zn m.pts (m.eds.take j) m.eds[j];rw [←As3 hlt]at Va Vd;obtain⟨e,he⟩:=Asw (m.eds[j]);rw [←he]at hg1 hg2 hg3 hg4 ED hne hrg Va Vd;clear he;obtain⟨ef,KZ⟩:∃n:Nat,e.f=(n:Int):=⟨e.f.toNat,by omega⟩;obtain⟨et,Po⟩:∃n:Nat,e.t=(n:Int):=⟨e.t.toNat,by omega⟩;have Rf:ef<m.pts.length:=(by omega);have Rh:et<m.pts.length:=(by omega);rw [KZ]at hg1;rw [Po]at hg2;obtain⟨ba,oa,rfl,ha1,ha2⟩:=BN (hA.ext Ae) Rf;obtain⟨b3,o3,KY,iP,iQ⟩:=BN (hA.ext Ae) Rh;have HBA:=Asx (AnH hA (by rw [flat_length];simp [Ag];omega));obtain⟨rfl,rfl⟩:ba=b3/\oa=o3:=by simpa using KY
   have hs:Br m.pts e=⟨m.pts[ef],m.pts[et]⟩:=by unfold Br EJ;rw [KZ,Po];simp [Rf,Rh]
   obtain⟨pa,FA⟩:=Asw (m.pts[ef]);obtain⟨pb,Oa⟩:=Asw (m.pts[et]);rw [←FA]at ha1 ha2 hs;rw [←Oa]at iP iQ hs;rw [hs]at ED hne Va Vd;have f0:(0:Int)<=(ef:Int):=(by omega);have f1:(ef:Int)<(m.pts.length:Int):=(by omega);have f2:(0:Int)<=(et:Int):=(by omega);have f3:(et:Int)<(m.pts.length:Int):=(by omega);have hx1:=(Ab.refl wr).alloc (.cells #[.int .i64 (ef:Nat),.int .i64 (et:Nat),.int .i64 e.l,.int .i64 e.r] 51);have A7:=Asz wr (.cells #[.int .i64 (ef:Nat),.int .i64 (et:Nat),.int .i64 e.l,.int .i64 e.r] 51);have J3:=Asx Va;have HSR:=Asx Vd;clear Va Vd hs FA Oa KY hrg KZ Po
   go_upto_region 5 with fail
   have Hn:=(hN.ext hx1).ext (Ab.refl _).drew;have Fx:=Pa _ (Ae.trans hx1);have k1:=hx1.cellS ha1;have k2:=hx1.cellS ha2;have k3:=hx1.cellS iP;have k4:=hx1.cellS iQ;have La:=Ae.trans hx1;generalize wr.alloc (.cells #[.int .i64 (ef:Nat),.int .i64 (et:Nat),.int .i64 e.l,.int .i64 e.r] 51)=W1 at *;obtain⟨be,iq⟩:=Asw wr.heap.size;rw [←iq]at A7 ⊢;clear iq ha1 ha2 iP iQ hg1 hg2 hg3 hg4;have ad:=cS Hn (by have:=La.size;show V.heap.size<=W1.heap.size;exact this) ⟨pa,pb⟩ e.l e.r ED.1 ED.2 hne (fun x hx=>by have:=hrl x hx;rw [List.length_take]at this;omega);unfold A8 at ad
   have SO:∀w',Ab W1 w'→(w'.cell? ⟨bm,0,none⟩=some (.slice (some ⟨ba,oa,none⟩) m.pts.length c)/\w'.cell? ⟨be,0,none⟩=some (.int .i64 (ef:Nat))/\w'.cell? ⟨be,1,none⟩=some (.int .i64 (et:Nat))/\w'.cell? ⟨be,2,none⟩=some (.int .i64 e.l)/\w'.cell? ⟨be,3,none⟩=some (.int .i64 e.r)/\w'.cell? ⟨ba,oa+ef*2,none⟩=some (S (R pa.x))/\w'.cell? ⟨ba,oa+ef*2+1,none⟩=some (S (R pa.y))/\w'.cell? ⟨ba,oa+et*2,none⟩=some (S (R pb.x))/\w'.cell? ⟨ba,oa+et*2+1,none⟩=some (S (R pb.y))):=fun w' h=>⟨h.cellS (Aa Fx rfl),h.cellS (Aa A7 rfl),h.cellS (Aa A7 rfl),h.cellS (Aa A7 rfl),h.cellS (Aa A7 rfl),h.cellS k1,h.cellS k2,h.cellS k3,h.cellS k4⟩
   have Zk:be≠b1:=(by intro e;have q:=Hn.left;rw [←e]at q;cases (show W1.heap[be]?=_ from q).symm.trans A7);have Oo:be≠b2:=(by intro e;have q:=Hn.ar.blk;rw [←e]at q;cases (show W1.heap[be]?=_ from q).symm.trans A7);have Au:ba<V.heap.size:=HBA.out;have X:Ab W1 W1:=Ab.refl W1;have Xd:=X.drew
   go_region_held3 (fun w'=>w'.cell? ⟨bm,0,none⟩=some (.slice (some ⟨ba,oa,none⟩) m.pts.length c)/\w'.cell? ⟨be,0,none⟩=some (.int .i64 (ef:Nat))/\w'.cell? ⟨be,1,none⟩=some (.int .i64 (et:Nat))/\w'.cell? ⟨be,2,none⟩=some (.int .i64 e.l)/\w'.cell? ⟨be,3,none⟩=some (.int .i64 e.r)/\w'.cell? ⟨ba,oa+ef*2,none⟩=some (S (R pa.x))/\w'.cell? ⟨ba,oa+ef*2+1,none⟩=some (S (R pa.y))/\w'.cell? ⟨ba,oa+et*2,none⟩=some (S (R pb.x))/\w'.cell? ⟨ba,oa+et*2+1,none⟩=some (S (R pb.y)))
    (first|with_reducible exact SO _ Xd|exact S5)
    (first|((with_reducible refine ad.mono ?_);rintro _ w5 ⟨rfl,hb5,hs5,E5,Pb⟩;have S5:(w5.cell? ⟨bm,0,none⟩=some (.slice (some ⟨ba,oa,none⟩) m.pts.length c)/\w5.cell? ⟨be,0,none⟩=some (.int .i64 (ef:Nat))/\w5.cell? ⟨be,1,none⟩=some (.int .i64 (et:Nat))/\w5.cell? ⟨be,2,none⟩=some (.int .i64 e.l)/\w5.cell? ⟨be,3,none⟩=some (.int .i64 e.r)/\w5.cell? ⟨ba,oa+ef*2,none⟩=some (S (R pa.x))/\w5.cell? ⟨ba,oa+ef*2+1,none⟩=some (S (R pa.y))/\w5.cell? ⟨ba,oa+et*2,none⟩=some (S (R pb.x))/\w5.cell? ⟨ba,oa+et*2+1,none⟩=some (S (R pb.y))):=⟨Aa ((hb5.block bm il).trans Fx) rfl,Aa (hs5 be _ A7 Zk Oo (by intro cs e;cases e)) rfl,Aa (hs5 be _ A7 Zk Oo (by intro cs e;cases e)) rfl,Aa (hs5 be _ A7 Zk Oo (by intro cs e;cases e)) rfl,Aa (hs5 be _ A7 Zk Oo (by intro cs e;cases e)) rfl,Xg hb5 Au k1,Xg hb5 Au k2,Xg hb5 Au k3,Xg hb5 Au k4⟩))
   have XM:=J3.out▸HSR.out▸Pb;have By:Below V.heap.size V w5:=Below.trans (Ab.drew La) hb5;have HB6:=Asx By;clear SO S5 X Xd ad hb5 hs5 By;go_wp2;go_roundw
   case rel=>exact⟨j+1,by go_num,hlt,HB6.out,E5,XM⟩
   case measure=>simp [intOf];omega
  ·have YB:(m.eds.length:Int)<=(j:Int):=(by omega);obtain rfl:j=m.eds.length:=(by omega);rw [As8 (As0 _)]at hN;have HN:=Asx hN;have HE:=Asx (hE.trans Ae);have HS:=Asx hE.size;clear hN Ae Mf;go_wp2;go_ret;have hN:=HN.out;exact⟨r,b1,b2,E,rfl,HE.out,⟨hN.cell,hN.left,⟨hN.ar.blk,hN.ar.len,fun i hi hi'=>⟨(hN.ar.row i hi hi').1,(hN.ar.row i hi hi').2.1,AaI (hN.ar.row i hi hi').2.2 HS.out⟩,hN.ar.apart,AsA HS.out hN.ar.own⟩,AsA HS.out hN.r0,AsA HS.out hN.r1,hN.ne⟩⟩
end
def KI(R0:List (Pt×List Pt))(p:Pt):Nat:=match R0.find? (fun e=>Aq p e.1)with|some e=>e.2.length|none=>0
theorem AhA{E:List (Pt×Value×Nat)}{R0:List (Pt×List Pt)}{B:Nat}{W:World}{b2:Nat}(h:El B W b2 E R0)(p:Pt) :
  (∃A c,FW Aq (.slice none 0 0) p E=.slice A (KI R0 p) c):=by
 have DY:=eS h.len (fun i h1 h2=>(h.row i h1 h2).1) p;unfold FW KI
 cases hf:R0.findIdx? (fun e=>Aq p e.1)with
 | none=>
  rw [hf]at DY
  have e1:E.find? (fun e=>Aq p e.1)=none:=by rw [List.find?_eq_none];rw [List.findIdx?_eq_none_iff]at DY;intro x hx;rw [DY x hx];simp
  have e2:R0.find? (fun e=>Aq p e.1)=none:=by rw [List.find?_eq_none];rw [List.findIdx?_eq_none_iff]at hf;intro x hx;rw [hf x hx];simp
  rw [e1,e2];exact⟨none,0,rfl⟩
 | some j=>
  rw [hf]at DY;rw [List.findIdx?_eq_some_iff_getElem]at DY hf;obtain⟨hj,h1,h2⟩:=DY;obtain⟨hj',h3,h4⟩:=hf
  have e1:E.find? (fun e=>Aq p e.1)=some E[j]:=by rw [List.find?_eq_some_iff_getElem];exact⟨h1,j,hj,rfl,fun i hi=>by have:=h2 i hi;simpa using this⟩
  have e2:R0.find? (fun e=>Aq p e.1)=some R0[j]:=by rw [List.find?_eq_some_iff_getElem];exact⟨h3,j,hj',rfl,fun i hi=>by have:=h4 i hi;simpa using this⟩
  rw [e1,e2]
  rcases(h.row j hj hj').2.2.2 with⟨hv,hn⟩|⟨g,cap,cur,hv,_⟩
  ·simp only;rw [hv,hn];exact⟨none,0,rfl⟩
  ·simp only;rw [hv];exact⟨_,_,rfl⟩
theorem Ah4{B:Nat}{w:World}{r b1 b2:Nat}{L:List (Sg×Int)}{E:List (Pt×Value×Nat)}{R0:List (Pt×List Pt)}(h:B7 B w r b1 b2 L E R0)(bn:Nat)(Cv:w.cell? ⟨bn,0,none⟩=some (.pointer (some ⟨r,0,none⟩)))(p:Pt) :
  Calls Tryz.prog 52 #[Af p,.pointer (some ⟨bn,0,none⟩)] w (BP (decide (KI R0 p<2)) w):=by
 have hE:=(Ab.refl w).alloc (.cells #[S (R p.x),S (R p.y)] 24);have hb0:=Asz w (.cells #[S (R p.x),S (R p.y)] 24);have hN:=h.ext hE;obtain⟨A,c,hv⟩:=AhA h.ar p;have jn:=hE.cellS Cv;obtain⟨x,hx⟩:=Asw (decide (KI R0 p<2));rw [←hx];have HX:=Asx (show x=decide ((KI R0 p:Int)<2)by rw [hx];simp;omega);unfold Af;clear hx;go_enter Tryz.func52,Tryz.ntmps52
 go_upto_region 1 with fail
 generalize w.alloc (.cells #[S (R p.x),S (R p.y)] 24)=V at *;obtain⟨bp,Ap⟩:=Asw w.heap.size;rw [←Ap]at hb0 ⊢;clear Ap;have q1:∀q:Ac V,q.w.cell? ⟨bn,0,none⟩=some (.pointer (some ⟨r,0,none⟩)):=Ac.cell jn;have q2:∀q:Ac V,q.w.cell? ⟨r,1,none⟩=some (.map (some b2)):=Ac.cell (Aa hN.cell rfl);have q3:∀q:Ac V,q.w.cell? ⟨bp,0,none⟩=some (S (R p.x)):=Ac.cell (Aa hb0 rfl);have q4:∀q:Ac V,q.w.cell? ⟨bp,1,none⟩=some (S (R p.y)):=Ac.cell (Aa hb0 rfl)
 have q5:∀q:Ac V,(Instr.lookup 96 (.map (some b2)) (Af p) false).run Tryz.prog q.w=.ok (.slice A (KI R0 p) c) q.w:=fun q=>by rw [Sp RN p E (W:=q.w) ((q.h.block b2 hN.ar.lt).trans hN.ar.blk),hv]
 unfold Af at q5;clear jn hb0 hN h Cv hv;refine Bh (by kernel_rfl) (by kernel_rfl) ?_
 repeat (go_big_quiet_step (fail))
 refine wpQuiet_nil ?_;rintro _ ⟨q,rfl⟩;go_wp2;go_ret;exact⟨by rw [HX.out];rfl,hE.trans q.h⟩
end Go.Proofs.YtnddllipjippnaaGreatDoor
