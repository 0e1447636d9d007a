/- Z26: S4 S5 S6 S7 M1 M2 M3 M4 M5. -/
import Derived.Test.YtdaefncphfeaeaaGreatDoorZ24
import Derived.Maps.RangeWalk
import Derived.Maps.AppendAt
set_option maxRecDepth 100000
set_option maxHeartbeats 16000000
namespace Go.Proofs.YtdaefncphfeaeaaGreatDoor
open Go.RowKit Kl
def FV(l:List Pt)(p:Pt):Int:=match l.findIdx? (Ar p)with|some j=>(j:Int)|none=>-1
theorem ut{l:List Pt}{p:Pt}{j:Nat}(hj:j<l.length)(hno:∀q∈l.take j,Ar p q=false)(h:Ar p l[j]=true):FV l p=(j:Int):=by
 unfold FV
 have:l.findIdx? (Ar p)=some j:=by rw [List.findIdx?_eq_some_iff_getElem];refine⟨hj,h,fun i hi=>?_⟩;rw [Bool.not_eq_true];refine hno l[i] ?_;rw [List.mem_take_iff_getElem];exact⟨i,by omega,rfl⟩
 rw [this]
theorem uu{l:List Pt}{p:Pt}(hno:∀q∈l,Ar p q=false):FV l p = -1:=by
 unfold FV
 have:l.findIdx? (Ar p)=none:=by rw [List.findIdx?_eq_none_iff];exact hno
 rw [this]
theorem Akc(l:List Pt)(p:Pt):decide (0<=FV l p)=l.any (Ar p):=by
 unfold FV
 cases h:l.findIdx? (Ar p)with
 | none=>
  rw [List.findIdx?_eq_none_iff]at h
  symm
  simp only [Int.reduceNeg,Int.reduceLE,decide_false,List.any_eq_false];intro x hx;rw [h x hx];simp
 | some j=>
  rw [List.findIdx?_eq_some_iff_getElem]at h;obtain⟨hj,h1,_⟩:=h;rw [decide_eq_true (by simp)]
  symm
  rw [List.any_eq_true];exact⟨_,Asg hj,h1⟩
theorem uw(l:List Pt)(p:Pt)(A:Option Addr)(c:Nat)(w:World)(hr:Am w A (flat (AI l)))(hc:l.length<=c)(hcm:c<=9223372036854775807) :
  Calls Tryz.prog 114 #[.slice A l.length c,Ak p] w (AQ (FV l p) w):=by
 have pe:=RR;have hb0:=Ase w (.cells #[S (R p.x),S (R p.y)] 35);have hE:=(Aa.refl w).alloc (.cells #[S (R p.x),S (R p.y)] 35);obtain⟨r,hr0⟩:=AcG (FV l p);rw [←hr0];have HR:=Asb hr0;unfold Ak;clear hr0;go_enter Tryz.func114,Tryz.ntmps114
 go_upto_region 2 with fail
 generalize w.alloc (.cells #[S (R p.x),S (R p.y)] 35)=V at *;obtain⟨bp,AS⟩:=AcG w.heap.size;rw [←AS]at hb0 ⊢;clear AS
 go_loopw [8] (fun i wr=>∃j:Nat,i=.int .i64 (j:Nat)/\j<=l.length/\(∀q∈l.take j,Ar p q=false)/\Aa V wr) (fun i _=>l.length-(intOf i).toNat)
 case atStart=>exact⟨0,rfl,by omega,by simp,Aa.refl _⟩
 case round=>
  obtain⟨j,rfl,hj,Au,Ac⟩:=hrel;have HO:=Asb Au;clear Au;have hbr:=(Ac.block _ (Asd hb0)).trans hb0;have s1:=Ab (o:=0) hbr rfl;have s2:=Ab (o:=1) hbr rfl;clear hbr;by_cases hlt:j<l.length
  ·obtain⟨b,o,rfl,hg1,hg2⟩:=BO (hr.ext (hE.trans Ac)) hlt;obtain⟨q,hq⟩:=AcG (l[j]);rw [←hq]at hg1 hg2;have hj0:(0:Int)<=(j:Int):=(by omega);have AG:(j:Int)<(l.length:Int):=(by omega);have HQ:=Asb hq;clear hq
   cases e0:Ar p q
   ·have HE:=Asb e0
    go_upto_region 4 with fail
    go_quiet (fail)
    go_wp2;go_roundw
    case rel=>
     refine⟨j+1,by go_num,hlt,?_,Ac.drewN _⟩;intro x hx;rw [Asi hlt,←HQ.out]at hx
     rcases List.mem_append.1 hx with h|h
     ·exact HO.out x h
     ·simp only [Ass]at h;rw [h];exact HE.out
    case measure=>simp [intOf];omega
   ·have Hl:r=(j:Int):=(by rw [HR.out];exact ut hlt HO.out (by rw [←HQ.out];exact e0));subst Hl
    go_upto_region 4 with fail
    go_quiet (fail)
    go_wp2;go_ret;exact⟨rfl,(hE.trans Ac).drewN _⟩
  ·have hle:(l.length:Int)<=(j:Int):=(by omega);have Hl:r = -1:=(by rw [HR.out];exact uu (by have:=HO.out;rw [Aso (by omega)]at this;exact this));subst Hl;clear s1 s2;go_wp2;go_ret;exact⟨rfl,hE.trans Ac⟩
theorem contains_c(l:List Pt)(p:Pt)(A:Option Addr)(c:Nat)(w:World)(hr:Am w A (flat (AI l)))(hc:l.length<=c)(hcm:c<=9223372036854775807) :
  Calls Tryz.prog 50 #[.slice A l.length c,Ak p] w (Dq (l.any (Ar p)) w):=by
 have hE:=(Aa.refl w).alloc (.cells #[S (R p.x),S (R p.y)] 35);have ix:=uw l p A c (w.alloc (.cells #[S (R p.x),S (R p.y)] 35)) (hr.ext hE) hc hcm;have ha:=Akc l p;obtain⟨r,hr0⟩:=AcG (l.any (Ar p));rw [←hr0]at ha ⊢;generalize FV l p=z at *;unfold Ak at ix ⊢;clear hr hr0;go_enter Tryz.func50,Tryz.ntmps50;(go_wp2_with fail);(with_reducible refine ix.mono ?_);rintro e w1 ⟨rfl,hx⟩;go_wp2;go_ret;exact⟨by rw [←ha];rfl,hE.trans hx⟩
/-! ### Edges -/
structure AO where
 f:Int
 t:Int
 l:Int
 r:Int
def eC(e:AO):Value:=.agg #[.int .i64 e.f,.int .i64 e.t,.int .i64 e.l,.int .i64 e.r]
def Ce(l:List AO):List Value:=l.flatMap (fun e=>[.int .i64 e.f,.int .i64 e.t,.int .i64 e.l,.int .i64 e.r])
theorem Agb(l:List AO):(Ce l).length=l.length*4:=by
 induction l with
 | nil=>rfl
 | cons e l ih=>unfold Ce at *;simp only [List.flatMap_cons,List.length_append,ih,List.length_cons,List.length_nil];omega
theorem vQ:∀(l:List AO) (j:Nat) (h:j<l.length),(Ce l)[j*4]?=some (.int .i64 l[j].f)/\(Ce l)[j*4+1]?=some (.int .i64 l[j].t)/\(Ce l)[j*4+2]?=some (.int .i64 l[j].l)/\(Ce l)[j*4+3]?=some (.int .i64 l[j].r)
 | e::l,0,_=>⟨rfl,rfl,rfl,rfl⟩
 | e::l,j+1,h=>by
  have ih:=vQ l j (by simpa using h);have e0:Ce (e::l)=.int .i64 e.f :: .int .i64 e.t :: .int .i64 e.l :: .int .i64 e.r::Ce l:=rfl;rw [e0];have e1:(j+1)*4=j*4+1+1+1+1:=(by omega);rw [e1]
  simpa using ih
theorem Lq{w:World}{A:Option Addr}{l:List AO}(hr:Am w A (Ce l)){j:Nat}(h:j<l.length):∃b o,A=some ⟨b,o,none⟩/\w.cell? ⟨b,o+j*4,none⟩=some (.int .i64 l[j].f)/\w.cell? ⟨b,o+j*4+1,none⟩=some (.int .i64 l[j].t)/\w.cell? ⟨b,o+j*4+2,none⟩=some (.int .i64 l[j].l)/\w.cell? ⟨b,o+j*4+3,none⟩=some (.int .i64 l[j].r):=by
 have hl:=Agb l;obtain⟨b,o,e,hcs⟩:=hr.ad (by omega);obtain⟨f1,f2,f3,f4⟩:=vQ l j h;have g1:=hcs (j*4) (by omega);have g2:=hcs (j*4+1) (by omega);have g3:=hcs (j*4+2) (by omega);have g4:=hcs (j*4+3) (by omega);rw [Asl (by omega),Asj]at f1 f2 f3 f4;rw [f1]at g1;rw [f2,←Nat.add_assoc]at g2;rw [f3,←Nat.add_assoc]at g3;rw [f4,←Nat.add_assoc]at g4;exact⟨b,o,e,g1,g2,g3,g4⟩
theorem AnH{P:Program}{w:World}(ts:Array TypeId)(t:TypeId)(k:IntKind)(a b:Int):(Builtin.min_ ts t #[.int k a,.int k b]).run P w=.ok (.int k (min a b)) w:=by
 have m:∀x y:Int,(if y<x then y else x)=min x y:=(by intro x y;split<;>omega);simp only [Builtin.min_,List.foldlM_cons,List.foldlM_nil,Builtin.min2];simp [m]
theorem AnF{P:Program}{w:World}(ts:Array TypeId)(t:TypeId)(k:IntKind)(a b:Int):(Builtin.max_ ts t #[.int k a,.int k b]).run P w=.ok (.int k (max a b)) w:=by
 have m:∀x y:Int,(if y>x then y else x)=max x y:=(by intro x y;split<;>omega);simp only [Builtin.max_,List.foldlM_cons,List.foldlM_nil,Builtin.max2];simp [m]
def GB(f e:AO):Bool:=(decide (f.f=e.f)&&decide (f.t=e.t))||(decide (f.f=e.t)&&decide (f.t=e.f))
theorem AfX(f e:AO)(b:Nat)(t:TypeId)(w:World)(hb:w.heap[b]?=some (.cells #[.int .i64 e.f,.int .i64 e.t,.int .i64 e.l,.int .i64 e.r] t)) :
  Calls Tryz.prog 117 #[eC f,.pointer (some ⟨b,0,none⟩)] w (Dq (GB f e) w):=by
 have k1:=Ab (o:=0) hb rfl;have k2:=Ab (o:=1) hb rfl;have hx:=(Aa.refl w).alloc (.cells #[.int .i64 f.f,.int .i64 f.t,.int .i64 f.l,.int .i64 f.r] 59);have j1:=hx.cellS k1;have j2:=hx.cellS k2;obtain⟨r,hr⟩:=AcG (GB f e);rw [←hr];have HR:=Asb hr;have BY:r=((f.f == e.f)&&(f.t == e.t)||(f.f == e.t)&&(f.t == e.f)):=hr;unfold eC;clear hr hb k1 k2 HR
 cases h1:(f.f == e.f)<;>cases h2:(f.t == e.t)<;>cases h3:(f.f == e.t)<;>cases h4:(f.t == e.f)
 all_goals (
  rw [h1,h2,h3,h4]at BY;have HH:=Asb BY;clear BY;go_enter Tryz.func117,Tryz.ntmps117;go_wp2;go_ret
  exact⟨by rw [HH.out];rfl,hx⟩)
def Fc(n:Nat)(z:Int):Bool:=decide (-1<=z)&&decide (z<(n:Int))
theorem Abc(z:Int)(b n g:Nat)(F:Option Addr)(v0 v1:Value)(t:TypeId)(w:World)(hb:w.heap[b]?=some (.cells #[v0,v1,.slice F n g] t)) :
  Calls Tryz.prog 115 #[.int .i64 z,.pointer (some ⟨b,0,none⟩)] w (Dq (Fc n z) w):=by
 have k1:=Ab (o:=2) hb rfl;obtain⟨r,hr⟩:=AcG (Fc n z);rw [←hr];have HR:=Asb hr;clear hr hb;by_cases h1:-1<=z
 ·have d1:decide (-1<=z)=true:=decide_eq_true h1;by_cases h2:z<(n:Int)
  ·have d2:decide (z<(n:Int))=true:=decide_eq_true h2;have HH:=Asb (show r=true by rw [HR.out];unfold Fc;rw [d1,d2];rfl);go_enter Tryz.func115,Tryz.ntmps115;go_wp2;go_ret;exact⟨by rw [HH.out];rfl,Aa.refl _⟩
  ·have d2:decide (z<(n:Int))=false:=decide_eq_false h2;have HH:=Asb (show r=false by rw [HR.out];unfold Fc;rw [d1,d2];rfl);clear h2;go_enter Tryz.func115,Tryz.ntmps115;go_wp2;go_ret;exact⟨by rw [HH.out];rfl,Aa.refl _⟩
 ·have d1:decide (-1<=z)=false:=decide_eq_false h1;have HH:=Asb (show r=false by rw [HR.out];unfold Fc;rw [d1];rfl);clear h1;go_enter Tryz.func115,Tryz.ntmps115;go_wp2;go_ret;exact⟨by rw [HH.out];rfl,Aa.refl _⟩
def AdP(l:List AO)(e0:AO)(w:World)(e:Ending)(w':World):Prop:=∃k:Int,e=.returned (.int .i64 k)/\(0<=k↔∃p∈l,GB p e0=true)/\Aa w w'
theorem Akj(l:List AO)(e:AO)(bb:Nat)(t:TypeId)(A:Option Addr)(c:Nat)(w:World)(hr:Am w A (Ce l))(hc:l.length<=c)(hcm:c<=9223372036854775807)
  (hb:w.heap[bb]?=some (.cells #[.int .i64 e.f,.int .i64 e.t,.int .i64 e.l,.int .i64 e.r] t)) :
  Calls Tryz.prog 188 #[.slice A l.length c,.func (.func 117) #[] #[.pointer (some ⟨bb,0,none⟩)]] w (AdP l e w):=by
 go_enter Tryz.func188,Tryz.ntmps188;go_wp2
 go_loopw [8] (fun i wr=>∃j:Nat,i=.int .i64 (j:Nat)/\j<=l.length/\(∀p∈l.take j,GB p e=false)/\Aa w wr) (fun i _=>l.length-(intOf i).toNat)
 case atStart=>exact⟨0,rfl,by omega,by simp,Aa.refl _⟩
 case round=>
  obtain⟨j,rfl,hj,Au,Ac⟩:=hrel;have HO:=Asb Au;clear Au;by_cases hlt:j<l.length
  ·obtain⟨b,o,rfl,hg1,hg2,hg3,hg4⟩:=Lq (hr.ext Ac) hlt;obtain⟨p,hp⟩:=AcG (l[j]);rw [←hp]at hg1 hg2 hg3 hg4;have hmem:p∈l:=(by rw [hp];exact Asg hlt);have HX:=Asb hp;clear hp;have hj0:(0:Int)<=(j:Int):=(by omega);have AG:(j:Int)<(l.length:Int):=(by omega);have bf:=AfX p e bb t wr ((Ac.block _ (Asd hb)).trans hb);unfold eC at bf
   cases hL:GB p e
   ·rw [hL]at bf;have Iv:=Asb hL;clear hL;(go_wp2_with fail);(with_reducible refine bf.mono ?_);rintro e w2 ⟨rfl,hx2⟩;go_wp2;go_roundw
    case rel=>
     refine⟨j+1,by go_num,hlt,?_,Ac.trans hx2⟩;intro q hq;rw [Asi hlt,←HX.out]at hq
     rcases List.mem_append.1 hq with h|h
     ·exact HO.out q h
     ·simp only [Ass]at h;rw [h];exact Iv.out
    case measure=>simp [intOf];omega
   ·rw [hL]at bf;have Iv:=Asb hL;clear hL;(go_wp2_with fail);(with_reducible refine bf.mono ?_);rintro e w2 ⟨rfl,hx2⟩;go_wp2;go_ret;exact⟨j,rfl,⟨fun _=>⟨_,hmem,Iv.out⟩,fun _=>by omega⟩,Ac.trans hx2⟩
  ·have hle:(l.length:Int)<=(j:Int):=(by omega);go_wp2;go_ret;refine⟨-1,rfl,⟨fun h=>by omega,?_⟩,Ac⟩;rintro⟨p,hp,h⟩;have:=HO.out p (by rw [Aso (by omega)];exact hp);rw [this]at h;cases h
theorem Af0(l:List AO)(e:AO)(bb:Nat)(t:TypeId)(A:Option Addr)(c:Nat)(w:World)(hr:Am w A (Ce l))(hc:l.length<=c)(hcm:c<=9223372036854775807)
  (hb:w.heap[bb]?=some (.cells #[.int .i64 e.f,.int .i64 e.t,.int .i64 e.l,.int .i64 e.r] t)) :
  Calls Tryz.prog 116 #[.slice A l.length c,.func (.func 117) #[] #[.pointer (some ⟨bb,0,none⟩)]] w (Dq (l.any (GB · e)) w):=by
 have ix:=Akj l e bb t A c w hr hc hcm hb;obtain⟨r,hr0⟩:=AcG (l.any (GB · e));rw [←hr0];have HR:=Asb hr0;clear hr hb hr0;go_enter Tryz.func116,Tryz.ntmps116;(go_wp2_with fail);(with_reducible refine ix.mono ?_);rintro e w2 ⟨k,rfl,hk,hx⟩;have HK:=Asb hk;clear hk;go_wp2;go_ret;refine⟨?_,hx⟩
 have e:decide (0<=k)=r:=by
  rw [HR.out]
  cases h:l.any (GB · _)
  ·rw [decide_eq_false_iff_not,HK.out];rintro⟨p,hp,h2⟩;rw [List.any_eq_false]at h;exact h p hp h2
  ·rw [decide_eq_true_eq,HK.out];rw [List.any_eq_true]at h;exact h
 rw [←e];rfl
def K8(np nf:Nat)(pre:List AO)(e:AO):Int:=
 if min e.f e.t<0 then 3 else if (np:Int)<=max e.f e.t then 3 else if e.f=e.t then 17 else if pre.any (GB · e)then 9
 else if Fc nf e.l=false then 3 else if Fc nf e.r=false then 3 else if e.l=e.r then 7 else 0
structure B7 where
 pts:List Pt
 eds:List AO
 nf:Nat
def Dh(A B F:Option Addr)(m:B7)(c d g:Nat):Value:=.agg #[.slice A m.pts.length c,.slice B m.eds.length d,.slice F m.nf g]
structure IW(m:B7)(c d g:Nat):Prop where
 c1:m.pts.length<=c
 c2:c<=9223372036854775807
 d1:m.eds.length<=d
 d2:d<=9223372036854775807
 g1:m.nf<=g
 g2:g<=9223372036854775807
theorem Agd(l:List AO)(i:Nat):Ce (l.take i)=(Ce l).take (i*4):=by
 induction l generalizing i with
 | nil=>simp [Ce]
 | cons e l ih=>
  cases i with
  | zero=>simp [Ce]
  | succ i=>have e0:∀l,Ce (e::l)=.int .i64 e.f :: .int .i64 e.t :: .int .i64 e.l :: .int .i64 e.r::Ce l:=fun _=>rfl;rw [List.take_succ_cons,e0,e0,ih];have e1:(i+1)*4=i*4+1+1+1+1:=(by omega);rw [e1];simp
theorem Am.take{w:World}{A:Option Addr}{cs:List Value}(h:Am w A cs)(n:Nat):Am w A (cs.take n):=
 ⟨fun h0=>by
  obtain⟨b,o,e,hc⟩:=h.ad (by rw [List.length_take]at h0;omega);refine⟨b,o,e,fun j hj=>?_⟩;rw [List.length_take]at hj
  rw [hc j (by omega),List.getElem_take]⟩
theorem Afb(m:B7)(A B F:Option Addr)(c d g:Nat)(BF:IW m c d g)(i:Nat)(hi:i<m.eds.length)(w:World)(hB:Am w B (Ce m.eds)) :
  Calls Tryz.prog 51 #[Dh A B F m c d g,.int .i64 (i:Nat)] w (AQ (K8 m.pts.length m.nf (m.eds.take i) m.eds[i]) w):=by
 have ArO:=@AnH Tryz.prog;have ArN:=@AnF Tryz.prog;obtain⟨c1,c2,d1,d2,g1,g2⟩:=BF;obtain⟨e,he⟩:=AcG (m.eds[i]);obtain⟨b,o,rfl,hg1,hg2,hg3,hg4⟩:=Lq hB hi;rw [←he]at hg1 hg2 hg3 hg4 ⊢;obtain⟨r,hr⟩:=AcG (K8 m.pts.length m.nf (m.eds.take i) e);rw [←hr]
 have hr':r=if min e.f e.t<0 then 3 else if (m.pts.length:Int)<=max e.f e.t then 3 else if e.f=e.t then 17 else if (m.eds.take i).any (GB · e)then 9
  else if Fc m.nf e.l=false then 3 else if Fc m.nf e.r=false then 3 else if e.l=e.r then 7 else 0:=hr
 have HR:=Asb hr';have hpl:(m.eds.take i).length=i:=by rw [List.length_take];omega
 have hid:∀bb t w',Aa w w'→w'.heap[bb]?=some (.cells #[.int .i64 e.f,.int .i64 e.t,.int .i64 e.l,.int .i64 e.r] t)→Calls Tryz.prog 116 #[.slice (some ⟨b,o,none⟩) i d,.func (.func 117) #[] #[.pointer (some ⟨bb,0,none⟩)]] w' (Dq ((m.eds.take i).any (GB · e)) w'):=by intro bb t w' hx h;have:=Af0 (m.eds.take i) e bb t (some ⟨b,o,none⟩) d w' (by rw [Agd];exact(hB.ext hx).take _) (by omega) d2 h;rw [hpl]at this;exact this
 generalize (m.eds.take i).any (GB · e)=du at *;obtain⟨np,kF⟩:=AcG m.pts.length;obtain⟨ne,hne⟩:=AcG m.eds.length;obtain⟨nf,Pk⟩:=AcG m.nf;rw [←kF]at c1 HR;rw [←hne]at d1 hi;rw [←Pk]at g1 HR;unfold Dh;rw [←kF,←hne,←Pk];have KR:(0:Int)<=(i:Int):=(by omega);have CB:(i:Int)<(ne:Int):=(by omega);have hix:(i:Int)<=(d:Int):=(by omega);have hM:=Ase w (.cells #[.slice A np c,.slice (some ⟨b,o,none⟩) ne d,.slice F nf g] 43);have hx0:=(Aa.refl w).alloc (.cells #[.slice A np c,.slice (some ⟨b,o,none⟩) ne d,.slice F nf g] 43);have j1:=hx0.cellS hg1;have j2:=hx0.cellS hg2;have j3:=hx0.cellS hg3;have j4:=hx0.cellS hg4;have hx1:=hx0.alloc (.cells #[.int .i64 e.f,.int .i64 e.t,.int .i64 e.l,.int .i64 e.r] 59);have hD:=Ase (w.alloc (.cells #[.slice A np c,.slice (some ⟨b,o,none⟩) ne d,.slice F nf g] 43)) (.cells #[.int .i64 e.f,.int .i64 e.t,.int .i64 e.l,.int .i64 e.r] 59);have Gl:=(((Aa.refl _).alloc (.cells #[.int .i64 e.f,.int .i64 e.t,.int .i64 e.l,.int .i64 e.r] 59)).block _ (Asd hM)).trans hM;rw [Asn]at hD;clear he hr hr' hpl kF hne Pk hB hg1 hg2 hg3 hg4 hM hi;go_enter Tryz.func51,Tryz.ntmps51
 go_upto_region 2 with fail
 clear j1 j2 j3 j4;generalize (w.alloc (.cells #[.slice A np c,.slice (some ⟨b,o,none⟩) ne d,.slice F nf g] 43)).alloc (.cells #[.int .i64 e.f,.int .i64 e.t,.int .i64 e.l,.int .i64 e.r] 59)=V at *;obtain⟨bm,Cj⟩:=AcG w.heap.size;rw [←Cj]at Gl hD ⊢;clear Cj hx0;have m1:=Ab (o:=0) Gl rfl;have m2:=Ab (o:=1) Gl rfl;have m3:=Ab (o:=2) Gl rfl;have e1:=Ab (o:=0) hD rfl;have e2:=Ab (o:=1) hD rfl;have e3:=Ab (o:=2) hD rfl;have e4:=Ab (o:=3) hD rfl;generalize hmn:min e.f e.t=mn at *;generalize hmx:max e.f e.t=mx at *;by_cases n1:mn<0
 ·have dd:decide (mn<0)=true:=decide_eq_true n1;have HH:=Asb (show r=3 by rw [HR.out,if_pos n1]);clear HR hid;go_wp2;go_ret;exact⟨by rw [HH.out];rfl,hx1⟩
 have vB:decide (mn<0)=false:=decide_eq_false n1;by_cases n2:(np:Int)<=mx
 ·have dd:decide ((np:Int)<=mx)=true:=decide_eq_true n2;have HH:=Asb (show r=3 by rw [HR.out,if_neg n1,if_pos n2]);clear HR hid n1;go_wp2;go_ret;exact⟨by rw [HH.out];rfl,hx1⟩
 have dY:decide ((np:Int)<=mx)=false:=decide_eq_false n2;by_cases n3:e.f=e.t
 ·have dd:(e.f == e.t)=true:=(by rw [beq_iff_eq];exact n3);have HH:=Asb (show r=17 by rw [HR.out,if_neg n1,if_neg n2,if_pos n3]);clear HR hid n1 n2 n3;go_wp2;go_ret;exact⟨by rw [HH.out];rfl,hx1⟩
 have vC:(e.f == e.t)=false:=(by rw [beq_eq_false_iff_ne];exact n3);have L2:=Asb (show r=if du=true then 9 else if Fc nf e.l=false then 3 else if Fc nf e.r=false then 3 else if e.l=e.r then 7 else 0 by rw [HR.out,if_neg n1,if_neg n2,if_neg n3]);have ci:=hid (bm+1) _ V hx1 hD;clear HR n1 n2 n3 hid
 cases KL:du
 rotate_left
 ·have HH:=Asb (show r=9 by rw [L2.out,KL];rfl);rw [KL]at ci;clear L2 KL;(go_wp2_with fail);(with_reducible refine ci.mono ?_);rintro e w2 ⟨rfl,hx2⟩;go_wp2;go_ret;exact⟨by rw [HH.out];rfl,hx1.trans hx2⟩
 have Wc:=Asb (show r=if Fc nf e.l=false then 3 else if Fc nf e.r=false then 3 else if e.l=e.r then 7 else 0 by rw [L2.out,KL];rfl);rw [KL]at ci;clear L2 KL;(go_wp2_with fail);(with_reducible refine ci.mono ?_);rintro _ w2 ⟨rfl,hx2⟩;have Jj:=(hx2.block _ (Asd Gl)).trans Gl;have OM:=(hx2.block _ (Asd hD)).trans hD;have s1:=Abc e.l bm nf g F _ _ _ w2 Jj;replace hx2:=hx1.trans hx2;clear m1 m2 m3 e1 e2 e3 e4 Gl hD hx1 ci;have e1:=Ab (o:=0) OM rfl;have e2:=Ab (o:=1) OM rfl;have e3:=Ab (o:=2) OM rfl;have e4:=Ab (o:=3) OM rfl
 cases h5:Fc nf e.l
 ·have HH:=Asb (show r=3 by rw [Wc.out,h5];rfl);rw [h5]at s1;clear Wc h5;(go_wp2_with fail);(with_reducible refine s1.mono ?_);rintro _ w3 ⟨rfl,hx3⟩;go_wp2;go_ret;exact⟨by rw [HH.out];rfl,hx2.trans hx3⟩
 have Wd:=Asb (show r=if Fc nf e.r=false then 3 else if e.l=e.r then 7 else 0 by rw [Wc.out,h5];rfl);rw [h5]at s1;clear Wc h5;(go_wp2_with fail);(with_reducible refine s1.mono ?_);rintro _ w3 ⟨rfl,hx3⟩;have Du:=(hx3.block _ (Asd Jj)).trans Jj;have ON:=(hx3.block _ (Asd OM)).trans OM;have s2:=Abc e.r bm nf g F _ _ _ w3 Du;replace hx3:=hx2.trans hx3;clear e1 e2 e3 e4 Jj OM hx2 s1;have e1:=Ab (o:=0) ON rfl;have e2:=Ab (o:=1) ON rfl;have e3:=Ab (o:=2) ON rfl;have e4:=Ab (o:=3) ON rfl
 cases h6:Fc nf e.r
 ·have HH:=Asb (show r=3 by rw [Wd.out,h6];rfl);rw [h6]at s2;clear Wd h6;(go_wp2_with fail);(with_reducible refine s2.mono ?_);rintro _ w4 ⟨rfl,Af⟩;go_wp2;go_ret;exact⟨by rw [HH.out];rfl,hx3.trans Af⟩
 have We:=Asb (show r=if e.l=e.r then 7 else 0 by rw [Wd.out,h6];rfl);rw [h6]at s2;clear Wd h6;(go_wp2_with fail);(with_reducible refine s2.mono ?_);rintro _ w4 ⟨rfl,Af⟩;have Xw:=(Af.block _ (Asd ON)).trans ON;replace Af:=hx3.trans Af;clear e1 e2 e3 e4 Du ON hx3 s2;have e1:=Ab (o:=0) Xw rfl;have e2:=Ab (o:=1) Xw rfl;have e3:=Ab (o:=2) Xw rfl;have e4:=Ab (o:=3) Xw rfl;by_cases n7:e.l=e.r
 ·have dd:(e.l == e.r)=true:=(by rw [beq_iff_eq];exact n7);have HH:=Asb (show r=7 by rw [We.out,if_pos n7]);clear We n7;go_wp2;go_ret;exact⟨by rw [HH.out];rfl,Af⟩
 ·have dd:(e.l == e.r)=false:=(by rw [beq_eq_false_iff_ne];exact n7);have HH:=Asb (show r=0 by rw [We.out,if_neg n7]);clear We n7;go_wp2;go_ret;exact⟨by rw [HH.out];rfl,Af⟩
def DO:List Pt→List Pt→Int
 | _,[]=>0
 | pre,p::l=>if pre.any (Ar p)then 9 else DO (pre ++ [p]) l
def DR(np nf:Nat):List AO→List AO→Int
 | _,[]=>0
 | pre,e::l=>if K8 np nf pre e≠0 then K8 np nf pre e else DR np nf (pre ++ [e]) l
def AA(l:List Pt)(z:Int):Pt:=l.getD z.toNat ⟨0,0⟩
def Qv(l:List Pt)(e f:AO):Bool:=Og (AA l e.f) (AA l e.t) (AA l f.f) (AA l f.t)
def FA(pts:List Pt):List AO→List AO→Int
 | _,[]=>0
 | pre,e::l=>if pre.any (Qv pts e)then 26 else FA pts (pre ++ [e]) l
def JJ(m:B7):Bool:=decide (400<m.pts.length)||(decide (1200<m.eds.length)||decide (800<m.nf))
theorem Afh{l:List Pt}{j:Nat}(h:j<l.length):DO (l.take j) (l.drop j)=if (l.take j).any (Ar l[j])then 9 else DO (l.take (j+1)) (l.drop (j+1)):=by
 rw [List.drop_eq_getElem_cons h,Asi h];rfl
theorem Afi{np nf:Nat}{l:List AO}{j:Nat}(h:j<l.length):DR np nf (l.take j) (l.drop j)=if K8 np nf (l.take j) l[j]≠0 then K8 np nf (l.take j) l[j] else DR np nf (l.take (j+1)) (l.drop (j+1)):=by
 rw [List.drop_eq_getElem_cons h,Asi h];rfl
theorem Afj{pts:List Pt}{l:List AO}{j:Nat}(h:j<l.length):FA pts (l.take j) (l.drop j)=if (l.take j).any (Qv pts l[j])then 26 else FA pts (l.take (j+1)) (l.drop (j+1)):=by
 rw [List.drop_eq_getElem_cons h,Asi h];rfl
theorem SN{np nf:Nat}{pre:List AO}{e:AO}(h:K8 np nf pre e=0):0<=e.f/\0<=e.t/\e.f<(np:Int)/\e.t<(np:Int)/\e.f≠e.t/\pre.any (GB · e)=false/\Fc nf e.l=true/\Fc nf e.r=true/\e.l≠e.r:=by
 unfold K8 at h
 split at h
 ·cases h
 split at h
 ·cases h
 split at h
 ·cases h
 split at h
 ·cases h
 split at h
 ·cases h
 split at h
 ·cases h
 split at h
 ·cases h
 rename_i h1 h2 h3 h4 h5 h6 h7
 exact⟨by omega,by omega,by omega,by omega,h3,by simpa using h4,by simpa using h5,by simpa using h6,h7⟩
theorem Qr{np nf:Nat}{l:List AO} : ∀{pre rest:List AO},DR np nf pre rest=0→∀(i:Nat) (h:i<rest.length),K8 np nf (pre++rest.take i) rest[i]=0
 | pre,[],_,i,h=>by simp at h
 | pre,e::rest,hc,i,h=>by
  unfold DR at hc
  split at hc
  ·rename_i hne
   exact absurd hc hne
  ·rename_i h0
   simp only [ne_eq,Decidable.not_not]at h0
   cases i with
   | zero=>simpa using h0
   | succ i=>
    have:=Qr (l:=l) hc i (by simpa using h)
    simpa using this
theorem uI{pts:List Pt} : ∀{pre rest:List AO},FA pts pre rest=0→∀(i:Nat) (h:i<rest.length),(pre++rest.take i).any (Qv pts rest[i])=false
 | pre,[],_,i,h=>by simp at h
 | pre,e::rest,hc,i,h=>by
  unfold FA at hc
  split at hc
  ·cases hc
  ·rename_i h0
   cases i with
   | zero=>simpa using h0
   | succ i=>
    have:=uI hc i (by simpa using h)
    simpa using this
theorem uH:∀{pre rest:List Pt},DO pre rest=0→∀(i:Nat) (h:i<rest.length),(pre++rest.take i).any (Ar rest[i])=false
 | pre,[],_,i,h=>by simp at h
 | pre,e::rest,hc,i,h=>by
  unfold DO at hc
  split at hc
  ·cases hc
  ·rename_i h0
   cases i with
   | zero=>simpa using h0
   | succ i=>
    have:=uH hc i (by simpa using h)
    simpa using this
def Bc(s t:Sg):Bool:=Ar s.a t.a&&Ar s.b t.b
theorem Ls{s t:Sg} : Bc s t=true↔s=t:=by
 unfold Bc;rw [Bool.and_eq_true,Di,Di];constructor
 ·rintro⟨h1,h2⟩
  cases s;cases t;simp_all
 ·rintro rfl;exact⟨rfl,rfl⟩
theorem Agw(p q:Pt)(W:World):(Op.equal 35 (Ak p) (Ak q)).run Tryz.prog W=.ok (Ar p q) W:=by
 unfold Ar Ak;rw [←Kz,←Kz]
 cases b1:(R p.x == R q.x)<;>cases b2:(R p.y == R q.y)<;>simp [go_sem,Op.equal,Op.maxDepth,b1,b2]
theorem vU(s t:Sg)(W:World):(Op.equal 183 (Ax s) (Ax t)).run Tryz.prog W=.ok (Bc s t) W:=by
 unfold Bc Ar Ax;rw [←Kz,←Kz,←Kz,←Kz]
 cases b1:(R s.a.x == R t.a.x)<;>cases b2:(R s.a.y == R t.a.y)<;>cases b3:(R s.b.x == R t.b.x)<;>cases b4:(R s.b.y == R t.b.y)<;>simp [go_sem,Op.equal,Op.maxDepth,b1,b2,b3,b4]
theorem Afc(b:Bool)(p:Pt)(W:World):(Instr.checkKey b 10000 35 (Ak p)).run Tryz.prog W=.ok () W:=by
 unfold Ak
 kernel_rfl
theorem uE(b:Bool)(s:Sg)(W:World):(Instr.checkKey b 10000 183 (Ax s)).run Tryz.prog W=.ok () W:=by
 unfold Ax
 kernel_rfl
/-! ### Entries -/
section
variable {α : Type} (enc : α → Value) (same : α → α → Bool)
def AK(l:List (α×Value×Nat)):List MapEntry:=l.map (fun e=>⟨enc e.1,e.2.1,e.2.2⟩)
theorem wG{kt:TypeId}(heq:∀x y W,(Op.equal kt (enc x) (enc y)).run Tryz.prog W=.ok (same x y) W)(k:α)(W:World):∀(l:List (α×Value×Nat)) (i:Nat),
  (Instr.findAsking kt (enc k) (AK enc l) i).run Tryz.prog W=.ok ((l.findIdx? (fun e=>same k e.1)).bind (fun j=>(l[j]?).map (fun e=>(i+j,e.2.1)))) W
 | [],i=>by simp [AK,Instr.findAsking]
 | e::l,i=>by
  have ih:=wG heq k W l (i+1);have e0:AK enc (e::l)=⟨enc e.1,e.2.1,e.2.2⟩::AK enc l:=rfl;rw [e0];unfold Instr.findAsking;simp only [Sem.run_bind,heq,Result.andThen_ok];rw [List.findIdx?_cons]
  cases h:same k e.1
  ·simp only [Bool.false_eq_true,if_false,ih]
   congr 1
   cases h2:l.findIdx? (fun e=>same k e.1)with
   | none=>simp
   | some j=>
    simp only [Option.map_some,Option.bind_some,List.getElem?_cons_succ]
    congr 1
    funext x
    rw [show i+1+j=i+(j+1)by omega]
  ·simp
end
section
variable {α : Type} {enc : α → Value} {same : α → α → Bool}
structure MN(mt kt et:TypeId)(z:Value)(enc:α→Value)(same:α→α→Bool):Prop where
 map:Tryz.prog.underlying mt=some (.map kt et)
 st:∃fs,Tryz.prog.underlying kt=some (.struct fs)
 zero:∀W,(zeroValue et).run Tryz.prog W=.ok z W
 eq:∀x y W,(Op.equal kt (enc x) (enc y)).run Tryz.prog W=.ok (same x y) W
 chk:∀b x W,(Instr.checkKey b 10000 kt (enc x)).run Tryz.prog W=.ok () W
 iff:∀{x y},same x y=true↔x=y
 bits:∀x,Instr.sameBits 10000 (enc x) (enc x)=true
def Ik(same:α→α→Bool)(k:α)(l:List (α×Value×Nat)):Option Nat:=l.findIdx? (fun e=>same k e.1)
theorem Xk{mt kt et:TypeId}{z:Value}(K:MN mt kt et z enc same)(k:α)(l:List (α×Value×Nat))(W:World) :
  (Instr.findKey kt (enc k) (AK enc l)).run Tryz.prog W=.ok ((Ik same k l).bind (fun j=>(l[j]?).map (fun e=>(j,e.2.1)))) W:=by
 obtain⟨fs,hfs⟩:=K.st;unfold Instr.findKey;simp only [Sem.run_bind,run_underlying hfs,Result.andThen_ok]
 cases l with
 | nil=>simp [AK,Instr.findNow,Ik]
 | cons e l=>
  have e0:AK enc (e::l)=⟨enc e.1,e.2.1,e.2.2⟩::AK enc l:=rfl
  have h1:Instr.findNow (.struct fs) (enc k) (AK enc (e::l)) 0=none:=by rw [e0];unfold Instr.findNow;have:Instr.sameNow (.struct fs) (enc k) (enc e.1)=none:=(by unfold Instr.sameNow;rfl);rw [this]
  rw [h1];have h2:=wG enc same K.eq k W (e::l) 0;simp only [Nat.zero_add]at h2;exact h2
def Le(same:α→α→Bool)(z:Value)(k:α)(l:List (α×Value×Nat)):Value:=match l.find? (fun e=>same k e.1)with|some e=>e.2.1|none=>z
theorem Akb{k:α}{l:List (α×Value×Nat)} : (Ik same k l).bind (fun j=>(l[j]?).map (fun e=>(j,e.2.1)))=(Ik same k l).bind (fun j=>(l.find? (fun e=>same k e.1)).map (fun e=>(j,e.2.1))):=by
 unfold Ik
 cases h:l.findIdx? (fun e=>same k e.1)with
 | none=>rfl
 | some j=>
  simp only [Option.bind_some];rw [List.findIdx?_eq_some_iff_getElem]at h;obtain⟨hj,h1,h2⟩:=h
  have h3:l.find? (fun e=>same k e.1)=some l[j]:=by rw [List.find?_eq_some_iff_getElem];exact⟨h1,j,hj,rfl,fun i hi=>by have:=h2 i hi;simpa using this⟩
  rw [h3,Asl hj]
theorem ZQ{mt kt et:TypeId}{z:Value}(K:MN mt kt et z enc same)(k:α)(l:List (α×Value×Nat)){b clock:Nat}{W:World}(hb:W.heap[b]?=some (.map (AK enc l).toArray clock)) :
  (Instr.lookup mt (.map (some b)) (enc k) false).run Tryz.prog W=.ok (Le same z k l) W:=by
 have hf:=Xk K k l W;rw [Akb]at hf;unfold Le
 cases h:l.find? (fun e=>same k e.1)with
 | none=>
  rw [h]at hf
  have hf':(Instr.findKey kt (enc k) (AK enc l)).run Tryz.prog W=.ok none W:=by rw [hf];cases Ik same k l<;>rfl
  simp [Instr.lookup,run_underlying K.map,MapKept.run_getObj_map hb,K.chk,hf',K.zero,Result.andThen]
 | some e=>
  have hi:(Ik same k l).isSome:=by unfold Ik;rw [List.findIdx?_isSome,List.any_eq_true];exact⟨e,List.mem_of_find?_eq_some h,(by have:=List.find?_some h;exact this)⟩
  obtain⟨j,hj⟩:=Option.isSome_iff_exists.1 hi;rw [h,hj]at hf;simp only [Option.bind_some,Option.map_some]at hf;simp [Instr.lookup,run_underlying K.map,MapKept.run_getObj_map hb,K.chk,hf,Result.andThen]
end
theorem UP:MN 109 35 39 (.slice none 0 0) Ak Ar where
 map:=Tryz.underlying109
 st:=⟨_,Tryz.underlying35⟩
 zero:=fun W=>by simp [go_sem]
 eq:=Agw
 chk:=Afc
 iff:=Di
 bits:=fun x=>by unfold Ak;simp [Instr.sameBits,beq_toListBytes]
theorem mJ:MN 108 183 3 (.int .i64 0) Ax Bc where
 map:=Tryz.underlying108
 st:=⟨_,Tryz.underlying183⟩
 zero:=fun W=>by simp [go_sem]
 eq:=vU
 chk:=uE
 iff:=Ls
 bits:=fun x=>by unfold Ax;simp [Instr.sameBits,beq_toListBytes]
section
open Go.ChangeMaps (setBlock)
theorem On{w:World}{b:Nat}{o o':Obj}(h:w.heap[b]?=some o'):(setBlock w b o).heap[b]?=some o:=by
 have hlt:=(Array.getElem?_eq_some_iff.1 h).1;show (w.heap.setIfInBounds b o)[b]?=some o;rw [Array.getElem?_setIfInBounds_self];simp [hlt]
theorem V4{w:World}{b k:Nat}{o:Obj}(h:k≠b):(setBlock w b o).heap[k]?=w.heap[k]?:=by
 show (w.heap.setIfInBounds b o)[k]?=w.heap[k]?;rw [Array.getElem?_setIfInBounds_ne (by omega)]
theorem oR{w:World}{b:Nat}{o:Obj}(h:w.heap[b]?=some o):setBlock w b o=w:=by
 have hlt:=(Array.getElem?_eq_some_iff.1 h).1
 have e:w.heap.setIfInBounds b o=w.heap:=by
  apply Array.ext_getElem?;intro i;by_cases hi:i=b
  ·subst hi;rw [Array.getElem?_setIfInBounds_self];simp [hlt]at *;exact h.symm
  ·rw [Array.getElem?_setIfInBounds_ne (by omega)]
 unfold setBlock;rw [e]
section
variable {α : Type} {enc : α → Value} {same : α → α → Bool}
theorem oN{mt kt et:TypeId}{z:Value}(K:MN mt kt et z enc same)(k:α)(l:List (α×Value×Nat))(hno:∀e∈l,same k e.1=false){b clock:Nat}{W:World}(hb:W.heap[b]?=some (.map (AK enc l).toArray clock)) :
  (Instr.mapEntry mt (.map (some b)) (enc k)).run Tryz.prog W=.ok (.tuple #[z,.int .i64 (clock:Nat)]) (setBlock W b (.map (AK enc (l ++ [(k,z,clock)])).toArray (clock+1))):=by
 have hf:=Xk K k l W
 have hi:Ik same k l=none:=by unfold Ik;rw [List.findIdx?_eq_none_iff];exact hno
 rw [hi]at hf;simp only [Option.bind_none]at hf
 have e0:AK enc l ++ [{key:=enc k,val:=z,born:=clock}]=AK enc (l ++ [(k,z,clock)]):=by simp [AK]
 simp [Instr.mapEntry,run_underlying K.map,MapKept.run_getObj_map hb,K.chk,hf,K.zero,MapKept.run_setObj_map _ hb,Result.andThen,setBlock,e0,goInt]
theorem AnD{mt kt et:TypeId}{z:Value}(K:MN mt kt et z enc same)(k:α)(l:List (α×Value×Nat)){j:Nat}(hj:j<l.length)(hno:∀e∈l.take j,same k e.1=false)(hk:l[j].1=k){b clock:Nat}{W:World}(hb:W.heap[b]?=some (.map (AK enc l).toArray clock)) :
  (Instr.mapEntry mt (.map (some b)) (enc k)).run Tryz.prog W=.ok (.tuple #[l[j].2.1,.int .i64 (l[j].2.2:Nat)]) W:=by
 have hf:=Xk K k l W
 have hi:Ik same k l=some j:=by unfold Ik;rw [List.findIdx?_eq_some_iff_getElem];refine⟨hj,by rw [hk];exact K.iff.2 rfl,fun i BM=>?_⟩;rw [Bool.not_eq_true];refine hno l[i] ?_;rw [List.mem_take_iff_getElem];exact⟨i,by omega,rfl⟩
 rw [hi]at hf;simp only [Option.bind_some,Asl hj,Option.map_some]at hf
 have Db:(AK enc l)[j]?=some ⟨enc k,l[j].2.1,l[j].2.2⟩:=by simp [AK,Asl hj,hk]
 have hst:(Instr.keyThatStays (enc k) (enc k)).run Tryz.prog W=.ok (enc k) W:=by simp [Instr.keyThatStays,K.bits]
 have hmod:(AK enc l).modify j (fun e=>{e with key:=enc k})=AK enc l:=by
  apply List.ext_getElem?;intro i;rw [List.getElem?_modify];by_cases BM:j=i
  ·subst BM;rw [Db];simp
  ·simp [BM]
 have AP:(setBlock W b (.map (AK enc l).toArray clock))=W:=oR hb;unfold setBlock at AP;simp [Instr.mapEntry,run_underlying K.map,MapKept.run_getObj_map hb,K.chk,hf,Db,hst,MapKept.run_setObj_map _ hb,Result.andThen,goInt];rw [hmod];exact AP
theorem AaO(mt:TypeId)(l:List (α×Value×Nat)){j:Nat}(hj:j<l.length)(hno:∀e∈l.take j,e.2.2≠l[j].2.2)(v:Value){b clock:Nat}{W:World}(hb:W.heap[b]?=some (.map (AK enc l).toArray clock)) :
  (Instr.entryStore mt (.map (some b)) (.int .i64 (l[j].2.2:Nat)) v).run Tryz.prog W=.ok () (setBlock W b (.map (AK enc (l.set j (l[j].1,v,l[j].2.2))).toArray clock)):=by
 have hf:(AK enc l).findIdx? (fun e=>(e.born:Int) == (l[j].2.2:Int))=some j:=by rw [List.findIdx?_eq_some_iff_getElem];refine⟨by simp [AK];exact hj,by simp [AK],fun i BM=>?_⟩;have:=hno l[i] (by rw [List.mem_take_iff_getElem];exact⟨i,by omega,rfl⟩);simp [AK];omega
 have e0:(AK enc l).modify j (fun e=>{e with val:=v})=AK enc (l.set j (l[j].1,v,l[j].2.2)):=by
  apply List.ext_getElem?;intro i;rw [List.getElem?_modify];by_cases BM:j=i
  ·subst BM;simp [AK,hj]
  ·simp [BM,AK,List.getElem?_set_ne BM]
 simp [Instr.entryStore,MapKept.run_getObj_map hb,asInt,asIntOf,hf,MapKept.run_setObj_map _ hb,Result.andThen,setBlock,e0]
end
end
section
open Go.ChangeMaps (setBlock)
def CM(s:Sg):Sg:=⟨s.b,s.a⟩
theorem AeA(s:Sg)(w:World):Calls Tryz.prog 191 #[Ax s] w (Bg (Ax (CM s)) w):=by
 have hE:=((Aa.refl w).alloc (.cells #[S (R s.a.x),S (R s.a.y),S (R s.b.x),S (R s.b.y)] 183)).alloc (.cells #[S [],S [],S [],S []] 183);have hb1:=(Below.heap_alloc (w.alloc (.cells #[S (R s.a.x),S (R s.a.y),S (R s.b.x),S (R s.b.y)] 183)) (.cells #[S [],S [],S [],S []] 183) w.heap.size (by simp)).trans (Ase w (.cells #[S (R s.a.x),S (R s.a.y),S (R s.b.x),S (R s.b.y)] 183));have hb2:=Ase (w.alloc (.cells #[S (R s.a.x),S (R s.a.y),S (R s.b.x),S (R s.b.y)] 183)) (.cells #[S [],S [],S [],S []] 183);rw [Asn]at hb2;unfold CM Ax;go_enter Tryz.func191,Tryz.ntmps191
 go_upto_region 1 with fail
 rw [show (⟨#[]⟩:ByteArray)=⟨([]:Bs).toArray⟩from rfl];generalize (w.alloc (.cells #[S (R s.a.x),S (R s.a.y),S (R s.b.x),S (R s.b.y)] 183)).alloc (.cells #[S [],S [],S [],S []] 183)=V at *;obtain⟨bb,BA⟩:=AcG w.heap.size;have hle:w.heap.size<=bb+1:=(by omega);rw [←BA]at hb1 hb2 ⊢;clear BA;have k1:=Ab (o:=0) hb1 rfl;have k2:=Ab (o:=1) hb1 rfl;have k3:=Ab (o:=2) hb1 rfl;have k4:=Ab (o:=3) hb1 rfl;have y0:=An (o:=0) hb2;have y1:=An (o:=1) hb2;have y2:=An (o:=2) hb2;have y3:=An (o:=3) hb2;have z0:=Ab (o:=0) hb2 rfl;have z1:=Ab (o:=1) hb2 rfl;have z2:=Ab (o:=2) hb2 rfl;have z3:=Ab (o:=3) hb2 rfl;have hq:=Qn (S (R s.b.x)) (S (R s.b.y)) (S (R s.a.x)) (S (R s.a.y)) hb2;have q0:=Ab (o:=0) hq rfl;have q1:=Ab (o:=1) hq rfl;have q2:=Ab (o:=2) hq rfl;have q3:=Ab (o:=3) hq rfl;clear hq hb1 hb2;go_wp2;refine bodyPost_ret (v:=.agg #[S (R s.b.x),S (R s.b.y),S (R s.a.x),S (R s.a.y)]) (by simp [results,Tryz.results191,go_sem,q0,q1,q2,q3]) rfl ?_;exact⟨rfl,(((hE.setCell (p:=⟨bb+1,0,none⟩) hle _).setCell (p:=⟨bb+1,1,none⟩) hle _).setCell (p:=⟨bb+1,2,none⟩) hle _).setCell (p:=⟨bb+1,3,none⟩) hle _⟩
def Tb(w:World):World:=((w.alloc (.map #[] 0)).alloc (.map #[] 0)).alloc (.cells #[.map (some w.heap.size),.map (some (w.heap.size+1))] 111)
theorem Agp(w:World):Calls Tryz.prog 120 #[] w (fun e w'=>e=.returned (.pointer (some ⟨w.heap.size+1+1,0,none⟩))/\w'=Tb w):=by
 have hmm:=@run_makeMap Tryz.prog;go_enter Tryz.func120,Tryz.ntmps120;go_wp2;go_ret;exact⟨rfl,rfl⟩
end
section
open Go.ChangeMaps (setBlock)
def Ha(R:List (Pt×List Pt))(p:Pt):Nat:=(R.findIdx? (fun e=>Ar p e.1)).getD R.length
def Hx(R:List (Pt×List Pt))(p:Pt):List (Pt×List Pt):=match R.findIdx? (fun e=>Ar p e.1)with|some _=>R|none=>R ++ [(p,[])]
def EM(R:List (Pt×List Pt))(p q:Pt):List (Pt×List Pt):=(Hx R p).modify (Ha R p) (fun e=>(e.1,e.2 ++ [q]))
structure Fh(B:Nat)(W:World)(b2:Nat)(E:List (Pt×Value×Nat))(R:List (Pt×List Pt)):Prop where
 blk:W.heap[b2]?=some (.map (AK Ak E).toArray E.length)
 len:E.length=R.length
 row:∀i (h:i<E.length) (h':i<R.length),E[i].1=R[i].1/\E[i].2.2=i/\W.ownsRow B 35 2 E[i].2.1 R[i].2.length (flat (AI R[i].2))
 apart:∀i j (hi:i<E.length) (hj:j<E.length),i≠j→E[i].2.1.ownBlock=none∨E[i].2.1.ownBlock≠E[j].2.1.ownBlock
 own:B<=b2
theorem Fh.lt{B:Nat}{W:World}{b2:Nat}{E:List (Pt×Value×Nat)}{R:List (Pt×List Pt)}(h:Fh B W b2 E R):b2<W.heap.size:=(Array.getElem?_eq_some_iff.1 h.blk).1
theorem Fh.keep{B:Nat}{W W':World}{b2:Nat}{E:List (Pt×Value×Nat)}{R:List (Pt×List Pt)}(h:Fh B W b2 E R)(hg:W.grownBy W' none):Fh B W' b2 E R:=
 ⟨(hg.block b2 h.lt (by simp)).trans h.blk,h.len,fun i hi hi'=>⟨(h.row i hi hi').1,(h.row i hi hi').2.1,(h.row i hi hi').2.2.kept hg (by
  rcases hv:E[i].2.1.ownBlock with _|g
  ·exact .inl rfl
  ·exact .inr (by simp))⟩,h.apart,h.own⟩
theorem eH{E:List (Pt×Value×Nat)}{R:List (Pt×List Pt)}(hl:E.length=R.length)(he:∀i (h:i<E.length) (h':i<R.length),E[i].1=R[i].1)(p:Pt):E.findIdx? (fun e=>Ar p e.1)=R.findIdx? (fun e=>Ar p e.1):=by
 have h1:E.map (·.1)=R.map (·.1):=by
  apply List.ext_getElem
  ·simp [hl]
  ·intro i h1 h2;simp at h1 h2 ⊢;exact he i h1 h2
 have f:∀{β:Type} (l:List (Pt×β)),l.findIdx? (fun e=>Ar p e.1)=(l.map (·.1)).findIdx? (Ar p):=by
  intro β l;rw [List.findIdx?_map]
  rfl
 rw [f E,f R,h1]
theorem Nh{w:World}{b:Nat}{o o':Obj}(_:w.heap[b]?=some o'):w.grownBy (setBlock w b o) (some b):=
 ⟨rfl,rfl,rfl,by simp [setBlock],fun k _ hk=>V4 (fun e=>hk (by rw [e]))⟩
theorem Fh.entry{B:Nat}{W:World}{b2:Nat}{E:List (Pt×Value×Nat)}{R:List (Pt×List Pt)}(h:Fh B W b2 E R)(p:Pt) :
  ∃W1 E1,Fh B W1 b2 E1 (Hx R p)/\W.grownBy W1 (some b2)/\W1.heap.size=W.heap.size/\∃hj:Ha R p<E1.length,∃hj':Ha R p<(Hx R p).length,((Hx R p)[Ha R p]).1=p/\
   (∀V,V.heap[b2]?=W.heap[b2]?→(Instr.mapEntry 109 (.map (some b2)) (Ak p)).run Tryz.prog V=.ok (.tuple #[E1[Ha R p].2.1,.int .i64 (Ha R p:Nat)]) (setBlock V b2 (.map (AK Ak E1).toArray E1.length)))/\W1=setBlock W b2 (.map (AK Ak E1).toArray E1.length):=by
 have Gs:=eH h.len (fun i h1 h2=>(h.row i h1 h2).1) p
 cases hf:R.findIdx? (fun e=>Ar p e.1)with
 | none=>
  have e1:Ha R p=R.length:=(by unfold Ha;rw [hf];rfl);have e2:Hx R p=R ++ [(p,[])]:=(by unfold Hx;rw [hf]);rw [hf]at Gs;have hno:∀e∈E,Ar p e.1=false:=(by rw [List.findIdx?_eq_none_iff]at Gs;exact Gs);have hnew:=oN UP p E hno (W:=W) h.blk;rw [e2];refine⟨_,E ++ [(p,.slice none 0 0,E.length)],⟨?_,?_,?_,?_,h.own⟩,Nh h.blk,?_,?_,?_,?_,?_,rfl⟩
  ·rw [On h.blk]
  ·simp [h.len]
  ·intro i hi hi';by_cases hlt:i<E.length
   ·have QQ:i<R.length:=(by rw [←h.len];exact hlt);rw [List.getElem_append_left hlt,List.getElem_append_left QQ];obtain⟨r1,r2,r3⟩:=h.row i hlt QQ;refine⟨r1,r2,r3.kept (Nh h.blk) ?_⟩
    rcases r3.2 with⟨hn,_⟩|⟨g,cap,cur,hv,hb,hg,_⟩
    ·left;rw [hn];rfl
    ·right
     rw [hv];simp only [Value.ownBlock,ne_eq,Asj];intro e;rw [e,h.blk]at hg
     cases hg
   ·have Ma:i=E.length:=(by simp at hi;omega);subst Ma;rw [List.getElem_append_right (by omega),List.getElem_append_right (by rw [h.len];omega)];simp only [Nat.sub_self,List.getElem_cons_zero,h.len];exact⟨by trivial,by trivial,⟨rfl,.inl ⟨rfl,rfl⟩⟩⟩
  ·intro i j hi hj BM;by_cases CB:i<E.length
   ·rw [List.getElem_append_left CB];by_cases AG:j<E.length
    ·rw [List.getElem_append_left AG];exact h.apart i j CB AG BM
    ·rw [List.getElem_append_right (by omega)];have Mc:j=E.length:=(by simp at hj;omega);subst Mc;simp only [Nat.sub_self,List.getElem_cons_zero]
     cases E[i].2.1.ownBlock with
     | none=>left;rfl
     | some g=>right;simp [Value.ownBlock]
   ·rw [List.getElem_append_right (by omega)];have Ma:i=E.length:=(by simp at hi;omega);subst Ma
    left
    simp [Value.ownBlock]
  ·simp [setBlock]
  ·rw [e1,←h.len];simp
  ·rw [e1];simp
  ·simp only [e1];rw [List.getElem_append_right (by omega)];simp
  ·intro V hV;have hnV:=oN UP p E hno (W:=V) (hV.trans h.blk);rw [hnV];simp only [e1];rw [List.getElem_append_right (by rw [h.len];omega)];simp [h.len]
 | some j=>
  have e1:Ha R p=j:=(by unfold Ha;rw [hf];rfl);have e2:Hx R p=R:=(by unfold Hx;rw [hf]);rw [hf]at Gs;rw [List.findIdx?_eq_some_iff_getElem]at Gs;obtain⟨hj,h1,h2⟩:=Gs;have hj':j<R.length:=by rw [←h.len];exact hj
  have hno:∀e∈E.take j,Ar p e.1=false:=by
   intro e he;rw [List.mem_take_iff_getElem]at he;obtain⟨i,hi,rfl⟩:=he;have:=h2 i (by omega)
   simpa using this
  have hk:E[j].1=p:=(Di.1 h1).symm;rw [e2];refine⟨W,E,h,⟨rfl,rfl,rfl,Asf _,fun _ _ _=>rfl⟩,rfl,by rw [e1];exact hj,by rw [e1];exact hj',?_,?_,(oR h.blk).symm⟩
  ·simp only [e1];rw [←(h.row j hj hj').1];exact hk
  ·intro V hV;have hb:=hV.trans h.blk;have:=AnD UP p E hj hno hk (W:=V) hb;rw [this,oR hb];simp only [e1,(h.row j hj hj').2.1]
end
end Go.Proofs.YtdaefncphfeaeaaGreatDoor
