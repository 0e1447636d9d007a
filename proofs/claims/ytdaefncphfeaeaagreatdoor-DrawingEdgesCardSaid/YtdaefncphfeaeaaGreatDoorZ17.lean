/- Z17: G1 G2 G3 G4 G5. -/
import Derived.Test.YtdaefncphfeaeaaGreatDoorZ16
set_option maxRecDepth 100000
set_option maxHeartbeats 4000000
namespace Go.Proofs.YtdaefncphfeaeaaGreatDoor
open Go.RowKit Kl
structure Am(w:World)(A:Option Addr)(cs:List Value):Prop where
 ad:0<cs.length→∃b o,A=some ⟨b,o,none⟩/\∀j (h:j<cs.length),w.cell? ⟨b,o+j,none⟩=some cs[j]
theorem Am.ext{w w':World}{A:Option Addr}{cs:List Value}(h:Am w A cs)(hx:Aa w w'):Am w' A cs:=
 ⟨fun h0=>by
  obtain⟨b,o,e,hc⟩:=h.ad h0
  exact⟨b,o,e,fun j hj=>hx.cellS (hc j hj)⟩⟩
theorem Am.lit(w:World)(cs:Array Value)(t:TypeId):Am (w.alloc (.cells cs t)) (some ⟨w.heap.size,0,none⟩) cs.toList:=
 ⟨fun _=>⟨w.heap.size,0,rfl,fun j hj=>by
  refine Ab (Ase w _) ?_
  rw [Nat.zero_add,←Array.getElem?_toList,Asl hj]⟩⟩
def Zw(l:List Bs):Prop:=∀x∈l,EK x
theorem Alt{x y:Bs} : Zw [x,y]↔EK x/\EK y:=by unfold Zw;simp
open Classical in
theorem yl(l:List Bs)(ok:Bool)(Au:ok=true↔Zw l)(A:Option Addr)(c:Nat)(w:World)(hw:Ai w)(hr:Am w A (l.map S))(_:l.length<=c)(_:c<=9223372036854775807)(hl:l.length<=100000)(hlen:∀x∈l,x.length<100000) :
  Calls Tryz.prog 113 #[.slice A l.length c] w (AQ (E8 ok) w):=by
 have HV:=Asb Au;have HL:=Asb hlen;clear Au hlen;go_enter Tryz.func113,Tryz.ntmps113;go_wp2
 go_loopw [8] (fun i wr=>∃j:Nat,i=.int .i64 (j:Nat)/\j<=l.length/\(∀x∈l.take j,EK x)/\Aa w wr) (fun i _=>l.length-(intOf i).toNat)
 case atStart=>exact⟨0,rfl,by omega,by simp,Aa.refl _⟩
 case round=>
  obtain⟨j,rfl,hj,Au,Ac⟩:=hrel;have HO:=Asb Au;clear Au;by_cases hlt:j<l.length
  ·obtain⟨b,o,rfl,hcs⟩:=(hr.ext Ac).ad (by simp;omega);have hg:=hcs j (by simp;omega);rw [List.getElem_map]at hg;clear hcs;obtain⟨x,hx⟩:=AcG (l[j]);rw [←hx]at hg;have hmem:x∈l:=(by rw [hx];exact Asg hlt);have ck:=Aau x (HL.out x hmem) wr (hw.ext Ac);have HX:=Asb hx;clear hx;have hj0:(0:Int)<=(j:Int):=(by omega);have AG:(j:Int)<(l.length:Int):=(by omega);by_cases hx:EK x
   ·rw [decide_eq_true hx,GA]at ck;(go_wp2_with fail);(with_reducible refine ck.mono ?_);rintro e w2 ⟨rfl,hx2⟩;go_wp2;go_roundw
    case rel=>
     refine⟨j+1,by go_num,hlt,?_,Ac.trans hx2⟩;intro y hy;rw [Asi hlt,←HX.out]at hy
     rcases List.mem_append.1 hy with h|h
     ·exact HO.out y h
     ·simp only [Ass]at h;rw [h];exact hx
    case measure=>simp [intOf];omega
   ·rw [decide_eq_false hx,OA]at ck
    have hv:ok=false:=by
     cases ok
     ·rfl
     ·exact absurd (HV.out.1 rfl x hmem) hx
    subst hv;rw [OA];(go_wp2_with fail);(with_reducible refine ck.mono ?_);rintro e w2 ⟨rfl,hx2⟩;go_wp2;go_ret;exact⟨rfl,Ac.trans hx2⟩
  ·have hv:ok=true:=HV.out.2 (by
    have:=HO.out
    rwa [Aso (by omega)]at this)
   subst hv;rw [GA];go_wp2;go_ret;exact⟨rfl,Ac⟩
theorem SL(x y:Bs)(ok:Bool)(Au:ok=true↔EK x/\EK y)(hx:x.length<100000)(hy:y.length<100000)(w:World)(hw:Ai w) :
  Calls Tryz.prog 49 #[.agg #[S x,S y]] w (AQ (E8 ok) w):=by
 have e1:=(Aa.refl w).alloc (.cells #[S x,S y] 35);have e2:=e1.alloc (.cells #[S x,S y] 33);have hr:=Am.lit (w.alloc (.cells #[S x,S y] 35)) #[S x,S y] 33;have nm:=yl [x,y] ok (by rw [Au,Alt]) _ 2 _ (hw.ext e2) hr (by simp) (by omega) (by simp) (by intro z hz;simp only [List.mem_cons,Asr,or_false]at hz;rcases hz with rfl|rfl<;>assumption);simp only [List.length_cons,List.length_nil,Nat.zero_add,Nat.reduceAdd,Asn]at nm;clear hr Au;go_enter Tryz.func49,Tryz.ntmps49;(go_wp2_with fail);(with_reducible refine nm.mono ?_);rintro e w2 ⟨rfl,hx2⟩;go_wp2;go_ret;exact⟨rfl,e2.trans hx2⟩
def flat(l:List (Bs×Bs)):List Value:=l.flatMap fun p=>[S p.1,S p.2]
theorem flat_length(l:List (Bs×Bs)):(flat l).length=l.length*2:=by
 induction l with
 | nil=>rfl
 | cons p l ih=>unfold flat at *;simp only [List.flatMap_cons,List.length_append,List.length_cons,List.length_nil];omega
theorem flat_get:∀(l:List (Bs×Bs)) (j:Nat) (h:j<l.length),(flat l)[j*2]?=some (S l[j].1)/\(flat l)[j*2+1]?=some (S l[j].2)
 | p::l,0,_=>⟨rfl,rfl⟩
 | p::l,j+1,h=>by have ih:=flat_get l j (by simpa using h);have e:flat (p::l)=S p.1::S p.2::flat l:=rfl;rw [e,show (j+1)*2=j*2+1+1 by omega];exact ih
def NZ(l:List (Bs×Bs)):Prop:=∀p∈l,EK p.1/\EK p.2
def RV(l:List (Bs×Bs)):Prop:=∀p∈l,p.1.length<100000/\p.2.length<100000
open Classical in
theorem nP(l:List (Bs×Bs))(ok:Bool)(Au:ok=true↔NZ l)(A:Option Addr)(c:Nat)(w:World)(hw:Ai w)(hr:Am w A (flat l))(hc:l.length<=c)(hcm:c<=9223372036854775807)(hlen:RV l) :
  Calls Tryz.prog 59 #[.slice A l.length c] w (AQ (E8 ok) w):=by
 have HV:=Asb Au;have HL:=Asb hlen;clear Au hlen;go_enter Tryz.func59,Tryz.ntmps59;go_wp2
 go_loopw [7] (fun i wr=>∃j:Nat,i=.int .i64 (j:Nat)/\j<=l.length/\NZ (l.take j)/\Aa w wr) (fun i _=>l.length-(intOf i).toNat)
 case atStart=>exact⟨0,rfl,by omega,by simp [NZ],Aa.refl _⟩
 case round=>
  obtain⟨j,rfl,hj,Au,Ac⟩:=hrel;have HO:=Asb Au;clear Au;by_cases hlt:j<l.length
  ·obtain⟨b,o,rfl,hcs⟩:=(hr.ext Ac).ad (by rw [flat_length];omega);obtain⟨f1,f2⟩:=flat_get l j hlt;have hg1:=hcs (j*2) (by rw [flat_length];omega);have hg2:=hcs (j*2+1) (by rw [flat_length];omega);rw [Asl (by rw [flat_length];omega),Asj]at f1 f2;rw [f1]at hg1;rw [f2,←Nat.add_assoc]at hg2;clear hcs f1 f2;obtain⟨p,hp⟩:=AcG (l[j]);rw [←hp]at hg1 hg2;have hmem:p∈l:=(by rw [hp];exact Asg hlt);obtain⟨x,y⟩:=p;have hx1:=Ac.alloc (.cells #[S x,S y] 35);have HX:=Asb hp;clear hp;have hj0:(0:Int)<=(j:Int):=(by omega);have AG:(j:Int)<(l.length:Int):=(by omega);by_cases hx:EK x/\EK y
   ·have ck:=SL x y true (by simp [hx]) (HL.out _ hmem).1 (HL.out _ hmem).2 _ (hw.ext hx1);rw [GA]at ck;(go_wp2_with fail);(with_reducible refine ck.mono ?_);rintro e w2 ⟨rfl,hx2⟩;go_wp2;go_roundw
    case rel=>
     refine⟨j+1,by go_num,hlt,?_,hx1.trans hx2⟩;intro y hy;rw [Asi hlt,←HX.out]at hy
     rcases List.mem_append.1 hy with h|h
     ·exact HO.out y h
     ·simp only [Ass]at h;rw [h];exact hx
    case measure=>simp [intOf];omega
   ·have ck:=SL x y false (by simp only [Bool.false_eq_true,false_iff];exact hx) (HL.out _ hmem).1 (HL.out _ hmem).2 _ (hw.ext hx1);rw [OA]at ck
    have hv:ok=false:=by
     cases ok
     ·rfl
     ·exact absurd (HV.out.1 rfl _ hmem) hx
    subst hv;rw [OA];(go_wp2_with fail);(with_reducible refine ck.mono ?_);rintro e w2 ⟨rfl,hx2⟩;go_wp2;go_ret;exact⟨rfl,hx1.trans hx2⟩
  ·have hv:ok=true:=HV.out.2 (by
    have:=HO.out
    rwa [Aso (by omega)]at this)
   subst hv;rw [GA];go_wp2;go_ret;exact⟨rfl,Ac⟩
theorem zG:(1/2:Rat)=mkRat 1 2:=by rw [Rat.mkRat_eq_div];rfl
theorem zI:(1/2:Rat).num=1:=by rw [zG,Rat.num_mkRat];decide
theorem zF:(1/2:Rat).den=2:=by rw [zG,Rat.den_mkRat];decide
theorem rT:R (1/2) = [49,47,50]:=by
 rw [LC,zI,zF];unfold EQ;rw [if_neg (by omega),MK,Ew (by omega)]
 rfl
theorem rZ:Sz 1 (1/2):=⟨by rw [zI];decide,by rw [zF];decide⟩
theorem AdV{n:Nat}(hn:n<=2000):Sz 4 ((n:Int):Rat):=Sz.int (by omega) (by
 have:(10:Nat)^4=10000:=by decide
 rw [Ash];omega)
theorem x9(p q:Rat)(n:Nat)(hq:q≠0){a b:Nat}(hp:Sz a p)(kY:Sz b q)(ha:0<a)(hb:0<b)(hab:a+b<=3900)(hn:n<=2000)(h1:-1000000<=Fa p q n)(h2:Fa p q n<=1000000)(w:World)(hw:Ai w) :
  Calls Tryz.prog 112 #[S (R p),S (R q),.int .i64 (n:Nat)] w (Bg (.tuple #[.int .i64 (Fa p q n),.bool true]) w):=by
 have wh:=nY (n:Int) (by omega) (by omega);have hnz:Sz 4 ((n:Int):Rat):=AdV hn;have ml:=Io p ((n:Int):Rat) (a:=a) (b:=4) ⟨hp,hnz,ha,by omega,by omega⟩;have dv:=PI (p*((n:Int):Rat)) q hq (a:=a+4) (b:=b) ⟨hp.mul hnz,kY,by omega,hb,by omega⟩;have mB:Sz (a+4+b) (p*((n:Int):Rat)/q):=Sz.div hb (hp.mul hnz) kY;have ad:=Ol (p*((n:Int):Rat)/q) (1/2) (a:=a+4+b) (b:=1) ⟨mB,rZ,by omega,by omega,by omega⟩;rw [rT]at ad;have fl:=nW (p*((n:Int):Rat)/q+1/2) (k:=a+4+b+1+1) (by omega) (by omega) (mB.add rZ);have e:Fa p q n=(p*((n:Int):Rat)/q+1/2).floor:=(by unfold Fa;rfl);rw [←e]at fl;obtain⟨z,hz⟩:=AcG (Fa p q n);rw [←hz]at fl h1 h2 ⊢;have sm:=AjX z (Av.small (by omega) (by omega));have es:ZY z=.tuple #[.int .i64 z,.bool true]:=if_pos ⟨by omega,by omega⟩;rw [es]at sm;have d1:decide (z<=1000000)=true:=(by rw [decide_eq_true_eq];exact h2);have d2:decide (-1000000<=z)=true:=(by rw [decide_eq_true_eq];exact h1);unfold GQ at dv;clear hq hp kY ha hb hab hnz mB e hz es;go_enter Tryz.func112,Tryz.ntmps112;(go_wp2_with fail);(with_reducible refine(wh _ hw).mono ?_);rintro e w1 ⟨rfl,hx⟩;(go_wp2_with fail);(with_reducible refine(ml _ (hw.ext hx)).mono ?_);rintro e w2 ⟨rfl,hx2⟩;replace hx:=hx.trans hx2;(go_wp2_with fail);(with_reducible refine(dv _ (hw.ext hx)).mono ?_);rintro e w3 ⟨rfl,hx3⟩;replace hx:=hx.trans hx3;(go_wp2_with fail);(with_reducible refine(ad _ (hw.ext hx)).mono ?_);rintro e w4 ⟨rfl,Af⟩;replace hx:=hx.trans Af;(go_wp2_with fail);(with_reducible refine(fl _ (hw.ext hx)).mono ?_);rintro e w5 ⟨rfl,Ae⟩;replace hx:=hx.trans Ae;(go_wp2_with fail);(with_reducible refine(sm _ (hw.ext hx)).mono ?_);rintro e w6 ⟨rfl,Ao⟩;replace hx:=hx.trans Ao;go_wp2;go_ret2;exact⟨rfl,hx⟩
theorem Aaf(x y k:Rat){i j m:Nat}(hx:Sz i x)(hy:Sz j y)(hk:Sz m k)(hi:0<i)(hj:0<j)(hm:0<m)(hs:2*i+j+m<=3900)(b:Nat)(w:World)(hw:Ai w)(hc:w.cell? ⟨b,0,none⟩=some (S (R k))) :
  Calls Tryz.prog 91 #[S (R x),S (R y),.pointer (some ⟨b,0,none⟩)] w (A0 (R (CL x y k)) w):=by
 have sb:=BS y x (a:=j) (b:=i) ⟨hy,hx,hj,hi,by omega⟩;have ml:=Io k (y-x) (a:=m) (b:=j+i+1) ⟨hk,hy.sub hx,hm,by omega,by omega⟩;have ad:=Ol x (k*(y-x)) (a:=i) (b:=m+(j+i+1)) ⟨hx,hk.mul (hy.sub hx),hi,by omega,by omega⟩;have Gz:=(Aa.refl w).drew;clear hx hy hk;go_enter Tryz.func91,Tryz.ntmps91;(go_wp2_with fail)
 go_region_held3 (fun w'=>w'.cell? ⟨b,0,none⟩=some (S (R k)))
  (first|go_keep|exact(Gz.trans hx1).cellS hc|exact(Gz.trans (hx1.trans hx2)).cellS hc|exact(Gz.trans (hx1.trans (hx2.trans hx3))).cellS hc)
  (first|((with_reducible refine(sb _ (hw.ext Gz)).mono ?_);rintro e w1 ⟨rfl,hx1⟩)|((with_reducible refine(ml _ (hw.ext (Gz.trans hx1))).mono ?_);rintro e w2 ⟨rfl,hx2⟩)|((with_reducible refine(ad _ (hw.ext (Gz.trans (hx1.trans hx2)))).mono ?_);rintro e w3 ⟨rfl,hx3⟩))
 go_wp2;go_ret;exact⟨rfl,Gz.trans (hx1.trans (hx2.trans hx3))⟩
theorem G9(w:World)(o1 o2 o3:Obj):∃W,W=((w.alloc o1).alloc o2).alloc o3/\Aa w W/\W.heap[w.heap.size]?=some o1/\W.heap[w.heap.size+1]?=some o2/\W.heap[w.heap.size+1+1]?=some o3:=by
 have h2:=Ase (w.alloc o1) o2;have h3:=Ase ((w.alloc o1).alloc o2) o3;rw [Asn]at h2;rw [Asn,Asn]at h3;refine⟨_,rfl,(((Aa.refl _).alloc _).alloc _).alloc _,?_,?_,h3⟩
 ·exact(Below.heap_alloc _ _ _ (by simp;omega)).trans ((Below.heap_alloc _ _ _ (by simp)).trans (Ase w o1))
 ·exact(Below.heap_alloc _ _ _ (by simp)).trans h2
theorem set2{w:World}{b:Nat}{a0 a1:Value}(v0 v1:Value)(g1:w.cell? ⟨b,0,none⟩=some a0)(g2:w.cell? ⟨b,1,none⟩=some a1) :
  ((w.setCell ⟨b,0,none⟩ v0).setCell ⟨b,1,none⟩ v1).cell? ⟨b,0,none⟩=some v0/\((w.setCell ⟨b,0,none⟩ v0).setCell ⟨b,1,none⟩ v1).cell? ⟨b,1,none⟩=some v1:=by
 refine⟨(World.cell?_setCell_other _ _ _ _ (by simp)).trans (World.cell?_setCell_same _ _ _ g1),?_⟩;exact World.cell?_setCell_same _ _ _ ((World.cell?_setCell_other _ _ _ _ (by simp)).trans g2)
def Ak(p:Pt):Value:=.agg #[S (R p.x),S (R p.y)]
def Ax(s:Sg):Value:=.agg #[S (R s.a.x),S (R s.a.y),S (R s.b.x),S (R s.b.y)]
def BQ(c:Cv):Value:=.agg #[S (R c.low.x),S (R c.low.y),S (R c.high.x),S (R c.high.y),.int .i64 (c.W:Nat),.int .i64 (c.H:Nat)]
structure Aq(k:Nat)(p:Pt):Prop where
 x:Sz k p.x
 y:Sz k p.y
structure DK(k:Nat)(s:Sg):Prop where
 a:Aq k s.a
 b:Aq k s.b
theorem aG{i j m:Nat}{x y k:Rat}(hx:Sz i x)(hy:Sz j y)(hk:Sz m k):Sz (2*i+j+m+2) (CL x y k):=
 (hx.add (hk.mul (hy.sub hx))).mono (by omega)
theorem VE{i m:Nat}{s:Sg}{k:Rat}(hs:DK i s)(hk:Sz m k):Aq (3*i+m+2) (atR s k):=
 ⟨(aG hs.a.x hs.b.x hk).mono (by omega),(aG hs.a.y hs.b.y hk).mono (by omega)⟩
theorem Qm(s:Sg)(k:Rat){i m:Nat}(hs:DK i s)(hk:Sz m k)(hi:0<i)(hm:0<m)(jP:3*i+m<=3900)(w:World)(hw:Ai w) :
  Calls Tryz.prog 33 #[Ax s,S (R k)] w (Bg (Ak (atR s k)) w):=by
 have Kc:∀(fn:Fn) (first cap:Array Value) (w:World),(Instr.makeFunc fn first cap).run Tryz.prog w=.ok (.func fn first cap) w:=fun _ _ _ _=>rfl;have p1:=Aaf s.a.x s.b.x k hs.a.x hs.b.x hk hi hi hm (by omega);have p2:=Aaf s.a.y s.b.y k hs.a.y hs.b.y hk hi hi hm (by omega);unfold Ax Ak;clear hs hk;go_enter Tryz.func33,Tryz.ntmps33;(go_wp2_with fail);clear Kc;obtain⟨W,hW,hE,hb1,hb2,hb3⟩:=G9 w (.cells #[S (R s.a.x),S (R s.a.y),S (R s.b.x),S (R s.b.y)] 74) (.cells #[S (R k)] 33) (.cells #[S [],S []] 35);rw [show (⟨#[]⟩:ByteArray)=⟨([]:Bs).toArray⟩from rfl,←hW];have k1:W.cell? ⟨w.heap.size,0,none⟩=some (S (R s.a.x)):=Ab hb1 rfl;have k2:W.cell? ⟨w.heap.size,1,none⟩=some (S (R s.a.y)):=Ab hb1 rfl;have k3:W.cell? ⟨w.heap.size,2,none⟩=some (S (R s.b.x)):=Ab hb1 rfl;have k4:W.cell? ⟨w.heap.size,3,none⟩=some (S (R s.b.y)):=Ab hb1 rfl;have k5:W.cell? ⟨w.heap.size+1,0,none⟩=some (S (R k)):=Ab hb2 rfl;have vg:W.drew.cell? ⟨w.heap.size+1,0,none⟩=some (S (R k)):=k5;have hbl:w.heap.size+1+1<W.drew.heap.size:=Asd hb3;have AhK:W.drew.heap[w.heap.size+1+1]?=_:=hb3;have Bd:=(Aa.refl W).drew;have Cm:=hE.drew;clear hW hb1 hb2
 go_region_held3 (fun w'=>w'.cell? ⟨w.heap.size,0,none⟩=some (S (R s.a.x))/\w'.cell? ⟨w.heap.size,1,none⟩=some (S (R s.a.y))/\w'.cell? ⟨w.heap.size,2,none⟩=some (S (R s.b.x))/\w'.cell? ⟨w.heap.size,3,none⟩=some (S (R s.b.y)))
  (first|go_keep|(refine⟨?_,?_,?_,?_⟩<;>(rw [World.cell?_setCell_far _ _ _ _ (by show w.heap.size+1+1≠w.heap.size;omega),World.cell?_setCell_far _ _ _ _ (by show w.heap.size+1+1≠w.heap.size;omega)];assumption)))
  (first|(go_simp;(with_reducible refine(p1 (w.heap.size+1) _ (hw.ext Cm) vg).mono ?_);rintro e w1 ⟨rfl,hx1⟩;dsimp only;have r1:=(Bd.trans hx1).cellS k1;have r2:=(Bd.trans hx1).cellS k2;have r3:=(Bd.trans hx1).cellS k3;have r4:=(Bd.trans hx1).cellS k4)|(go_simp;(with_reducible refine(p2 (w.heap.size+1) _ (hw.ext (Cm.trans hx1)) (hx1.cellS vg)).mono ?_);rintro e w2 ⟨rfl,hx2⟩;dsimp only;have q1:=hx2.cellS r1;have q2:=hx2.cellS r2;have q3:=hx2.cellS r3;have q4:=hx2.cellS r4;have hb4:=((hx1.trans hx2).block _ hbl).trans AhK;have g1:w2.cell? ⟨w.heap.size+1+1,0,none⟩=some (S []):=Ab hb4 rfl;have g2:w2.cell? ⟨w.heap.size+1+1,1,none⟩=some (S []):=Ab hb4 rfl;have g3:w2.frozen? ⟨w.heap.size+1+1,0,none⟩=false:=An hb4;have g4:w2.frozen? ⟨w.heap.size+1+1,1,none⟩=false:=An hb4))
 obtain⟨e1,e2⟩:=set2 (S (R (CL s.a.x s.b.x k))) (S (R (CL s.a.y s.b.y k))) g1 g2;go_wp2;refine bodyPost_ret (v:=.agg #[S (R (CL s.a.x s.b.x k)),S (R (CL s.a.y s.b.y k))]) (by simp [results,Tryz.results33,go_sem,e1,e2]) rfl ?_;exact⟨rfl,((Cm.trans (hx1.trans hx2)).setCell (by show w.heap.size<=w.heap.size+1+1;omega) _).setCell (by show w.heap.size<=w.heap.size+1+1;omega) _⟩
structure D3(W:World)(b:Nat)(c:Cv):Prop where
 k1:W.cell? ⟨b,0,none⟩=some (S (R c.low.x))
 k2:W.cell? ⟨b,1,none⟩=some (S (R c.low.y))
 k3:W.cell? ⟨b,2,none⟩=some (S (R c.high.x))
 k4:W.cell? ⟨b,3,none⟩=some (S (R c.high.y))
 k5:W.cell? ⟨b,4,none⟩=some (.int .i64 (c.W:Nat))
 k6:W.cell? ⟨b,5,none⟩=some (.int .i64 (c.H:Nat))
theorem D3.ext{W V:World}{b:Nat}{c:Cv}(h:D3 W b c)(hx:Aa W V):D3 V b c:=
 ⟨hx.cellS h.k1,hx.cellS h.k2,hx.cellS h.k3,hx.cellS h.k4,hx.cellS h.k5,hx.cellS h.k6⟩
theorem D3.of{W:World}{b:Nat}{c:Cv}{t:TypeId}(h:W.heap[b]?=some (.cells #[S (R c.low.x),S (R c.low.y),S (R c.high.x),S (R c.high.y),.int .i64 (c.W:Nat),.int .i64 (c.H:Nat)] t)):D3 W b c:=
 ⟨Ab h rfl,Ab h rfl,Ab h rfl,Ab h rfl,Ab h rfl,Ab h rfl⟩
structure Ga(W:World)(b:Nat)(p:Pt):Prop where
 k1:W.cell? ⟨b,0,none⟩=some (S (R p.x))
 k2:W.cell? ⟨b,1,none⟩=some (S (R p.y))
theorem Ga.ext{W V:World}{b:Nat}{p:Pt}(h:Ga W b p)(hx:Aa W V):Ga V b p:=⟨hx.cellS h.k1,hx.cellS h.k2⟩
structure It(c:Cv):Prop where
 ok:c.Ok
 low:Aq 3 c.low
 high:Aq 3 c.high
def I2(a b:Int):Value:=.agg #[.int .i64 a,.int .i64 b]
theorem R7(c:Cv)(p:Pt)(hc:It c){a:Nat}(hp:Aq a p)(ha:0<a)(ha2:a<=3800)(c1:-1000000<=Br c p)(c2:Br c p<=1000000)(r1:-1000000<=Bt c p)(r2:Bt c p<=1000000)(w:World)(hw:Ai w) :
  Calls Tryz.prog 48 #[BQ c,Ak p] w (Bg (.tuple #[I2 (Br c p) (Bt c p),.int .i64 0]) w):=by
 have hl:=hc.low;have hh:=hc.high;have VC:=BS p.x c.low.x (a:=a) (b:=3) ⟨hp.x,hl.x,ha,by omega,by omega⟩;have VD:=BS c.high.x c.low.x (a:=3) (b:=3) ⟨hh.x,hl.x,by omega,by omega,by omega⟩;have aC:=BS c.high.y p.y (a:=3) (b:=a) ⟨hh.y,hp.y,by omega,ha,by omega⟩;have aD:=BS c.high.y c.low.y (a:=3) (b:=3) ⟨hh.y,hl.y,by omega,by omega,by omega⟩;have n1:=x9 (p.x-c.low.x) (c.high.x-c.low.x) c.W (by have:=hc.ok.x;grind) (hp.x.sub hl.x) (hh.x.sub hl.x) (by omega) (by omega) (by omega) hc.ok.w2 c1 c2;have n2:=x9 (c.high.y-p.y) (c.high.y-c.low.y) c.H (by have:=hc.ok.y;grind) (hh.y.sub hp.y) (hh.y.sub hl.y) (by omega) (by omega) (by omega) hc.ok.h2 r1 r2;have e1:Fa (p.x-c.low.x) (c.high.x-c.low.x) c.W=Br c p:=rfl;have e2:Fa (c.high.y-p.y) (c.high.y-c.low.y) c.H=Bt c p:=rfl;rw [e1]at n1;rw [e2]at n2;obtain⟨col,N4⟩:=AcG (Br c p);obtain⟨row,hrow⟩:=AcG (Bt c p);rw [←N4]at n1 ⊢;rw [←hrow]at n2 ⊢;unfold BQ Ak I2;clear hl hh hc hp ha ha2 c1 c2 r1 r2 e1 e2 N4 hrow;go_enter Tryz.func48,Tryz.ntmps48;(go_wp2_with fail);obtain⟨W,hW,hE,hb1,hb2,hb3⟩:=G9 w (.cells #[S (R c.low.x),S (R c.low.y),S (R c.high.x),S (R c.high.y),.int .i64 (c.W:Nat),.int .i64 (c.H:Nat)] 37) (.cells #[S (R p.x),S (R p.y)] 35) (.cells #[.int .i64 0,.int .i64 0] 61);rw [←hW];have hC:=D3.of hb1;have hP:Ga W (w.heap.size+1) p:=⟨Ab hb2 rfl,Ab hb2 rfl⟩;obtain⟨j1,j2,j3,j4,j5,j6⟩:=hC;obtain⟨j7,j8⟩:=hP;have hC:=D3.of hb1;have hP:Ga W (w.heap.size+1) p:=⟨Ab hb2 rfl,Ab hb2 rfl⟩;have hbl:=Asd hb3;have Bd:=(Aa.refl W).drew;have Cm:=hE.drew;clear hW hb1 hb2
 go_region_held3 (fun w'=>w'.cell? ⟨w.heap.size,0,none⟩=some (S (R c.low.x))/\w'.cell? ⟨w.heap.size,2,none⟩=some (S (R c.high.x))/\w'.cell? ⟨w.heap.size,4,none⟩=some (.int .i64 (c.W:Nat))/\w'.cell? ⟨w.heap.size+1,0,none⟩=some (S (R p.x)))
  (go_keep)
  (first|((with_reducible refine(VC _ (hw.ext Cm)).mono ?_);rintro e w1 ⟨rfl,hx1⟩;obtain⟨q1,q2,q3,q4,q5,q6⟩:=hC.ext (Bd.trans hx1);obtain⟨q7,q8⟩:=hP.ext (Bd.trans hx1))|((with_reducible refine(VD _ (hw.ext (Cm.trans hx1))).mono ?_);rintro e w2 ⟨rfl,hx2⟩;obtain⟨s1,s2,s3,s4,s5,s6⟩:=hC.ext (Bd.trans (hx1.trans hx2));obtain⟨s7,s8⟩:=hP.ext (Bd.trans (hx1.trans hx2)))|((with_reducible refine(n1 _ (hw.ext (Cm.trans (hx1.trans hx2)))).mono ?_);rintro e w3 ⟨rfl,hx3⟩;obtain⟨t1,t2,t3,t4,t5,t6⟩:=hC.ext (Bd.trans (hx1.trans (hx2.trans hx3)));obtain⟨t7,t8⟩:=hP.ext (Bd.trans (hx1.trans (hx2.trans hx3)))))
 have hV:=Bd.trans (hx1.trans (hx2.trans hx3));have C9:=hE.trans hV;replace hC:=hC.ext hV;replace hP:=hP.ext hV;have hb3:=(hV.block _ hbl).trans hb3;have hbl:=Asd hb3;clear hV Bd Cm hx1 hx2 hx3 hE j1 j2 j3 j4 j5 j6 j7 j8 q1 q2 q3 q4 q5 q6 q7 q8 s1 s2 s3 s4 s5 s6 s7 s8 VC VD n1;have Bd:=(Aa.refl w3).drew;have Cm:=C9.drew;(go_wp2_with fail)
 go_region_held3 (fun w'=>w'.cell? ⟨w.heap.size,1,none⟩=some (S (R c.low.y))/\w'.cell? ⟨w.heap.size,3,none⟩=some (S (R c.high.y))/\w'.cell? ⟨w.heap.size,5,none⟩=some (.int .i64 (c.H:Nat))/\w'.cell? ⟨w.heap.size+1,1,none⟩=some (S (R p.y)))
  (go_keep)
  (first|((with_reducible refine(aC _ (hw.ext Cm)).mono ?_);rintro e w4 ⟨rfl,hx1⟩;obtain⟨q1,q2,q3,q4,q5,q6⟩:=hC.ext (Bd.trans hx1);obtain⟨q7,q8⟩:=hP.ext (Bd.trans hx1))|((with_reducible refine(aD _ (hw.ext (Cm.trans hx1))).mono ?_);rintro e w5 ⟨rfl,hx2⟩;obtain⟨s1,s2,s3,s4,s5,s6⟩:=hC.ext (Bd.trans (hx1.trans hx2));obtain⟨s7,s8⟩:=hP.ext (Bd.trans (hx1.trans hx2)))|((with_reducible refine(n2 _ (hw.ext (Cm.trans (hx1.trans hx2)))).mono ?_);rintro e w6 ⟨rfl,hx3⟩;obtain⟨v1,v2,v3,v4,v5,v6⟩:=hC.ext (Bd.trans (hx1.trans (hx2.trans hx3)));obtain⟨v7,v8⟩:=hP.ext (Bd.trans (hx1.trans (hx2.trans hx3)))))
 have hV:=Bd.trans (hx1.trans (hx2.trans hx3));have Fj:=C9.trans hV;have Jl:=(hV.block _ hbl).trans hb3;have g1:w6.cell? ⟨w.heap.size+1+1,0,none⟩=some (.int .i64 0):=Ab Jl rfl;have g2:w6.cell? ⟨w.heap.size+1+1,1,none⟩=some (.int .i64 0):=Ab Jl rfl;have g3:w6.frozen? ⟨w.heap.size+1+1,0,none⟩=false:=An Jl;have g4:w6.frozen? ⟨w.heap.size+1+1,1,none⟩=false:=An Jl;obtain⟨e1,e2⟩:=set2 (.int .i64 col) (.int .i64 row) g1 g2;go_wp2;refine bodyPost_ret (v:=.tuple #[.agg #[.int .i64 col,.int .i64 row],.int .i64 0]) (by simp [results,Tryz.results48,go_sem,e1,e2]) rfl ?_;exact⟨rfl,(Fj.setCell (by show w.heap.size<=w.heap.size+1+1;omega) _).setCell (by show w.heap.size<=w.heap.size+1+1;omega) _⟩
structure Oo(W:World)(bl:Nat)(l h:Rat):Prop where
 l:W.heap[bl]?=some (.cells #[S (R l)] 33)
 h:W.heap[bl+1]?=some (.cells #[S (R h)] 33)
theorem Oo.ext{W V:World}{bl:Nat}{l h:Rat}(hb:Oo W bl l h)(hx:Aa W V):Oo V bl l h:=
 ⟨(hx.block _ (Asd hb.l)).trans hb.l,(hx.block _ (Asd hb.h)).trans hb.h⟩
def AdM(m bl:Nat)(fr way l h:Rat)(w:World)(e:Ending)(w':World):Prop:=
 ∃b l' h',e=.returned (.bool b)/\Below bl w w'/\Oo w' bl l' h'/\AZ fr way (some (l,h))=(if b=true then some (l',h')else none)/\(b=false→l'=l/\h'=h)/\Sz m l'/\Sz m h'
theorem Aby{m:Nat}{x y:Rat}(hx:Sz m x)(hy:Sz m y):Sz m (BD x y):=by unfold BD;split<;>assumption
theorem Abz{m:Nat}{x y:Rat}(hx:Sz m x)(hy:Sz m y):Sz m (BE x y):=by unfold BE;split<;>assumption
theorem one_set{W:World}{b:Nat}{v u:Value}{t:TypeId}(h:W.heap[b]?=some (.cells #[v] t)):(W.setCell ⟨b,0,none⟩ u).heap[b]?=some (.cells #[u] t):=by
 simp only [World.setCell,Array.getElem?_modify,h];simp
theorem WL(fr way l h:Rat){a b m:Nat}(hf:Sz a fr)(hw2:Sz b way)(hl:Sz m l)(hh:Sz m h)(ha:0<a)(hb:0<b)(hab:a+b<=m)(hm:m<=1900)(bl:Nat)(w:World)(hw:Ai w)(C6:Oo w bl l h) :
  Calls Tryz.prog 207 #[S (R fr),S (R way),.pointer (some ⟨bl,0,none⟩),.pointer (some ⟨bl+1,0,none⟩)] w (AdM m bl fr way l h w):=by
 have s1:=Lo fr;have s2:=Lo way;have hbl:=Asd C6.l;by_cases h0:way=0
 ·subst h0;rw [G7];by_cases hp:fr<0
  ·rw [AaV hp]at s1;have HB:Hid (AZ fr 0 (some (l,h))=none):=Asb (by rw [O8,if_pos rfl,if_neg (by grind)]);clear s2 hf hw2 hp;go_enter Tryz.func207,Tryz.ntmps207;(go_wp2_with fail);(with_reducible refine(s1 _).mono ?_);rintro e w1 ⟨rfl,hx⟩;go_wp2;go_ret;exact⟨false,l,h,rfl,hx.mono (Nat.le_of_lt hbl),C6.ext hx,by rw [HB.out];rfl,fun _=>⟨rfl,rfl⟩,hl,hh⟩
  ·obtain⟨s,hs,hs0⟩:∃s:Int,s=AN fr/\0<=s:=⟨_,rfl,by unfold AN;rw [if_neg hp];split<;>omega⟩;rw [←hs]at s1;have HB:Hid (AZ fr 0 (some (l,h))=some (l,h)):=Asb (by rw [O8,if_pos rfl,if_pos (by grind)]);clear s2 hf hw2 hp hs;go_enter Tryz.func207,Tryz.ntmps207;(go_wp2_with fail);(with_reducible refine(s1 _).mono ?_);rintro e w1 ⟨rfl,hx⟩;go_wp2;go_ret;exact⟨true,l,h,rfl,hx.mono (Nat.le_of_lt hbl),C6.ext hx,by rw [HB.out];rfl,fun _=>⟨rfl,rfl⟩,hl,hh⟩
 ·have n1:=D4 h0;have ng:=Vt fr ha (by omega) hf;have dv:=PI (-fr) way h0 (a:=a) (b:=b) ⟨hf.neg,hw2,ha,hb,by omega⟩;have hk:Sz m (-fr/way):=(Sz.div hb hf.neg hw2).mono hab;unfold GQ at dv;by_cases hp:0<way
  ·rw [ZT hp]at s2;have mx:=Aav l (-fr/way) (a:=m) (b:=m) ⟨hl,hk,by omega,by omega,by omega⟩;have HB:Hid (AZ fr way (some (l,h))=some (BD l (-fr/way),h)):=Asb (by rw [O8,if_neg h0,if_pos hp]);have HK:=hk;clear s1 hf hw2 hp hk h0;go_enter Tryz.func207,Tryz.ntmps207;(go_wp2_with fail);(with_reducible refine(ng _).mono ?_);rintro e w1 ⟨rfl,hx⟩;(go_wp2_with fail);(with_reducible refine(dv _ (hw.ext hx)).mono ?_);rintro e w2 ⟨rfl,hx2⟩;replace hx:=hx.trans hx2;(go_wp2_with fail);(with_reducible refine(s2 _).mono ?_);rintro e w3 ⟨rfl,hx3⟩;replace hx:=hx.trans hx3;obtain⟨LI,bd2⟩:=C6.ext hx;have g1:=Ab (o:=0) LI rfl;(go_wp2_with fail);(with_reducible refine(mx _ (hw.ext hx)).mono ?_);rintro e w4 ⟨rfl,Af⟩;replace hx:=hx.trans Af;obtain⟨SG,SH⟩:=C6.ext hx;have g3:=Ab (o:=0) SG rfl;have g4:=An (o:=0) SG;go_wp2;go_ret;exact⟨true,BD l (-fr/way),h,rfl,Below.setCell (hx.mono (Nat.le_of_lt hbl)) (Asf _) _,⟨one_set SG,by rw [Below.heap_setCell _ _ _ _ (by show bl+1≠bl;omega)];exact SH⟩,by rw [HB.out];rfl,(fun h=>by cases h),Aby hl HK,hh⟩
  ·obtain⟨s,hs,hs0⟩:∃s:Int,s=AN way/\¬0<s:=⟨_,rfl,by unfold AN;rw [if_neg h0,if_pos (by grind)];omega⟩;rw [←hs]at s2;have mx:=Aaw h (-fr/way) (a:=m) (b:=m) ⟨hh,hk,by omega,by omega,by omega⟩;have HB:Hid (AZ fr way (some (l,h))=some (l,BE h (-fr/way))):=Asb (by rw [O8,if_neg h0,if_neg hp]);have HK:=hk;clear s1 hf hw2 hp hk h0 hs;go_enter Tryz.func207,Tryz.ntmps207;(go_wp2_with fail);(with_reducible refine(ng _).mono ?_);rintro e w1 ⟨rfl,hx⟩;(go_wp2_with fail);(with_reducible refine(dv _ (hw.ext hx)).mono ?_);rintro e w2 ⟨rfl,hx2⟩;replace hx:=hx.trans hx2;(go_wp2_with fail);(with_reducible refine(s2 _).mono ?_);rintro e w3 ⟨rfl,hx3⟩;replace hx:=hx.trans hx3;obtain⟨LI,bd2⟩:=C6.ext hx;have g1:=Ab (o:=0) bd2 rfl;(go_wp2_with fail);(with_reducible refine(mx _ (hw.ext hx)).mono ?_);rintro e w4 ⟨rfl,Af⟩;replace hx:=hx.trans Af;obtain⟨SG,SH⟩:=C6.ext hx;have g3:=Ab (o:=0) SH rfl;have g4:=An (o:=0) SH;go_wp2;go_ret;exact⟨true,l,BE h (-fr/way),rfl,Below.setCell (hx.mono (Nat.le_of_lt hbl)) (by show bl<=bl+1;omega) _,⟨by rw [Below.heap_setCell _ _ _ _ (by show bl≠bl+1;omega)];exact SG,one_set SH⟩,by rw [HB.out];rfl,(fun h=>by cases h),hl,Abz hh HK⟩
end Go.Proofs.YtdaefncphfeaeaaGreatDoor
