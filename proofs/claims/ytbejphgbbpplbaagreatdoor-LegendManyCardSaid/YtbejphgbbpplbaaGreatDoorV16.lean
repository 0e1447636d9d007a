/- V16: IntA IntD IntG Int9 IntC R1 R2. -/
import Derived.Test.YtbejphgbbpplbaaGreatDoorV14
set_option maxRecDepth 100000
set_option maxHeartbeats 4000000
namespace Go.Proofs.YtbejphgbbpplbaaGreatDoor
open Go.RowKit Kl
def yj(s:Bool)(n:Nat)(w:World)(e:Ending)(w':World):Prop:=∃A c,e=.returned (.agg #[.bool s,.slice A (pc 1000000000 n).length c])/\BG w' A c (pc 1000000000 n)/\Aa w w'
theorem JQ(z:Int)(hz:AB z)(s:Bool)(hs:s=decide (z<0))(w:World):Calls Tryz.prog 225 #[S (I z)] w (yj s z.natAbs w):=by
 subst hs;refine(fS z hz w).mono ?_;rintro e w' ⟨v,rfl,⟨A,c,rfl,h⟩,hx⟩;exact⟨A,c,rfl,h,hx⟩
theorem BG.rd{w:World}{A:Option Addr}{c:Nat}{l:List Nat}(h:BG w A c l):Rd w (.slice A l.length c) l:=⟨A,c,rfl,h⟩
theorem Ll{a b:Nat}(h:a<=b):(pc 1000000000 a).length<=(pc 1000000000 b).length:=Tk h
structure On(W:World)(b:Nat)(sx sy:Bool)(v u:Value):Prop where
 k1:W.cell? ⟨b,0,none⟩=some (.bool sx)
 k2:W.cell? ⟨b,1,none⟩=some v
 k3:W.cell? ⟨b+1,0,none⟩=some (.bool sy)
 k4:W.cell? ⟨b+1,1,none⟩=some u
theorem On.ext{W W':World}{b:Nat}{sx sy:Bool}{v u:Value}(h:On W b sx sy v u)(hx:Aa W W'):On W' b sx sy v u:=
 ⟨hx.cellS h.k1,hx.cellS h.k2,hx.cellS h.k3,hx.cellS h.k4⟩
theorem AU{W:World}{b o:Nat}{cs:Array Value}{t:TypeId}(h:W.heap[b]?=some (.cells cs t)):W.frozen? ⟨b,o,none⟩=false:=by unfold World.frozen?;simp [h]
structure Kept(w5 V:World)(b:Nat):Prop where
 ext:∀w0,Aa w0 w5→w0.heap.size<=b→Aa w0 V
 rd:∀A c l,BG w5 A c l→BG V A c l
theorem Kept.refl(w:World)(b:Nat):Kept w w b:=⟨fun _ h _=>h,fun _ _ _ h=>h⟩
theorem Kept.set{w5 V:World}{b k o:Nat}(h:Kept w5 V b)(hk:b<=k){v u:Value}(hv:V.cell? ⟨k,o,none⟩=some v)(hn:∀n,v≠.int .u64 n):Kept w5 (V.setCell ⟨k,o,none⟩ u) b:=
 ⟨fun w0 h0 hb=>(h.ext w0 h0 hb).setCell (by show w0.heap.size<=k;omega) _,fun A c l hr=>(h.rd A c l hr).setCell hv hn⟩
theorem AjS{w:World}{b:Nat}{sx sy:Bool}{A3 A4:Option Addr}{n3 n4 c3 c4:Nat}(h:On w b sx sy (.slice A3 n3 c3) (.slice A4 n4 c4)) :
  ∃V,V=(((w.setCell ⟨b,0,none⟩ (.bool sy)).setCell ⟨b,1,none⟩ (.slice A4 n4 c4)).setCell ⟨b+1,0,none⟩ (.bool sx)).setCell ⟨b+1,1,none⟩ (.slice A3 n3 c3)/\
   On V b sy sx (.slice A4 n4 c4) (.slice A3 n3 c3)/\Kept w V b:=by
 obtain⟨k1,k2,k3,k4⟩:=h;have e1:=World.cell?_setCell_same w _ (.bool sy) k1;have e2:(w.setCell ⟨b,0,none⟩ (.bool sy)).cell? ⟨b,1,none⟩=_:=(World.cell?_setCell_other _ _ _ _ (by simp)).trans k2;have e3:(w.setCell ⟨b,0,none⟩ (.bool sy)).cell? ⟨b+1,0,none⟩=_:=(World.cell?_setCell_other _ _ _ _ (by simp)).trans k3;have e4:(w.setCell ⟨b,0,none⟩ (.bool sy)).cell? ⟨b+1,1,none⟩=_:=(World.cell?_setCell_other _ _ _ _ (by simp)).trans k4;have z1:=(Kept.refl w b).set (AmX b) (u:=.bool sy) k1 (by simp);have z2:=z1.set (AmX b) (u:=.slice A4 n4 c4) e2 (by simp);have f1:=(World.cell?_setCell_other (w.setCell ⟨b,0,none⟩ (.bool sy)) ⟨b,1,none⟩ ⟨b,0,none⟩ (.slice A4 n4 c4) (by simp)).trans e1;have f2:=World.cell?_setCell_same (w.setCell ⟨b,0,none⟩ (.bool sy)) _ (.slice A4 n4 c4) e2;have f3:=(World.cell?_setCell_other (w.setCell ⟨b,0,none⟩ (.bool sy)) ⟨b,1,none⟩ ⟨b+1,0,none⟩ (.slice A4 n4 c4) (by simp)).trans e3;have f4:=(World.cell?_setCell_other (w.setCell ⟨b,0,none⟩ (.bool sy)) ⟨b,1,none⟩ ⟨b+1,1,none⟩ (.slice A4 n4 c4) (by simp)).trans e4;generalize (w.setCell ⟨b,0,none⟩ (.bool sy)).setCell ⟨b,1,none⟩ (.slice A4 n4 c4)=W at *;have z3:=z2.set (show b<=b+1 by omega) (u:=.bool sx) f3 (by simp);have g1:=(World.cell?_setCell_other W ⟨b+1,0,none⟩ ⟨b,0,none⟩ (.bool sx) (by simp)).trans f1;have g2:=(World.cell?_setCell_other W ⟨b+1,0,none⟩ ⟨b,1,none⟩ (.bool sx) (by simp)).trans f2;have g3:=World.cell?_setCell_same W _ (.bool sx) f3;have g4:=(World.cell?_setCell_other W ⟨b+1,0,none⟩ ⟨b+1,1,none⟩ (.bool sx) (by simp)).trans f4;generalize W.setCell ⟨b+1,0,none⟩ (.bool sx)=X at *;exact⟨_,rfl,⟨(World.cell?_setCell_other X _ _ _ (by simp)).trans g1,(World.cell?_setCell_other X _ _ _ (by simp)).trans g2,(World.cell?_setCell_other X _ _ _ (by simp)).trans g3,World.cell?_setCell_same X _ _ g4⟩,z3.set (by omega) g4 (by simp)⟩
theorem yr{x y:Int}(h:decide (x<0)=decide (y<0)):(if decide (x<0)=true then -((x.natAbs+y.natAbs:Nat):Int)else ((x.natAbs+y.natAbs:Nat):Int))=x+y:=by
 by_cases hx:x<0<;>by_cases hy:y<0<;>simp [hx,hy]at h ⊢<;>omega
theorem lZ{x y:Int}(h:decide (x<0)≠decide (y<0))(hl:y.natAbs<=x.natAbs):(if decide (x<0)=true then -((x.natAbs-y.natAbs:Nat):Int)else ((x.natAbs-y.natAbs:Nat):Int))=x+y:=by
 by_cases hx:x<0<;>by_cases hy:y<0<;>simp [hx,hy]at h ⊢<;>omega
theorem Afq(x y:Int)(hx:(I x).length<=18)(hy:(I y).length<=18)(w:World)(hw:An w) :
  Calls Tryz.prog 329 #[S (I x),S (I y)] w (Bc (I (x+y)) w):=by
 have q1:=MM x;have q2:=MM y;rw [Lp hx]at q1;rw [Lp hy]at q2;have b1:=MQ hx;have b2:=MQ hy;have e18:(10:Nat)^18=1000000000000000000:=(by decide);rw [e18]at b1 b2;have hwr:IntKind.i64.wrap (x+y)=x+y:=Ane _ (by omega);have ho:=fun W hW=>dX (x+y) (by omega) (by omega) W hW;clear hx hy b1 b2 e18;go_enter Tryz.func329,Tryz.ntmps329;(go_wp2_with fail);(with_reducible refine(q1 _).mono ?_);rintro e w1 ⟨rfl,hx1⟩;(go_wp2_with fail);(with_reducible refine(q2 _).mono ?_);rintro e w2 ⟨rfl,hx2⟩;have Ca:=hx1.trans hx2;(go_wp2_with fail);(with_reducible refine(ho _ (hw.ext Ca)).mono ?_);rintro e w3 ⟨rfl,hx3⟩;go_wp2;go_ret;exact⟨rfl,Ca.trans hx3⟩
theorem Afp(x y:Int)(hx:AB x)(hy:AB y)(hn:¬((I x).length<=18/\(I y).length<=18))(w:World)(hw:An w) :
  Calls Tryz.prog 329 #[S (I x),S (I y)] w (Bc (I (x+y)) w):=by
 have q1:=MM x;have q2:=MM y;have lx:=hx.pc;have ly:=hy.pc;obtain⟨sx,Ew⟩:=AmT (decide (x<0));obtain⟨sy,Ee⟩:=AmT (decide (y<0));have o1:=JQ x hx sx Ew;have o2:=JQ y hy sy Ee;have m1:=@yr x y;have m2:=@lZ x y;have m3:=@lZ y x;rw [←Ew,←Ee]at m1 m2 m3;rw [Int.add_comm y x]at m3;clear hx hy Ew Ee;by_cases h1:(I x).length<=18
 case' pos=>rw [Lp h1]at q1;rw [Qe fun h=>hn ⟨h1,h⟩]at q2;clear h1 hn;have M1:=AmU m1;have M2:=AmU m2;have M3:=AmU m3;clear m1 m2 m3;go_enter Tryz.func329,Tryz.ntmps329;(go_wp2_with fail);(with_reducible refine(q1 _).mono ?_);rintro e w1 ⟨rfl,hx1⟩;(go_wp2_with fail);(with_reducible refine(q2 _).mono ?_);rintro e w2 ⟨rfl,hx2⟩;have hx:=hx1.trans hx2;clear hx1 hx2;(go_wp2_with fail)
 case' neg=>rw [Qe h1]at q1;clear h1 hn;have M1:=AmU m1;have M2:=AmU m2;have M3:=AmU m3;clear m1 m2 m3;go_enter Tryz.func329,Tryz.ntmps329;(go_wp2_with fail);(with_reducible refine(q1 _).mono ?_);rintro e w2 ⟨rfl,hx⟩;(go_wp2_with fail)
 all_goals
  clear q1 q2;(with_reducible refine(o1 _).mono ?_);rintro e w3 ⟨A3,c3,rfl,hv3,hx3⟩;(go_wp2_with fail);(with_reducible refine(o2 _).mono ?_);rintro e w4 ⟨A4,c4,rfl,hv4,Ai⟩;have hx:=(hx.trans hx3).trans Ai;have hv3:=hv3.ext Ai;clear o1 o2 hx3 Ai
  go_upto_region 7 with fail
  obtain⟨W,hW,hE,hb1,hb2⟩:=LM w4 (.bool sx) (.slice A3 (pc 1000000000 x.natAbs).length c3) (.bool sy) (.slice A4 (pc 1000000000 y.natAbs).length c4) 280 280;rw [←hW];have hv3:=hv3.ext hE;have hv4:=hv4.ext hE;have Bg:=hx.trans hE;have k1:W.cell? ⟨w4.heap.size,0,none⟩=some (.bool sx):=Ab hb1 rfl;have k2:W.cell? ⟨w4.heap.size,1,none⟩=some (.slice A3 (pc 1000000000 x.natAbs).length c3):=Ab hb1 rfl;have k3:W.cell? ⟨w4.heap.size+1,0,none⟩=some (.bool sy):=Ab hb2 rfl;have k4:W.cell? ⟨w4.heap.size+1,1,none⟩=some (.slice A4 (pc 1000000000 y.natAbs).length c4):=Ab hb2 rfl;have Ig:w.heap.size<=w4.heap.size:=hx.size;clear hW hE hx;by_cases hs:sx=sy
  ·subst hs;have hm:=M1.out rfl;have HM:=AmU hm;clear hm M1 M2 M3;(go_wp2_with fail);have ht:=gK (pc 1000000000 x.natAbs) (pc 1000000000 y.natAbs) _ _ W.drew (hv3.ext (Aa.refl W).drew).rd (hv4.ext (Aa.refl W).drew).rd (by omega) (by omega) (Bd b9 _) (Bd b9 _);rw [AS b9,AS b9]at ht;have hc:=fun W2 v2 (h:Aa W.drew W2) (h2:Rd W2 v2 _)=>EO sx (x.natAbs+y.natAbs) v2 W2 (hw.ext (Bg.drew.trans h)) h2;rw [LQ,HM.out]at hc
   go_region_held3 (fun w'=>w'.cell? ⟨w4.heap.size,0,none⟩=some (.bool sx)/\w'.cell? ⟨w4.heap.size,1,none⟩=some (.slice A3 (pc 1000000000 x.natAbs).length c3)/\w'.cell? ⟨w4.heap.size+1,0,none⟩=some (.bool sx)/\w'.cell? ⟨w4.heap.size+1,1,none⟩=some (.slice A4 (pc 1000000000 y.natAbs).length c4))
    (first|go_keep|exact⟨Ad.cellS k1,Ad.cellS k2,Ad.cellS k3,Ad.cellS k4⟩|exact⟨(Ad.trans AC).cellS k1,(Ad.trans AC).cellS k2,(Ad.trans AC).cellS k3,(Ad.trans AC).cellS k4⟩)
    (first|((with_reducible refine ht.mono ?_);rintro e w5 ⟨v5,rfl,⟨A5,c5,rfl,hv5⟩,Ad⟩)|((with_reducible refine(hc _ _ Ad hv5.rd).mono ?_);rintro e w6 ⟨rfl,AC⟩))
   go_wp2;go_ret;exact⟨rfl,(Bg.drew.trans Ad).trans AC⟩
  ·have C9:(sx == sy)=false:=(by rw [beq_eq_false_iff_ne];exact hs);have XR:=AmU (M2.out hs);have XS:=AmU (M3.out (Ne.symm hs));clear hs M1 M2 M3;have ho:=PT (pc 1000000000 x.natAbs) (pc 1000000000 y.natAbs) _ _ W hv3.rd hv4.rd (Bd b9 _) (Bd b9 _) (Ge b9 _) (Ge b9 _);rw [AS b9,AS b9]at ho;by_cases hl:x.natAbs<y.natAbs
   ·rw [LR hl]at ho;have HM:=AmU (XS.out (Nat.le_of_lt hl));clear XR XS;(go_wp2_with fail);(with_reducible refine ho.mono ?_);rintro e w5 ⟨rfl,Ad⟩;have g1:=Ad.cellS k1;have g2:=Ad.cellS k2;have g3:=Ad.cellS k3;have g4:=Ad.cellS k4;have j1:=fun o=>AU (o:=o) ((Ad.block _ (AmV hb1)).trans hb1);have j2:=fun o=>AU (o:=o) ((Ad.block _ (AmV hb2)).trans hb2);(go_wp2_with fail);obtain⟨V,hV,hB,hK⟩:=AjS (On.mk g1 g2 g3 g4);rw [←hV];have SE:Aa w V:=hK.ext w (Bg.trans Ad) Ig;have hv3:=hK.rd _ _ _ (hv3.ext Ad);have hv4:=hK.rd _ _ _ (hv4.ext Ad);have g1:=hB.k1;have g2:=hB.k2;have g3:=hB.k3;have g4:=hB.k4;clear hV j1 j2 hB hK Ad Bg k1 k2 k3 k4 hb1 hb2 ho;have ht:=SU (pc 1000000000 y.natAbs) (pc 1000000000 x.natAbs) _ _ V.drew (hv4.ext (Aa.refl V).drew).rd (hv3.ext (Aa.refl V).drew).rd (by omega) (Bd b9 _) (Bd b9 _) (Ll (Nat.le_of_lt hl)) (by rw [AS b9,AS b9];exact Nat.le_of_lt hl);rw [AS b9,AS b9]at ht;have hc:=fun W2 v2 (h:Aa V.drew W2) (h2:Rd W2 v2 _)=>EO sy (y.natAbs-x.natAbs) v2 W2 (hw.ext (SE.drew.trans h)) h2;rw [LQ,HM.out]at hc
    go_region_held3 (fun w'=>w'.cell? ⟨w4.heap.size,0,none⟩=some (.bool sy)/\w'.cell? ⟨w4.heap.size,1,none⟩=some (.slice A4 (pc 1000000000 y.natAbs).length c4)/\w'.cell? ⟨w4.heap.size+1,0,none⟩=some (.bool sx)/\w'.cell? ⟨w4.heap.size+1,1,none⟩=some (.slice A3 (pc 1000000000 x.natAbs).length c3))
     (first|go_keep|exact⟨Ad.cellS g1,Ad.cellS g2,Ad.cellS g3,Ad.cellS g4⟩|exact⟨(Ad.trans AC).cellS g1,(Ad.trans AC).cellS g2,(Ad.trans AC).cellS g3,(Ad.trans AC).cellS g4⟩)
     (first|((with_reducible refine ht.mono ?_);rintro e w5 ⟨v5,rfl,⟨A5,c5,rfl,hv5⟩,Ad⟩)|((with_reducible refine(hc _ _ Ad hv5.rd).mono ?_);rintro e w6 ⟨rfl,AC⟩))
    go_wp2;go_ret;exact⟨rfl,(SE.drew.trans Ad).trans AC⟩
   ·have hge:y.natAbs<=x.natAbs:=Nat.le_of_not_lt hl
    obtain⟨s,hs,hs0⟩:∃s:Int,s=D9 x.natAbs y.natAbs/\¬s<0:=by
     rcases Nat.lt_or_eq_of_le hge with h|h
     ·exact⟨_,rfl,by rw [Ks h];omega⟩
     ·exact⟨_,rfl,by rw [OK h.symm];omega⟩
    rw [←hs]at ho;have HM:=AmU (XR.out hge);clear XR XS hs hl;(go_wp2_with fail);(with_reducible refine ho.mono ?_);rintro e w5 ⟨rfl,Ad⟩;have g1:=Ad.cellS k1;have g2:=Ad.cellS k2;have g3:=Ad.cellS k3;have g4:=Ad.cellS k4;(go_wp2_with fail);have SE:=Bg.trans Ad;have hv3:=hv3.ext Ad;have hv4:=hv4.ext Ad;clear Ad Bg k1 k2 k3 k4 hb1 hb2 ho;have ht:=SU (pc 1000000000 x.natAbs) (pc 1000000000 y.natAbs) _ _ w5.drew (hv3.ext (Aa.refl w5).drew).rd (hv4.ext (Aa.refl w5).drew).rd (by omega) (Bd b9 _) (Bd b9 _) (Ll hge) (by rw [AS b9,AS b9];exact hge);rw [AS b9,AS b9]at ht;have hc:=fun W2 v2 (h:Aa w5.drew W2) (h2:Rd W2 v2 _)=>EO sx (x.natAbs-y.natAbs) v2 W2 (hw.ext (SE.drew.trans h)) h2;rw [LQ,HM.out]at hc
    go_region_held3 (fun w'=>w'.cell? ⟨w4.heap.size,0,none⟩=some (.bool sx)/\w'.cell? ⟨w4.heap.size,1,none⟩=some (.slice A3 (pc 1000000000 x.natAbs).length c3)/\w'.cell? ⟨w4.heap.size+1,0,none⟩=some (.bool sy)/\w'.cell? ⟨w4.heap.size+1,1,none⟩=some (.slice A4 (pc 1000000000 y.natAbs).length c4))
     (first|go_keep|exact⟨AG.cellS g1,AG.cellS g2,AG.cellS g3,AG.cellS g4⟩|exact⟨(AG.trans AC).cellS g1,(AG.trans AC).cellS g2,(AG.trans AC).cellS g3,(AG.trans AC).cellS g4⟩)
     (first|((with_reducible refine ht.mono ?_);rintro e w7 ⟨v5,rfl,⟨A5,c5,rfl,hv5⟩,AG⟩)|((with_reducible refine(hc _ _ AG hv5.rd).mono ?_);rintro e w6 ⟨rfl,AC⟩))
    go_wp2;go_ret;exact⟨rfl,(SE.drew.trans AG).trans AC⟩
theorem zM(x y:Int)(hx:AB x)(hy:AB y)(w:World)(hw:An w):Calls Tryz.prog 329 #[S (I x),S (I y)] w (Bc (I (x+y)) w):=by
 by_cases h:(I x).length<=18/\(I y).length<=18
 ·exact Afq x y h.1 h.2 w hw
 ·exact Afp x y hx hy h w hw
theorem ud(x y:Int)(q r:Int)(hy:y≠0)(h:r+y*q=x)(h0:0<=r)(h1:r<y.natAbs):x/y=q/\x%y=r:=by
 rcases Int.lt_or_gt_of_ne hy with hy|hy
 ·exact(Int.ediv_emod_unique' hy).2 ⟨h,h0,by omega⟩
 ·exact(Int.ediv_emod_unique hy).2 ⟨h,h0,by omega⟩
theorem AbL(x y:Int)(hy:y≠0) :
  (x<0→0<x.natAbs%y.natAbs→(if (decide (x<0) != decide (y<0))=true then -((x.natAbs/y.natAbs+1:Nat):Int)else ((x.natAbs/y.natAbs+1:Nat):Int))=x/y/\((y.natAbs-x.natAbs%y.natAbs:Nat):Int)=x%y)/\
  (¬(x<0/\0<x.natAbs%y.natAbs)→(if (decide (x<0) != decide (y<0))=true then -((x.natAbs/y.natAbs:Nat):Int)else ((x.natAbs/y.natAbs:Nat):Int))=x/y/\((x.natAbs%y.natAbs:Nat):Int)=x%y):=by
 have hm:=Nat.div_add_mod x.natAbs y.natAbs;have hl:=Nat.mod_lt x.natAbs (show 0<y.natAbs by omega);obtain⟨q,hq⟩:=AmT (x.natAbs/y.natAbs);obtain⟨m,hmm⟩:=AmT (x.natAbs%y.natAbs);rw [←hq,←hmm]at hm ⊢;rw [←hmm]at hl;obtain⟨a,ha⟩:=Int.eq_nat_or_neg x;obtain⟨b,hb⟩:=Int.eq_nat_or_neg y;have e:((y.natAbs*q+m:Nat):Int)=(x.natAbs:Int):=(by rw [hm]);rw [Int.natCast_add,Int.natCast_mul]at e;constructor
 ·intro h1 h2;refine(fun h:_/\_=>⟨h.1.symm,h.2.symm⟩) (ud x y _ _ hy ?_ (by omega) (by omega));by_cases Bh:y<0
  ·simp only [h1,Bh,decide_true,bne_self_eq_false,Bool.false_eq_true,if_false];have:(y.natAbs:Int) = -y:=(by omega);rw [this]at e;rw [Int.natCast_add,Int.mul_add];rw [Int.neg_mul]at e;generalize y*(q:Int)=P at *;omega
  ·rw [decide_eq_true h1,decide_eq_false Bh,if_pos (by decide)];have:(y.natAbs:Int)=y:=(by omega);rw [this]at e;rw [Int.natCast_add,Int.neg_add,Int.mul_add,Int.mul_neg];generalize y*(q:Int)=P at *;omega
 ·intro h1;refine(fun h:_/\_=>⟨h.1.symm,h.2.symm⟩) (ud x y _ _ hy ?_ (by omega) (by omega));by_cases hx0:x<0<;>by_cases Bh:y<0
  ·simp only [hx0,Bh,decide_true,bne_self_eq_false,Bool.false_eq_true,if_false];have:(y.natAbs:Int) = -y:=(by omega);rw [this,Int.neg_mul]at e;generalize y*(q:Int)=P at *;omega
  ·rw [decide_eq_true hx0,decide_eq_false Bh,if_pos (by decide)];have:(y.natAbs:Int)=y:=(by omega);rw [this]at e;rw [Int.mul_neg];generalize y*(q:Int)=P at *;omega
  ·rw [decide_eq_false hx0,decide_eq_true Bh,if_pos (by decide)];have:(y.natAbs:Int) = -y:=(by omega);rw [this,Int.neg_mul]at e;rw [Int.mul_neg];generalize y*(q:Int)=P at *;omega
  ·simp only [hx0,Bh,bne_self_eq_false,Bool.false_eq_true,if_false];have:(y.natAbs:Int)=y:=(by omega);rw [this]at e;generalize y*(q:Int)=P at *;omega
theorem TU(n:Nat):Ej false n=I (n:Int):=by rw [LQ];rfl
def Ra(x y:Int):Value:=.tuple #[S (I (x/y)),S (I (x%y)),.int .i64 0]
theorem AbQ(x y:Int)(q m:Nat)(hq:q=x.natAbs/y.natAbs)(hm:m=x.natAbs%y.natAbs)(Dz:x<0)(hm0:0<m)(hx:AB x)(hy:AB y)(Bh:y≠0)(E1:Ej (decide (x<0) != decide (y<0)) (q+1)=I (x/y))(E2:Ej false (y.natAbs-m)=I (x%y))(w:World)(hw:An w) :
  Calls Tryz.prog 348 #[S (I x),S (I y)] w (CU (Ra x y) w):=by
 have lx:=hx.pc;have ly:=hy.pc;have zK:=Q7 Bh;obtain⟨sx,Ew⟩:=AmT (decide (x<0));obtain⟨sy,Ee⟩:=AmT (decide (y<0));have o1:=JQ x hx sx Ew;have o2:=JQ y hy sy Ee;have BX:m<y.natAbs:=(by rw [hm];exact Nat.mod_lt _ (by omega));have JD:(pc 1000000000 q).length<=445:=Ani (Ll (by rw [hq];exact Nat.div_le_self _ _)) lx;have hmn:(pc 1000000000 m).length<=(pc 1000000000 y.natAbs).length:=Ll (Nat.le_of_lt BX);have hd:=fun u v W hu hv=>U2 x.natAbs y.natAbs (by omega) (by omega) u v W hu hv;rw [←hq,←hm]at hd;rw [←Ew,←Ee]at E1;have M5:=Ew;rw [decide_eq_true Dz]at M5;subst M5;have cR:0<(pc 1000000000 m).length:=List.length_pos_iff.2 fun h=>(by have:=(PX b9).1 h;omega);clear Ew Ee hq hm Dz
 cases sy
 ·change Ej true _=_ at E1
  have GA:=AmU E1;have EF:=AmU E2;clear E1 E2;go_enter Tryz.func348,Tryz.ntmps348;(go_wp2_with fail);(with_reducible refine(o1 _).mono ?_);rintro e w3 ⟨A3,c3,rfl,hv3,hx3⟩;(go_wp2_with fail);(with_reducible refine(o2 _).mono ?_);rintro e w4 ⟨A4,c4,rfl,hv4,Ai⟩;have hx:=hx3.trans Ai;have hv3:=hv3.ext Ai;clear o1 o2 hx3 Ai
  go_upto_region 4 with fail
  obtain⟨W,hW,hE,hb1,hb2⟩:=LM w4 (.bool true) (.slice A3 (pc 1000000000 x.natAbs).length c3) (.bool false) (.slice A4 (pc 1000000000 y.natAbs).length c4) 280 280;rw [←hW];have hv3:=hv3.ext hE;have hv4:=hv4.ext hE;have Bg:=hx.trans hE;have k1:W.cell? ⟨w4.heap.size,0,none⟩=some (.bool true):=Ab hb1 rfl;have k2:W.cell? ⟨w4.heap.size,1,none⟩=some (.slice A3 (pc 1000000000 x.natAbs).length c3):=Ab hb1 rfl;have k3:W.cell? ⟨w4.heap.size+1,0,none⟩=some (.bool false):=Ab hb2 rfl;have k4:W.cell? ⟨w4.heap.size+1,1,none⟩=some (.slice A4 (pc 1000000000 y.natAbs).length c4):=Ab hb2 rfl;clear hW hE hx hb1 hb2;have hd:=hd _ _ W hv3.rd hv4.rd;(go_wp2_with fail);(with_reducible refine hd.mono ?_);rintro e w5 ⟨vq,vm,rfl,⟨A5,c5,rfl,hv5⟩,⟨A6,c6,rfl,Ex⟩,Ad⟩;have k1:=Ad.cellS k1;have k2:=Ad.cellS k2;have k3:=Ad.cellS k3;have k4:=Ad.cellS k4;have hv4:=hv4.ext Ad;have Bg:=Bg.trans Ad;clear hd Ad hv3;(go_wp2_with fail)
  have JC:BG (w5.alloc (.cells #[.int .u64 1] 195)) (some ⟨w5.heap.size,0,none⟩) 1 [1]:=
   ⟨by simp,by omega,by simp,fun _=>⟨w5.heap.size,0,rfl,fun j hj=>by
    obtain rfl:j=0:=by simpa using hj
    rw [World.cell?_alloc_at _ _ _ _ (by rfl)];simp [Ah]⟩⟩
  have Az:=(Aa.refl w5).alloc (.cells #[.int .u64 1] 195);have ht:=gK (pc 1000000000 q) [1] _ _ (w5.alloc (.cells #[.int .u64 1] 195)).drew (hv5.ext Az.drew).rd (JC.ext (Aa.refl _).drew).rd (by omega) (by simp) (Bd b9 _) (by intro z hz;simp only [Ank]at hz;omega);rw [AS b9,show Ag 1000000000 [1]=1 by rfl]at ht
  change Calls Tryz.prog 355 #[_,.slice _ 1 1] _ _ at ht
  have NM:=fun W2 (h:Aa (w5.alloc (.cells #[.int .u64 1] 195)).drew W2)=>SU (pc 1000000000 y.natAbs) (pc 1000000000 m) _ _ W2 (hv4.ext (Az.drew.trans h)).rd (Ex.ext (Az.drew.trans h)).rd (by omega) (Bd b9 _) (Bd b9 _) hmn (by rw [AS b9,AS b9];exact Nat.le_of_lt BX);simp only [AS b9]at NM
  go_region_held3 (fun w'=>w'.cell? ⟨w4.heap.size+1,1,none⟩=some (.slice A4 (pc 1000000000 y.natAbs).length c4))
   (first|go_keep|exact(Az.drew.trans AG).cellS k4|exact(Az.drew.trans (AG.trans Bq)).cellS k4)
   (first|((with_reducible refine ht.mono ?_);rintro e w7 ⟨v7,rfl,⟨A7,c7,rfl,M8⟩,AG⟩)|((with_reducible refine(NM _ AG).mono ?_);rintro e w8 ⟨v8,rfl,⟨A8,c8,rfl,hv8⟩,Bq⟩))
  have k1:=(Az.drew.trans (AG.trans Bq)).cellS k1;have k3:=(Az.drew.trans (AG.trans Bq)).cellS k3;have Cl:=Bg.trans (Az.drew.trans (AG.trans Bq));have hc1:=fun W2 (h:Aa w8 W2)=>EO true (q+1) _ W2 (hw.ext (Cl.trans h)) (M8.ext (Bq.trans h)).rd;have hc2:=fun W2 (h:Aa w8 W2)=>EO false (y.natAbs-m) _ W2 (hw.ext (Cl.trans h)) (hv8.ext h).rd;rw [GA.out]at hc1;rw [EF.out]at hc2;clear AG Bq Az Bg NM ht JC M8 hv8 k2 k4;(go_wp2_with fail);(with_reducible refine(hc1 _ (Aa.refl _)).mono ?_);rintro e wa ⟨rfl,Az⟩;(go_wp2_with fail);(with_reducible refine(hc2 _ Az).mono ?_);rintro e wb ⟨rfl,hxb⟩;go_wp2;go_ret3;exact⟨rfl,Cl.trans (Az.trans hxb)⟩
 ·change Ej false _=_ at E1
  have GA:=AmU E1;have EF:=AmU E2;clear E1 E2;go_enter Tryz.func348,Tryz.ntmps348;(go_wp2_with fail);(with_reducible refine(o1 _).mono ?_);rintro e w3 ⟨A3,c3,rfl,hv3,hx3⟩;(go_wp2_with fail);(with_reducible refine(o2 _).mono ?_);rintro e w4 ⟨A4,c4,rfl,hv4,Ai⟩;have hx:=hx3.trans Ai;have hv3:=hv3.ext Ai;clear o1 o2 hx3 Ai
  go_upto_region 4 with fail
  obtain⟨W,hW,hE,hb1,hb2⟩:=LM w4 (.bool true) (.slice A3 (pc 1000000000 x.natAbs).length c3) (.bool true) (.slice A4 (pc 1000000000 y.natAbs).length c4) 280 280;rw [←hW];have hv3:=hv3.ext hE;have hv4:=hv4.ext hE;have Bg:=hx.trans hE;have k1:W.cell? ⟨w4.heap.size,0,none⟩=some (.bool true):=Ab hb1 rfl;have k2:W.cell? ⟨w4.heap.size,1,none⟩=some (.slice A3 (pc 1000000000 x.natAbs).length c3):=Ab hb1 rfl;have k3:W.cell? ⟨w4.heap.size+1,0,none⟩=some (.bool true):=Ab hb2 rfl;have k4:W.cell? ⟨w4.heap.size+1,1,none⟩=some (.slice A4 (pc 1000000000 y.natAbs).length c4):=Ab hb2 rfl;clear hW hE hx hb1 hb2;have hd:=hd _ _ W hv3.rd hv4.rd;(go_wp2_with fail);(with_reducible refine hd.mono ?_);rintro e w5 ⟨vq,vm,rfl,⟨A5,c5,rfl,hv5⟩,⟨A6,c6,rfl,Ex⟩,Ad⟩;have k1:=Ad.cellS k1;have k2:=Ad.cellS k2;have k3:=Ad.cellS k3;have k4:=Ad.cellS k4;have hv4:=hv4.ext Ad;have Bg:=Bg.trans Ad;clear hd Ad hv3;(go_wp2_with fail)
  have JC:BG (w5.alloc (.cells #[.int .u64 1] 195)) (some ⟨w5.heap.size,0,none⟩) 1 [1]:=
   ⟨by simp,by omega,by simp,fun _=>⟨w5.heap.size,0,rfl,fun j hj=>by
    obtain rfl:j=0:=by simpa using hj
    rw [World.cell?_alloc_at _ _ _ _ (by rfl)];simp [Ah]⟩⟩
  have Az:=(Aa.refl w5).alloc (.cells #[.int .u64 1] 195);have ht:=gK (pc 1000000000 q) [1] _ _ (w5.alloc (.cells #[.int .u64 1] 195)).drew (hv5.ext Az.drew).rd (JC.ext (Aa.refl _).drew).rd (by omega) (by simp) (Bd b9 _) (by intro z hz;simp only [Ank]at hz;omega);rw [AS b9,show Ag 1000000000 [1]=1 by rfl]at ht
  change Calls Tryz.prog 355 #[_,.slice _ 1 1] _ _ at ht
  have NM:=fun W2 (h:Aa (w5.alloc (.cells #[.int .u64 1] 195)).drew W2)=>SU (pc 1000000000 y.natAbs) (pc 1000000000 m) _ _ W2 (hv4.ext (Az.drew.trans h)).rd (Ex.ext (Az.drew.trans h)).rd (by omega) (Bd b9 _) (Bd b9 _) hmn (by rw [AS b9,AS b9];exact Nat.le_of_lt BX);simp only [AS b9]at NM
  go_region_held3 (fun w'=>w'.cell? ⟨w4.heap.size+1,1,none⟩=some (.slice A4 (pc 1000000000 y.natAbs).length c4))
   (first|go_keep|exact(Az.drew.trans AG).cellS k4|exact(Az.drew.trans (AG.trans Bq)).cellS k4)
   (first|((with_reducible refine ht.mono ?_);rintro e w7 ⟨v7,rfl,⟨A7,c7,rfl,M8⟩,AG⟩)|((with_reducible refine(NM _ AG).mono ?_);rintro e w8 ⟨v8,rfl,⟨A8,c8,rfl,hv8⟩,Bq⟩))
  have k1:=(Az.drew.trans (AG.trans Bq)).cellS k1;have k3:=(Az.drew.trans (AG.trans Bq)).cellS k3;have Cl:=Bg.trans (Az.drew.trans (AG.trans Bq));have hc1:=fun W2 (h:Aa w8 W2)=>EO false (q+1) _ W2 (hw.ext (Cl.trans h)) (M8.ext (Bq.trans h)).rd;have hc2:=fun W2 (h:Aa w8 W2)=>EO false (y.natAbs-m) _ W2 (hw.ext (Cl.trans h)) (hv8.ext h).rd;rw [GA.out]at hc1;rw [EF.out]at hc2;clear AG Bq Az Bg NM ht JC M8 hv8 k2 k4;(go_wp2_with fail);(with_reducible refine(hc1 _ (Aa.refl _)).mono ?_);rintro e wa ⟨rfl,Az⟩;(go_wp2_with fail);(with_reducible refine(hc2 _ Az).mono ?_);rintro e wb ⟨rfl,hxb⟩;go_wp2;go_ret3;exact⟨rfl,Cl.trans (Az.trans hxb)⟩
theorem AbO(x y:Int)(q m:Nat)(hq:q=x.natAbs/y.natAbs)(hm:m=x.natAbs%y.natAbs)(Dz:x<0)(hm0:m=0)(hx:AB x)(hy:AB y)(Bh:y≠0)(E1:Ej (decide (x<0) != decide (y<0)) q=I (x/y))(E2:Ej false m=I (x%y))(w:World)(hw:An w) :
  Calls Tryz.prog 348 #[S (I x),S (I y)] w (CU (Ra x y) w):=by
 have lx:=hx.pc;have ly:=hy.pc;have zK:=Q7 Bh;obtain⟨sx,Ew⟩:=AmT (decide (x<0));obtain⟨sy,Ee⟩:=AmT (decide (y<0));have o1:=JQ x hx sx Ew;have o2:=JQ y hy sy Ee;have BX:m<y.natAbs:=(by rw [hm];exact Nat.mod_lt _ (by omega));have JD:(pc 1000000000 q).length<=445:=Ani (Ll (by rw [hq];exact Nat.div_le_self _ _)) lx;have hmn:(pc 1000000000 m).length<=(pc 1000000000 y.natAbs).length:=Ll (Nat.le_of_lt BX);have hd:=fun u v W hu hv=>U2 x.natAbs y.natAbs (by omega) (by omega) u v W hu hv;rw [←hq,←hm]at hd;rw [←Ew,←Ee]at E1;have M5:=Ew;rw [decide_eq_true Dz]at M5;subst M5;have cR:(pc 1000000000 m).length=0:=(by rw [hm0,Ik];rfl);have Amm:decide (0<(pc 1000000000 m).length)=false:=(by rw [cR];rfl);clear cR hm0;clear Ew Ee hq hm Dz
 cases sy
 ·change Ej true _=_ at E1
  have GA:=AmU E1;have EF:=AmU E2;clear E1 E2;go_enter Tryz.func348,Tryz.ntmps348;(go_wp2_with fail);(with_reducible refine(o1 _).mono ?_);rintro e w3 ⟨A3,c3,rfl,hv3,hx3⟩;(go_wp2_with fail);(with_reducible refine(o2 _).mono ?_);rintro e w4 ⟨A4,c4,rfl,hv4,Ai⟩;have hx:=hx3.trans Ai;have hv3:=hv3.ext Ai;clear o1 o2 hx3 Ai
  go_upto_region 4 with fail
  obtain⟨W,hW,hE,hb1,hb2⟩:=LM w4 (.bool true) (.slice A3 (pc 1000000000 x.natAbs).length c3) (.bool false) (.slice A4 (pc 1000000000 y.natAbs).length c4) 280 280;rw [←hW];have hv3:=hv3.ext hE;have hv4:=hv4.ext hE;have Bg:=hx.trans hE;have k1:W.cell? ⟨w4.heap.size,0,none⟩=some (.bool true):=Ab hb1 rfl;have k2:W.cell? ⟨w4.heap.size,1,none⟩=some (.slice A3 (pc 1000000000 x.natAbs).length c3):=Ab hb1 rfl;have k3:W.cell? ⟨w4.heap.size+1,0,none⟩=some (.bool false):=Ab hb2 rfl;have k4:W.cell? ⟨w4.heap.size+1,1,none⟩=some (.slice A4 (pc 1000000000 y.natAbs).length c4):=Ab hb2 rfl;clear hW hE hx hb1 hb2;have hd:=hd _ _ W hv3.rd hv4.rd;(go_wp2_with fail);(with_reducible refine hd.mono ?_);rintro e w5 ⟨vq,vm,rfl,⟨A5,c5,rfl,hv5⟩,⟨A6,c6,rfl,Ex⟩,Ad⟩;have k1:=Ad.cellS k1;have k2:=Ad.cellS k2;have k3:=Ad.cellS k3;have k4:=Ad.cellS k4;have hv4:=hv4.ext Ad;have Bg:=Bg.trans Ad;clear hd Ad hv3;have hc1:=fun W2 (h:Aa w5 W2)=>EO true q _ W2 (hw.ext (Bg.trans h)) (hv5.ext h).rd;have hc2:=fun W2 (h:Aa w5 W2)=>EO false m _ W2 (hw.ext (Bg.trans h)) (Ex.ext h).rd;rw [GA.out]at hc1;rw [EF.out]at hc2;clear k2 k4 hv4 hv5 Ex;(go_wp2_with fail);(with_reducible refine(hc1 _ (Aa.refl _)).mono ?_);rintro e wa ⟨rfl,Az⟩;(go_wp2_with fail);(with_reducible refine(hc2 _ Az).mono ?_);rintro e wb ⟨rfl,hxb⟩;go_wp2;go_ret3;exact⟨rfl,Bg.trans (Az.trans hxb)⟩
 ·change Ej false _=_ at E1
  have GA:=AmU E1;have EF:=AmU E2;clear E1 E2;go_enter Tryz.func348,Tryz.ntmps348;(go_wp2_with fail);(with_reducible refine(o1 _).mono ?_);rintro e w3 ⟨A3,c3,rfl,hv3,hx3⟩;(go_wp2_with fail);(with_reducible refine(o2 _).mono ?_);rintro e w4 ⟨A4,c4,rfl,hv4,Ai⟩;have hx:=hx3.trans Ai;have hv3:=hv3.ext Ai;clear o1 o2 hx3 Ai
  go_upto_region 4 with fail
  obtain⟨W,hW,hE,hb1,hb2⟩:=LM w4 (.bool true) (.slice A3 (pc 1000000000 x.natAbs).length c3) (.bool true) (.slice A4 (pc 1000000000 y.natAbs).length c4) 280 280;rw [←hW];have hv3:=hv3.ext hE;have hv4:=hv4.ext hE;have Bg:=hx.trans hE;have k1:W.cell? ⟨w4.heap.size,0,none⟩=some (.bool true):=Ab hb1 rfl;have k2:W.cell? ⟨w4.heap.size,1,none⟩=some (.slice A3 (pc 1000000000 x.natAbs).length c3):=Ab hb1 rfl;have k3:W.cell? ⟨w4.heap.size+1,0,none⟩=some (.bool true):=Ab hb2 rfl;have k4:W.cell? ⟨w4.heap.size+1,1,none⟩=some (.slice A4 (pc 1000000000 y.natAbs).length c4):=Ab hb2 rfl;clear hW hE hx hb1 hb2;have hd:=hd _ _ W hv3.rd hv4.rd;(go_wp2_with fail);(with_reducible refine hd.mono ?_);rintro e w5 ⟨vq,vm,rfl,⟨A5,c5,rfl,hv5⟩,⟨A6,c6,rfl,Ex⟩,Ad⟩;have k1:=Ad.cellS k1;have k2:=Ad.cellS k2;have k3:=Ad.cellS k3;have k4:=Ad.cellS k4;have hv4:=hv4.ext Ad;have Bg:=Bg.trans Ad;clear hd Ad hv3;have hc1:=fun W2 (h:Aa w5 W2)=>EO false q _ W2 (hw.ext (Bg.trans h)) (hv5.ext h).rd;have hc2:=fun W2 (h:Aa w5 W2)=>EO false m _ W2 (hw.ext (Bg.trans h)) (Ex.ext h).rd;rw [GA.out]at hc1;rw [EF.out]at hc2;clear k2 k4 hv4 hv5 Ex;(go_wp2_with fail);(with_reducible refine(hc1 _ (Aa.refl _)).mono ?_);rintro e wa ⟨rfl,Az⟩;(go_wp2_with fail);(with_reducible refine(hc2 _ Az).mono ?_);rintro e wb ⟨rfl,hxb⟩;go_wp2;go_ret3;exact⟨rfl,Bg.trans (Az.trans hxb)⟩
theorem AbP(x y:Int)(q m:Nat)(hq:q=x.natAbs/y.natAbs)(hm:m=x.natAbs%y.natAbs)(Dz:¬x<0)(hx:AB x)(hy:AB y)(Bh:y≠0)(E1:Ej (decide (x<0) != decide (y<0)) q=I (x/y))(E2:Ej false m=I (x%y))(w:World)(hw:An w) :
  Calls Tryz.prog 348 #[S (I x),S (I y)] w (CU (Ra x y) w):=by
 have lx:=hx.pc;have ly:=hy.pc;have zK:=Q7 Bh;obtain⟨sx,Ew⟩:=AmT (decide (x<0));obtain⟨sy,Ee⟩:=AmT (decide (y<0));have o1:=JQ x hx sx Ew;have o2:=JQ y hy sy Ee;have BX:m<y.natAbs:=(by rw [hm];exact Nat.mod_lt _ (by omega));have JD:(pc 1000000000 q).length<=445:=Ani (Ll (by rw [hq];exact Nat.div_le_self _ _)) lx;have hmn:(pc 1000000000 m).length<=(pc 1000000000 y.natAbs).length:=Ll (Nat.le_of_lt BX);have hd:=fun u v W hu hv=>U2 x.natAbs y.natAbs (by omega) (by omega) u v W hu hv;rw [←hq,←hm]at hd;rw [←Ew,←Ee]at E1;have M5:=Ew;rw [decide_eq_false Dz]at M5;subst M5;clear Ew Ee hq hm Dz
 cases sy
 ·change Ej false _=_ at E1
  have GA:=AmU E1;have EF:=AmU E2;clear E1 E2;go_enter Tryz.func348,Tryz.ntmps348;(go_wp2_with fail);(with_reducible refine(o1 _).mono ?_);rintro e w3 ⟨A3,c3,rfl,hv3,hx3⟩;(go_wp2_with fail);(with_reducible refine(o2 _).mono ?_);rintro e w4 ⟨A4,c4,rfl,hv4,Ai⟩;have hx:=hx3.trans Ai;have hv3:=hv3.ext Ai;clear o1 o2 hx3 Ai
  go_upto_region 4 with fail
  obtain⟨W,hW,hE,hb1,hb2⟩:=LM w4 (.bool false) (.slice A3 (pc 1000000000 x.natAbs).length c3) (.bool false) (.slice A4 (pc 1000000000 y.natAbs).length c4) 280 280;rw [←hW];have hv3:=hv3.ext hE;have hv4:=hv4.ext hE;have Bg:=hx.trans hE;have k1:W.cell? ⟨w4.heap.size,0,none⟩=some (.bool false):=Ab hb1 rfl;have k2:W.cell? ⟨w4.heap.size,1,none⟩=some (.slice A3 (pc 1000000000 x.natAbs).length c3):=Ab hb1 rfl;have k3:W.cell? ⟨w4.heap.size+1,0,none⟩=some (.bool false):=Ab hb2 rfl;have k4:W.cell? ⟨w4.heap.size+1,1,none⟩=some (.slice A4 (pc 1000000000 y.natAbs).length c4):=Ab hb2 rfl;clear hW hE hx hb1 hb2;have hd:=hd _ _ W hv3.rd hv4.rd;(go_wp2_with fail);(with_reducible refine hd.mono ?_);rintro e w5 ⟨vq,vm,rfl,⟨A5,c5,rfl,hv5⟩,⟨A6,c6,rfl,Ex⟩,Ad⟩;have k1:=Ad.cellS k1;have k2:=Ad.cellS k2;have k3:=Ad.cellS k3;have k4:=Ad.cellS k4;have hv4:=hv4.ext Ad;have Bg:=Bg.trans Ad;clear hd Ad hv3;have hc1:=fun W2 (h:Aa w5 W2)=>EO false q _ W2 (hw.ext (Bg.trans h)) (hv5.ext h).rd;have hc2:=fun W2 (h:Aa w5 W2)=>EO false m _ W2 (hw.ext (Bg.trans h)) (Ex.ext h).rd;rw [GA.out]at hc1;rw [EF.out]at hc2;clear k2 k4 hv4 hv5 Ex;(go_wp2_with fail);(with_reducible refine(hc1 _ (Aa.refl _)).mono ?_);rintro e wa ⟨rfl,Az⟩;(go_wp2_with fail);(with_reducible refine(hc2 _ Az).mono ?_);rintro e wb ⟨rfl,hxb⟩;go_wp2;go_ret3;exact⟨rfl,Bg.trans (Az.trans hxb)⟩
 ·change Ej true _=_ at E1
  have GA:=AmU E1;have EF:=AmU E2;clear E1 E2;go_enter Tryz.func348,Tryz.ntmps348;(go_wp2_with fail);(with_reducible refine(o1 _).mono ?_);rintro e w3 ⟨A3,c3,rfl,hv3,hx3⟩;(go_wp2_with fail);(with_reducible refine(o2 _).mono ?_);rintro e w4 ⟨A4,c4,rfl,hv4,Ai⟩;have hx:=hx3.trans Ai;have hv3:=hv3.ext Ai;clear o1 o2 hx3 Ai
  go_upto_region 4 with fail
  obtain⟨W,hW,hE,hb1,hb2⟩:=LM w4 (.bool false) (.slice A3 (pc 1000000000 x.natAbs).length c3) (.bool true) (.slice A4 (pc 1000000000 y.natAbs).length c4) 280 280;rw [←hW];have hv3:=hv3.ext hE;have hv4:=hv4.ext hE;have Bg:=hx.trans hE;have k1:W.cell? ⟨w4.heap.size,0,none⟩=some (.bool false):=Ab hb1 rfl;have k2:W.cell? ⟨w4.heap.size,1,none⟩=some (.slice A3 (pc 1000000000 x.natAbs).length c3):=Ab hb1 rfl;have k3:W.cell? ⟨w4.heap.size+1,0,none⟩=some (.bool true):=Ab hb2 rfl;have k4:W.cell? ⟨w4.heap.size+1,1,none⟩=some (.slice A4 (pc 1000000000 y.natAbs).length c4):=Ab hb2 rfl;clear hW hE hx hb1 hb2;have hd:=hd _ _ W hv3.rd hv4.rd;(go_wp2_with fail);(with_reducible refine hd.mono ?_);rintro e w5 ⟨vq,vm,rfl,⟨A5,c5,rfl,hv5⟩,⟨A6,c6,rfl,Ex⟩,Ad⟩;have k1:=Ad.cellS k1;have k2:=Ad.cellS k2;have k3:=Ad.cellS k3;have k4:=Ad.cellS k4;have hv4:=hv4.ext Ad;have Bg:=Bg.trans Ad;clear hd Ad hv3;have hc1:=fun W2 (h:Aa w5 W2)=>EO true q _ W2 (hw.ext (Bg.trans h)) (hv5.ext h).rd;have hc2:=fun W2 (h:Aa w5 W2)=>EO false m _ W2 (hw.ext (Bg.trans h)) (Ex.ext h).rd;rw [GA.out]at hc1;rw [EF.out]at hc2;clear k2 k4 hv4 hv5 Ex;(go_wp2_with fail);(with_reducible refine(hc1 _ (Aa.refl _)).mono ?_);rintro e wa ⟨rfl,Az⟩;(go_wp2_with fail);(with_reducible refine(hc2 _ Az).mono ?_);rintro e wb ⟨rfl,hxb⟩;go_wp2;go_ret3;exact⟨rfl,Bg.trans (Az.trans hxb)⟩
theorem zN(x y:Int)(hx:AB x)(hy:AB y)(Bh:y≠0)(w:World)(hw:An w):Calls Tryz.prog 348 #[S (I x),S (I y)] w (CU (Ra x y) w):=by
 obtain⟨hB,hA⟩:=AbL x y Bh;by_cases Dz:x<0
 ·rcases Nat.eq_zero_or_pos (x.natAbs%y.natAbs)with h|h
  ·obtain⟨e1,e2⟩:=hA (by omega);exact AbO x y _ _ rfl rfl Dz h hx hy Bh (by rw [LQ,e1]) (by rw [TU,e2]) w hw
  ·obtain⟨e1,e2⟩:=hB Dz h;exact AbQ x y _ _ rfl rfl Dz h hx hy Bh (by rw [LQ,e1]) (by rw [TU,e2]) w hw
 ·obtain⟨e1,e2⟩:=hA (by omega);exact AbP x y _ _ rfl rfl Dz hx hy Bh (by rw [LQ,e1]) (by rw [TU,e2]) w hw
section
theorem Ac1(s:Bool)(A:Option Addr)(n c:Nat)(W:World):(Instr.field 280 (.agg #[.bool s,.slice A n c]) 1).run Tryz.prog W=.ok (.slice A n c) W:=by
 simp [Instr.field,run_underlying Tryz.underlying280,asAgg,part]
attribute [local go_sem] Ac1
theorem rN(a b:Int):Int.gcd b (a.tmod b)=Int.gcd a b:=by
 unfold Int.gcd;rw [Int.natAbs_tmod,Nat.gcd_comm b.natAbs,←Nat.gcd_rec,Nat.gcd_comm]
theorem ek(a:Int){b:Int}(h:b≠0):(a.tmod b).natAbs<b.natAbs:=by
 rw [Int.natAbs_tmod];exact Nat.mod_lt _ (by omega)
theorem Aft(x y:Int)(hx:(I x).length<=18)(hy:(I y).length<=18)(w:World)(hw:An w) :
  Calls Tryz.prog 220 #[S (I x),S (I y)] w (Bc (D (Int.gcd x y)) w):=by
 have q1:=MM x;have q2:=MM y;rw [Lp hx]at q1;rw [Lp hy]at q2;have b1:=MQ hx;have b2:=MQ hy;have e18:(10:Nat)^18=1000000000000000000:=(by decide);rw [e18]at b1 b2;obtain⟨g,hg⟩:=AmT (Int.gcd x y);rw [←hg];have HG:=AmU hg.symm;clear hx hy e18 hg;go_enter Tryz.func220,Tryz.ntmps220;(go_wp2_with fail);(with_reducible refine(q1 _).mono ?_);rintro e w1 ⟨rfl,hx1⟩;(go_wp2_with fail);(with_reducible refine(q2 _).mono ?_);rintro e w2 ⟨rfl,hx2⟩;have hx:=hx1.trans hx2;clear hx1 hx2 q1 q2;go_wp2
 go_loopw [5,7] (fun u v wr=>∃a b:Int,u=.int .i64 a/\v=.int .i64 b/\Int.gcd a b=g/\a.natAbs<1000000000000000000/\b.natAbs<1000000000000000000/\Aa w wr) (fun _ v _=>(intOf v).natAbs)
 case atStart=>exact⟨x,y,rfl,rfl,HG.out,b1,b2,hx⟩
 case round=>
  obtain⟨a,b,rfl,rfl,Gt,ha,hb,Ac⟩:=hrel;by_cases hb0:b=0
  ·subst hb0;have Pq:a.natAbs=g:=(by rw [←Gt];simp);have hmx:max a (-a)=(g:Int):=(by omega);have ho:=fun W hW=>dX (g:Int) (by omega) (by omega) W hW;have Bl:((0:Int) != 0)=false:=(by rfl);clear Pq Gt;rw [DU]at ho;have Mw:IntKind.i64.wrap (-a) = -a:=Ane _ (by omega);(go_wp2_with fail);(with_reducible refine(ho _ (hw.ext Ac)).mono ?_);rintro e w3 ⟨rfl,hx3⟩;go_wp2;go_ret;exact⟨rfl,Ac.trans hx3⟩
  ·have hlt:=ek a hb0;have P0:(a.tmod b).natAbs<1000000000000000000:=Nat.lt_trans hlt hb;have Eu:=rN a b;have RP:(b != 0)=true:=(by rw [bne_iff_ne];exact hb0);have CZ:(b == 0)=false:=(by rw [beq_eq_false_iff_ne];exact hb0);have LF:=AmU (Eu.trans Gt);clear Eu Gt;(go_wp2_with fail)
   go_quiet (fail)
   go_wp2;go_roundw
   case rel=>exact⟨b,a.tmod b,rfl,rfl,LF.out,hb,P0,Ac.drewN _⟩
   case measure=>exact hlt
theorem Afs(x y:Int)(hx:AB x)(hy:AB y)(hn:¬((I x).length<=18/\(I y).length<=18))(w:World)(hw:An w) :
  Calls Tryz.prog 220 #[S (I x),S (I y)] w (Bc (D (Int.gcd x y)) w):=by
 have q1:=MM x;have q2:=MM y;have lx:=hx.pc;have ly:=hy.pc;have o1:=JQ x hx _ rfl;have o2:=JQ y hy _ rfl;obtain⟨g,hg⟩:=AmT (Int.gcd x y);rw [←hg];have HG:=AmU hg.symm;clear hx hy hg;by_cases h1:(I x).length<=18
 case' pos=>rw [Lp h1]at q1;rw [Qe fun h=>hn ⟨h1,h⟩]at q2;clear h1 hn;go_enter Tryz.func220,Tryz.ntmps220;(go_wp2_with fail);(with_reducible refine(q1 _).mono ?_);rintro e w1 ⟨rfl,hx1⟩;(go_wp2_with fail);(with_reducible refine(q2 _).mono ?_);rintro e w2 ⟨rfl,hx2⟩;have hx:=hx1.trans hx2;clear hx1 hx2;(go_wp2_with fail)
 case' neg=>rw [Qe h1]at q1;clear h1 hn;go_enter Tryz.func220,Tryz.ntmps220;(go_wp2_with fail);(with_reducible refine(q1 _).mono ?_);rintro e w2 ⟨rfl,hx⟩;(go_wp2_with fail)
 all_goals
  clear q1 q2;(with_reducible refine(o1 _).mono ?_);rintro e w3 ⟨A3,c3,rfl,hv3,hx3⟩;(go_wp2_with fail);(with_reducible refine(o2 _).mono ?_);rintro e w4 ⟨A4,c4,rfl,hv4,Ai⟩;have hx:=(hx.trans hx3).trans Ai;have hv3:=hv3.ext Ai;clear o1 o2 hx3 Ai;go_wp2
  go_loopg [9,10] y.natAbs (fun k u v wr=>∃a:Nat,Rd wr u (pc 1000000000 a)/\Rd wr v (pc 1000000000 k)/\Nat.gcd a k=g/\(pc 1000000000 a).length<=445/\(pc 1000000000 k).length<=445/\Aa w wr)
  case atStart=>exact⟨x.natAbs,hv3.rd,hv4.rd,HG.out,lx,ly,hx⟩
  case round=>
   obtain⟨a,ha,⟨B,cb,rfl,hb⟩,hg,FT,FU,Ac⟩:=hrel;obtain⟨b,rfl⟩:=AmT gk;have kL:=AmU hg;clear hg hx hv3 hv4 lx ly;by_cases hb0:b=0
   ·subst hb0;have Pq:a=g:=(by rw [←kL.out];simp);subst Pq;have hl0:(pc 1000000000 0).length=0:=(by rw [Ik];rfl);have hl:decide (0<(pc 1000000000 0).length)=false:=(by rw [hl0];rfl);have hl':¬0<(pc 1000000000 0).length:=(by omega);obtain⟨A,ca,rfl,ha⟩:=ha;have hc:=EO false a _ _ (hw.ext Ac) ha.rd;rw [TU,DU]at hc;clear hl0;(go_wp2_with fail);(with_reducible refine hc.mono ?_);rintro e w5 ⟨rfl,Ad⟩;go_wp2;go_ret;exact⟨rfl,Ac.trans Ad⟩
   ·have hp:0<(pc 1000000000 b).length:=List.length_pos_iff.2 fun h=>(by have:=(PX b9).1 h;omega);have hd:=U2 a b (by omega) (by omega) _ _ _ ha hb.rd;have hb:=hb;(go_wp2_with fail);(with_reducible refine hd.mono ?_);rintro e w5 ⟨vq,vr,rfl,hq,hr,Ad⟩;go_wp2
    go_roundg (a%b)
    case measure=>exact Nat.mod_lt _ (by omega)
    case rel=>exact⟨b,(hb.ext Ad).rd,hr,by rw [←kL.out,Nat.gcd_comm b,←Nat.gcd_rec,Nat.gcd_comm],FU,Ani (Ll (Nat.le_of_lt (Nat.mod_lt _ (by omega)))) FU,Ac.trans Ad⟩
theorem Afr(x y:Int)(hx:AB x)(hy:AB y)(w:World)(hw:An w):Calls Tryz.prog 220 #[S (I x),S (I y)] w (Bc (D (Int.gcd x y)) w):=by
 by_cases h:(I x).length<=18/\(I y).length<=18
 ·exact Aft x y h.1 h.2 w hw
 ·exact Afs x y hx hy h w hw
end
def DX(x y:Int):Int:=if x<y then -1 else if x=y then 0 else 1
theorem oL{x y:Int}(h:x<y):DX x y = -1:=by unfold DX;rw [if_pos h]
theorem YG{x y:Int}(h:y<x):DX x y=1:=by unfold DX;rw [if_neg (by omega),if_neg (by omega)]
theorem Abg{x y:Int}(h:x=y):DX x y=0:=by unfold DX;rw [if_neg (by omega),if_pos h]
theorem oS:∀(l k:Bs),BA l→BA k→l.length=k.length→Lib.compareBytes l k=D9 (val l) (val k)
 | [],[],_,_,_=>by simp [Lib.compareBytes,D9]
 | [],_::_,_,_,h=>by simp at h
 | _::_,[],_,_,h=>by simp at h
 | a::l,b::k,ha,hb,h=>by
  rw [Uh]at ha hb;simp only [List.length_cons,Nat.add_right_cancel_iff]at h;have ih:=oS l k ha.2 hb.2 h;have hl:=JY ha.2;have hk:=JY hb.2;rw [Qp,Qp,Lib.compareBytes,h];rw [h]at hl;have H8:=ha.1.1;have vJ:=hb.1.1;generalize 10^k.length=p at *
  rcases Nat.lt_trichotomy (dv a) (dv b)with hd|hd|hd
  ·have h1:a<b:=(by rw [UInt8.lt_iff_toNat_lt];unfold dv at hd;omega);have h2:dv a*p+p<=dv b*p:=(by rw [←Nat.succ_mul];exact Nat.mul_le_mul_right _ hd);rw [if_pos h1,LR (by omega)]
  ·have h1:a=b:=by have:a.toNat=b.toNat:=(by unfold dv at hd;omega);exact UInt8.toNat_inj.1 this
   subst h1;rw [if_neg (by rw [UInt8.lt_iff_toNat_lt];omega),if_neg (by rw [UInt8.lt_iff_toNat_lt];omega),ih];unfold D9;simp only [Nat.add_lt_add_iff_left,Nat.add_left_cancel_iff]
  ·have h1:b<a:=(by rw [UInt8.lt_iff_toNat_lt];unfold dv at hd;omega);have h0:¬a<b:=(by rw [UInt8.lt_iff_toNat_lt]at h1 ⊢;omega);have h2:dv b*p+p<=dv a*p:=(by rw [←Nat.succ_mul];exact Nat.mul_le_mul_right _ hd);rw [if_neg h0,if_pos h1,Ks (by omega)]
theorem jU{m n:Nat}(h:(D m).length<(D n).length):m<n:=by
 rcases Nat.eq_zero_or_pos n with rfl|hn
 ·have e:(D 0).length=1:=(by rw [EE (by omega)];rfl);have:=TC m;omega
 ·have h1:=dp m;have h2:=jq n hn;have h3:10^(D m).length<=10^((D n).length-1):=Nat.pow_le_pow_right (by omega) (by omega);omega
theorem mg(z:Int):-1<=Ff z/\Ff z<=1:=by unfold Ff;split<;>(try split)<;>omega
theorem l8{x y:Int}(h:Ff x<Ff y):x<y:=by
 unfold Ff at h;split at h<;>split at h<;>(try split at h)<;>(try split at h)<;>omega
theorem ma(z:Int):Ff z*(z.natAbs:Int)=z:=by
 unfold Ff
 split
 ·omega
 ·split<;>omega
theorem dW(x y:Int)(hx:AB x)(hy:AB y)(w:World):Calls Tryz.prog 144 #[S (I x),S (I y)] w (AA (DX x y) w):=by
 have s1:=PD x;have s2:=PD y;have r1:=mg x;have r2:=mg y;have t1:=o6 (I x) [45];have t2:=o6 (I y) [45];rw [o5]at t1 t2;have c1:=oU (D x.natAbs) (D y.natAbs);have l1:=hx.len;have l2:=hy.len
 have hcl:(D x.natAbs).length=(D y.natAbs).length→Lib.compareBytes (D x.natAbs) (D y.natAbs)=D9 x.natAbs y.natAbs:=fun h=>by
  have:=oS _ _ (D7 x.natAbs) (D7 y.natAbs) h
  rwa [Iu,Iu]at this
 have k1:(D x.natAbs).length<(D y.natAbs).length→x.natAbs<y.natAbs:=jU;have k2:(D y.natAbs).length<(D x.natAbs).length→y.natAbs<x.natAbs:=jU;have a1:=ma x;have a2:=ma y;have Gu:=@l8 x y;have hlt2:=@l8 y x;obtain⟨s,hs⟩:=AmT (Ff x);obtain⟨t,ht⟩:=AmT (Ff y);rw [←hs]at s1 r1 a1 Gu hlt2;rw [←ht]at s2 r2 a2 Gu hlt2;clear hs ht
 rcases Int.lt_trichotomy s t with h|h|h
 ·have HR:=AmU (oL (Gu h));have hne:(s != t)=true:=(by rw [bne_iff_ne];omega);clear a1 a2 Gu hlt2 t1 t2 c1 hcl k1 k2;go_enter Tryz.func144,Tryz.ntmps144;(go_wp2_with fail);(with_reducible refine(s1 _).mono ?_);rintro e w1 ⟨rfl,hx1⟩;(go_wp2_with fail);(with_reducible refine(s2 _).mono ?_);rintro e w2 ⟨rfl,hx2⟩;go_wp2;go_ret;exact⟨Be HR.out,hx1.trans hx2⟩
 ·subst h;have hne:(s != s)=false:=by simp
  have zJ:(D y.natAbs).length<=4001:=by
   rcases DT y with⟨n,rfl,e⟩|⟨n,hn,rfl,e⟩
   ·rw [e]at l2;simpa using l2
   ·rw [e,List.length_cons]at l2;rw [show (-(n:Int)).natAbs=n by omega];omega
  have VX:(D x.natAbs).length<=4001:=by
   rcases DT x with⟨n,rfl,e⟩|⟨n,hn,rfl,e⟩
   ·rw [e]at l1;simpa using l1
   ·rw [e,List.length_cons]at l1;rw [show (-(n:Int)).natAbs=n by omega];omega
  obtain⟨cb,hcb⟩:=AmT (Lib.compareBytes (D x.natAbs) (D y.natAbs));rw [←hcb]at c1 hcl;have S8:s=0∨s=1∨s = -1:=by omega
  have hcm:∀{m n:Nat},x=s*m→y=s*n→s*D9 m n=DX x y:=by
   intro m n e1 e2;rw [e1,e2]
   rcases S8 with rfl|rfl|rfl
   ·simp [DX]
   ·unfold D9 DX;simp only [Int.one_mul];split<;>split<;>(try split)<;>omega
   ·unfold D9 DX;split<;>split<;>(try split)<;>(try split)<;>omega
  have HC:=AmU (@hcm x.natAbs y.natAbs a1.symm a2.symm);obtain⟨A,hA⟩:=AmT (D x.natAbs);obtain⟨B,hB⟩:=AmT (D y.natAbs);rw [←hA]at t1 c1 hcl k1 k2 VX;rw [←hB]at t2 c1 hcl k1 k2 zJ
  rcases Nat.lt_trichotomy A.length B.length with hl|hl|hl
  ·have hk:=k1 hl
   have HR:Hid (DX x y=IntKind.i64.wrap (-s)):=AmU (by
    rw [←HC.out,LR hk,Ane (-s) (by omega)];omega)
   have yZ:IntKind.i64.wrap (-s) = -s:=Ane _ (by omega);have EY:((A.length:Int) != (B.length:Int))=true:=(by rw [bne_iff_ne];omega);have hR2:Hid (-s=DX x y):=AmU (by rw [HR.out,yZ]);clear a1 a2 Gu hlt2 c1 hcl k1 k2 hcb hA hB HC HR S8 hcm hk l1 l2;go_enter Tryz.func144,Tryz.ntmps144;(go_wp2_with fail);(with_reducible refine(s1 _).mono ?_);rintro e w1 ⟨rfl,hx1⟩;(go_wp2_with fail);(with_reducible refine(s2 _).mono ?_);rintro e w2 ⟨rfl,hx2⟩;(go_wp2_with fail);(with_reducible refine(t1 _).mono ?_);rintro e w3 ⟨rfl,hx3⟩;(go_wp2_with fail);(with_reducible refine(t2 _).mono ?_);rintro e w4 ⟨rfl,Ai⟩;go_wp2;go_ret;exact⟨Be hR2.out.symm,((hx1.trans hx2).trans hx3).trans Ai⟩
  ·have hq:=hcl hl;have hcr:-1<=cb/\cb<=1:=by rw [hq];unfold D9;split<;>(try split)<;>omega
   have hsc:-1<=s*cb/\s*cb<=1:=by rcases S8 with rfl|rfl|rfl<;>omega
   have hR2:Hid (s*cb=DX x y):=AmU (by rw [hq];exact HC.out);have yZ:IntKind.i64.wrap (s*cb)=s*cb:=Ane _ (by omega);have EY:((A.length:Int) != (B.length:Int))=false:=(by rw [hl];simp);clear a1 a2 Gu hlt2 hcl k1 k2 hcb hA hB HC S8 hcm hq l1 l2 hsc;have HL:=AmU hl;clear hl;go_enter Tryz.func144,Tryz.ntmps144;(go_wp2_with fail);(with_reducible refine(s1 _).mono ?_);rintro e w1 ⟨rfl,hx1⟩;(go_wp2_with fail);(with_reducible refine(s2 _).mono ?_);rintro e w2 ⟨rfl,hx2⟩;(go_wp2_with fail);(with_reducible refine(t1 _).mono ?_);rintro e w3 ⟨rfl,hx3⟩;(go_wp2_with fail);(with_reducible refine(t2 _).mono ?_);rintro e w4 ⟨rfl,Ai⟩;(go_wp2_with fail);(with_reducible refine(c1 _).mono ?_);rintro e w5 ⟨rfl,Ad⟩;go_wp2;go_ret;exact⟨Be hR2.out.symm,(((hx1.trans hx2).trans hx3).trans Ai).trans Ad⟩
  ·have hk:=k2 hl;have hR2:Hid (s=DX x y):=AmU (by rw [←HC.out,Ks hk];omega);have EY:((A.length:Int) != (B.length:Int))=true:=(by rw [bne_iff_ne];omega);have hnl:¬A.length<B.length:=(by omega);clear a1 a2 Gu hlt2 c1 hcl k1 k2 hcb hA hB HC S8 hcm hk l1 l2;go_enter Tryz.func144,Tryz.ntmps144;(go_wp2_with fail);(with_reducible refine(s1 _).mono ?_);rintro e w1 ⟨rfl,hx1⟩;(go_wp2_with fail);(with_reducible refine(s2 _).mono ?_);rintro e w2 ⟨rfl,hx2⟩;(go_wp2_with fail);(with_reducible refine(t1 _).mono ?_);rintro e w3 ⟨rfl,hx3⟩;(go_wp2_with fail);(with_reducible refine(t2 _).mono ?_);rintro e w4 ⟨rfl,Ai⟩;go_wp2;go_ret;exact⟨Be hR2.out.symm,((hx1.trans hx2).trans hx3).trans Ai⟩
 ·have HR:=AmU (YG (hlt2 h));have hne:(s != t)=true:=(by rw [bne_iff_ne];omega);have hnl:¬s<t:=(by omega);clear a1 a2 Gu hlt2 t1 t2 c1 hcl k1 k2;go_enter Tryz.func144,Tryz.ntmps144;(go_wp2_with fail);(with_reducible refine(s1 _).mono ?_);rintro e w1 ⟨rfl,hx1⟩;(go_wp2_with fail);(with_reducible refine(s2 _).mono ?_);rintro e w2 ⟨rfl,hx2⟩;go_wp2;go_ret;exact⟨Be HR.out,hx1.trans hx2⟩
/-! ### Check -/
theorem Aal(s:ByteArray):∀(k i:Nat) (r:List UInt8),s.size-i=k→r.length<=(ByteArray.toList.loop s i r).length:=by
 intro k
 induction k with
 | zero=>intro i r h;unfold ByteArray.toList.loop;rw [if_neg (by omega)];simp
 | succ k ih=>
  intro i r h;unfold ByteArray.toList.loop
  split
  ·have:=ih (i+1) (s.get! i::r) (by omega);simp only [List.length_cons]at this;omega
  ·simp
theorem Yu{s:ByteArray}(h:0<s.size):¬s.toList = []:=by
 intro e;unfold ByteArray.toList ByteArray.toList.loop at e;rw [if_pos h]at e;have:=Aal s _ 1 [s.get! 0] rfl;rw [show 0+1=1 from rfl]at e;rw [e]at this;simp at this
open Classical in
theorem AaW(t:Bs)(mn:Bool):¬Xj t mn↔t = []∨200<t.length∨(∃m,t=48::m/\(m≠[]∨mn=true))∨∃j,∃h:j<t.length,¬Fj t[j]:=by
 constructor
 ·intro h;by_cases h1:t = []
  ·exact .inl h1
  ·by_cases h2:200<t.length
   ·exact .inr (.inl h2)
   ·by_cases h3:∃m,t=48::m/\(m≠[]∨mn=true)
    ·exact .inr (.inr (.inl h3))
    ·refine .inr (.inr (.inr (Classical.byContradiction fun h4=>h ⟨h1,by omega,fun m e=>?_,fun c hc=>?_⟩)))
     ·constructor
      ·exact Classical.byContradiction fun h5=>h3 ⟨m,e,.inl h5⟩
      ·cases mn
       ·rfl
       ·exact absurd ⟨m,e,.inr rfl⟩ h3
     ·obtain⟨j,hj,e⟩:=List.mem_iff_getElem.1 hc;exact Classical.byContradiction fun h5=>h4 ⟨j,hj,by rw [e];exact h5⟩
 ·rintro(h|h|⟨m,e,h⟩|⟨j,hj,h⟩) hc
  ·exact hc.ne h
  ·have:=hc.len;omega
  ·have:=hc.zero m e
   rcases h with h|h
   ·exact h this.1
   ·rw [this.2]at h;cases h
  ·exact h (hc.all _ (AmY hj))
def FD(b:Bool):Int:=if b then 0 else 2
theorem Kr:FD true=0:=rfl
theorem Np:FD false=2:=rfl
theorem AaJ(l:Bs)(ht:Lib.trimPrefix l [45] = [])(w:World):Calls Tryz.prog 219 #[S l] w (AA 2 w):=by
 have hc:=QY l [45];rw [ht]at hc;go_enter Tryz.func219,Tryz.ntmps219;(go_wp2_with fail);(with_reducible refine(hc _).mono ?_);rintro e w1 ⟨rfl,hx1⟩;go_wp2;go_ret;exact⟨rfl,hx1⟩
theorem AaK(l t:Bs)(ht:Lib.trimPrefix l [45]=t)(h2:200<t.length)(w:World):Calls Tryz.prog 219 #[S l] w (AA 2 w):=by
 have hc:=QY l [45];rw [ht]at hc;have hne:(t == [])=false:=(by rw [beq_eq_false_iff_ne];rintro rfl;simp at h2);have h2i:(200:Int)<(t.length:Int):=(by omega);clear ht;go_enter Tryz.func219,Tryz.ntmps219;(go_wp2_with fail);(with_reducible refine(hc _).mono ?_);rintro e w1 ⟨rfl,hx1⟩;go_wp2;go_ret;exact⟨rfl,hx1⟩
theorem nS(l m:Bs)(mn:Bool)(ht:Lib.trimPrefix l [45]=48::m)(hmn:[45].isPrefixOf l=mn)(h2:(48::m).length<=200)(h3:m≠[]∨mn=true)(w:World):Calls Tryz.prog 219 #[S l] w (AA 2 w):=by
 have hc:=QY l [45];rw [ht,hmn]at hc;obtain⟨s,hs⟩:=AmT (⟨(48::m).toArray⟩:ByteArray);have hsz:s.size=m.length+1:=(by rw [hs,Fp];rfl);obtain⟨c,Vj⟩:=AmT (48:UInt8);have hs0:0<s.size:=(by omega);have e0:s[0]=c:=(by rw [Vj];subst hs;rw [QM];rfl);have hce:((c.toNat:Int) == 48)=true:=(by rw [Vj];rfl);have hsm:(s.size:Int)<=200:=(by simp only [List.length_cons]at h2;omega);have Amw:¬(200:Int)<(s.size:Int):=(by omega);have hc:∀w,Calls Tryz.prog 277 #[S l,S [45]] w (CU (.tuple #[.string s,.bool mn]) w):=(by rw [hs];exact hc);have hne:=Yu hs0
 rcases h3 with h3|h3
 ·have h1:(1:Int)<(s.size:Int):=(by have:=List.length_pos_iff.2 h3;omega);clear ht hmn hs hsz Vj h3;go_enter Tryz.func219,Tryz.ntmps219;(go_wp2_with fail);(with_reducible refine(hc _).mono ?_);rintro e w1 ⟨rfl,hx1⟩;go_wp2;go_ret;exact⟨rfl,hx1⟩
 ·subst h3;clear ht hmn hs Vj
  rcases Nat.lt_or_ge 1 s.size with h1|h1
  all_goals
   go_enter Tryz.func219,Tryz.ntmps219;(go_wp2_with fail);(with_reducible refine(hc _).mono ?_);rintro e w1 ⟨rfl,hx1⟩;go_wp2;go_ret;exact⟨rfl,hx1⟩
theorem AaL(l t:Bs)(mn:Bool)(s:ByteArray)(hc:∀w,Calls Tryz.prog 277 #[S l,S [45]] w (CU (.tuple #[.string s,.bool mn]) w))(Jp:Hid (s.size=t.length))(hs0:0<s.size)(hsm:(s.size:Int)<=200)
  (HG:Hid (∀(j:Nat) (h:j<s.size) (h':j<t.length),s[j]=t[j])) (c:UInt8) (e0:s[0]=c) (b:Bool) (HB:Hid (b=true↔BA t)) (hf:((c.toNat:Int) == 48)=false) (w:World):Calls Tryz.prog 219 #[S l] w (AA (FD b) w):=by
 have hne:=Yu hs0
 have EY:s.toList.isEmpty=false:=by cases h:s.toList with|nil=>exact absurd h hne|cons _ _=>rfl
 have aJ:decide ((200:Int)<(s.size:Int))=false:=(by rw [decide_eq_false_iff_not];omega);go_enter Tryz.func219,Tryz.ntmps219;(go_wp2_with fail);(with_reducible refine(hc _).mono ?_);rintro e w1 ⟨rfl,hx1⟩;go_wp2;clear hc hne EY aJ hf e0
 go_loop [33] (fun i=>∃j:Nat,j<=s.size/\i=.int .i64 (j:Nat)/\BA (t.take j)) (fun i=>s.size-(intOf i).toNat)
 case atStart=>exact⟨0,by omega,rfl,by simp [mG]⟩
 case round=>
  obtain⟨j,hj,rfl,hall⟩:=hrel;by_cases hlt:j<s.size
  ·have NJ:j<t.length:=(by rw [←Jp.out];exact hlt);obtain⟨d,hd⟩:∃d,s[j]=d:=⟨_,rfl⟩;have KC:t[j]=d:=(by rw [←hd,HG.out j hlt NJ]);have HD:=AmU KC;clear KC;by_cases II:Fj d
   ·have d1:=II.1;have d2:=II.2;have c1:¬(d.toNat:Int)<48:=(by omega);have c2:¬(57:Int)<(d.toNat:Int):=(by omega);clear d1 d2;go_wp2
    go_round
    case rel=>exact⟨j+1,by omega,by go_num,by rw [Ana NJ,HD.out];exact OE.2 ⟨hall,by intro x hx;simp only [Ank]at hx;rw [hx];exact II⟩⟩
    case measure=>simp [intOf];omega
   ·have NA:b=false:=by
     cases b
     ·rfl
     ·exact absurd (HB.out.1 rfl _ (AmY NJ)) (by rw [HD.out];exact II)
    subst NA;rw [Np];by_cases c1:(d.toNat:Int)<48
    ·go_wp2;go_ret;exact⟨rfl,hx1⟩
    ·have c2:(57:Int)<(d.toNat:Int):=by refine Classical.byContradiction fun h=>II ⟨by omega,by omega⟩
     go_wp2;go_ret;exact⟨rfl,hx1⟩
  ·have FN:b=true:=HB.out.2 (by rw [Ang (by rw [←Jp.out];omega)]at hall;exact hall);subst FN;rw [Kr];have hle:(s.size:Int)<=(j:Int):=(by omega);go_wp2;go_ret;exact⟨rfl,hx1⟩
theorem AaM(l t:Bs)(mn:Bool)(s:ByteArray)(hc:∀w,Calls Tryz.prog 277 #[S l,S [45]] w (CU (.tuple #[.string s,.bool mn]) w))(Jp:Hid (s.size=t.length))(hs0:0<s.size)(hsm:(s.size:Int)<=200)
  (HG:Hid (∀(j:Nat) (h:j<s.size) (h':j<t.length),s[j]=t[j])) (c:UInt8) (e0:s[0]=c) (b:Bool) (HB:Hid (b=true↔BA t)) (hf:((c.toNat:Int) == 48)=true) (hs1:s.size=1) (hmn:mn=false) (w:World):Calls Tryz.prog 219 #[S l] w (AA (FD b) w):=by
 have hne:=Yu hs0
 have EY:s.toList.isEmpty=false:=by cases h:s.toList with|nil=>exact absurd h hne|cons _ _=>rfl
 have aJ:decide ((200:Int)<(s.size:Int))=false:=(by rw [decide_eq_false_iff_not];omega);have h1:decide ((1:Int)<(s.size:Int))=false:=(by rw [decide_eq_false_iff_not];omega);subst hmn;clear hs1;go_enter Tryz.func219,Tryz.ntmps219;(go_wp2_with fail);(with_reducible refine(hc _).mono ?_);rintro e w1 ⟨rfl,hx1⟩;go_wp2;clear hc hne EY aJ hf e0
 go_loop [33] (fun i=>∃j:Nat,j<=s.size/\i=.int .i64 (j:Nat)/\BA (t.take j)) (fun i=>s.size-(intOf i).toNat)
 case atStart=>exact⟨0,by omega,rfl,by simp [mG]⟩
 case round=>
  obtain⟨j,hj,rfl,hall⟩:=hrel;by_cases hlt:j<s.size
  ·have NJ:j<t.length:=(by rw [←Jp.out];exact hlt);obtain⟨d,hd⟩:∃d,s[j]=d:=⟨_,rfl⟩;have KC:t[j]=d:=(by rw [←hd,HG.out j hlt NJ]);have HD:=AmU KC;clear KC;by_cases II:Fj d
   ·have d1:=II.1;have d2:=II.2;have c1:¬(d.toNat:Int)<48:=(by omega);have c2:¬(57:Int)<(d.toNat:Int):=(by omega);clear d1 d2;go_wp2
    go_round
    case rel=>exact⟨j+1,by omega,by go_num,by rw [Ana NJ,HD.out];exact OE.2 ⟨hall,by intro x hx;simp only [Ank]at hx;rw [hx];exact II⟩⟩
    case measure=>simp [intOf];omega
   ·have NA:b=false:=by
     cases b
     ·rfl
     ·exact absurd (HB.out.1 rfl _ (AmY NJ)) (by rw [HD.out];exact II)
    subst NA;rw [Np];by_cases c1:(d.toNat:Int)<48
    ·go_wp2;go_ret;exact⟨rfl,hx1⟩
    ·have c2:(57:Int)<(d.toNat:Int):=by refine Classical.byContradiction fun h=>II ⟨by omega,by omega⟩
     go_wp2;go_ret;exact⟨rfl,hx1⟩
  ·have FN:b=true:=HB.out.2 (by rw [Ang (by rw [←Jp.out];omega)]at hall;exact hall);subst FN;rw [Kr];have hle:(s.size:Int)<=(j:Int):=(by omega);go_wp2;go_ret;exact⟨rfl,hx1⟩
theorem nR(l t:Bs)(mn:Bool)(ht:Lib.trimPrefix l [45]=t)(hmn:[45].isPrefixOf l=mn)(h0:t≠[])(h2:t.length<=200)(h3:∀m,t=48::m→m = []/\mn=false)
  (b:Bool) (hb:b=true↔BA t) (w:World):Calls Tryz.prog 219 #[S l] w (AA (FD b) w):=by
 have hc0:=QY l [45];rw [ht,hmn]at hc0;obtain⟨s,hs⟩:=AmT (⟨t.toArray⟩:ByteArray);have hsz:s.size=t.length:=(by rw [hs,Fp]);have hs0:0<s.size:=by have:=List.length_pos_iff.2 h0;omega
 have Ea:∀(j:Nat) (h:j<s.size) (h':j<t.length),s[j]=t[j]:=by intro j h h';subst hs;rw [QM];simp [List.getD,h']
 have hsm:(s.size:Int)<=200:=(by omega);have hc:∀w,Calls Tryz.prog 277 #[S l,S [45]] w (CU (.tuple #[.string s,.bool mn]) w):=(by rw [hs];exact hc0);clear hc0;by_cases h:s[0]=48
 ·match t,h0,Ea,h3,hsz,hb with
  | d::m,_,Ea,h3,hsz,hb=>have:=Ea 0 hs0 (by simp);rw [h]at this;simp only [List.getElem_cons_zero]at this;obtain⟨hm,hf⟩:=h3 m (by rw [this]);exact AaM l _ mn s hc (AmU hsz) hs0 hsm (AmU Ea) _ rfl b (AmU hb) (by rw [h];rfl) (by rw [hsz,hm];rfl) hf w
 ·refine AaL l _ mn s hc (AmU hsz) hs0 hsm (AmU Ea) _ rfl b (AmU hb) ?_ w;rw [beq_eq_false_iff_ne];intro e;exact h (UInt8.toNat_inj.1 (by simp;omega))
open Classical in
theorem SJ(l:Bs)(w:World):Calls Tryz.prog 219 #[S l] w (AA (if Kh l then 0 else 2) w):=by
 by_cases h:Xj (Lib.trimPrefix l [45]) ([45].isPrefixOf l)
 ·rw [if_pos ((nX l).2 h)];exact nR l _ _ rfl rfl h.ne h.len h.zero true ⟨fun _=>h.all,fun _=>rfl⟩ w
 ·rw [if_neg (fun k=>h ((nX l).1 k))];by_cases h1:Lib.trimPrefix l [45] = []
  ·exact AaJ l h1 w
  ·by_cases h2:200<(Lib.trimPrefix l [45]).length
   ·exact AaK l _ rfl h2 w
   ·rcases(AaW _ _).1 h with h3|h3|⟨m,e,h3⟩|⟨j,hj,h3⟩
    ·exact absurd h3 h1
    ·exact absurd h3 h2
    ·exact nS l m _ e rfl (by rw [←e];omega) h3 w
    ·by_cases h4:∀m,Lib.trimPrefix l [45]=48::m→m = []/\[45].isPrefixOf l=false
     ·exact nR l _ _ rfl rfl h1 (by omega) h4 false (Iff.intro (fun k=>by cases k) (fun k=>absurd (k _ (AmY hj)) h3)) w
     ·obtain⟨m,e⟩:∃m,Lib.trimPrefix l [45]=48::m/\(m≠[]∨[45].isPrefixOf l=true):=by
       refine Classical.byContradiction fun k=>h4 fun m e=>?_;constructor
       ·exact Classical.byContradiction fun q=>k ⟨m,e,.inl q⟩
       ·rcases hq:[45].isPrefixOf l with _|_
        ·rfl
        ·exact absurd ⟨m,e,.inr hq⟩ k
      exact nS l m _ e.1 rfl (by rw [←e.1];omega) e.2 w
section
theorem j9(n:Int)(d:Nat)(hd:0<d)(P1:-9000000000000000000<=n)(Dc:n<=9000000000000000000)(Et:d<=9000000000000000000)(w:World)(hw:An w) :
  Calls Tryz.prog 304 #[.int .i64 n,.int .i64 (d:Nat)] w (Bc (R (mkRat n d)) w):=by
 obtain⟨g,hg⟩:=AmT (Nat.gcd n.natAbs d);have hg0:0<g:=(by rw [hg];exact Nat.gcd_pos_of_pos_right _ hd);obtain⟨n',hn'⟩:=AmT (n/(g:Nat):Int);obtain⟨d',BW⟩:=AmT (d/g:Nat);have hR:R (mkRat n d)=EP n' d':=(by rw [XY n hd,←hg,←hn',←BW]);have hgn:((g:Nat):Int)∣n:=Int.natAbs_dvd_natAbs.1 (by rw [AmZ,hg];exact Nat.gcd_dvd_left ..);have e1:n.tdiv (g:Int)=n':=(by rw [hn',Int.tdiv_eq_ediv_of_dvd hgn]);have e2:(d:Int)/(g:Int)=(d':Int):=(by rw [BW];simp);have b1:n'.natAbs<=n.natAbs:=(by rw [hn'];exact SY _ _ hgn);have b2:d'<=d:=(by rw [BW];exact Nat.div_le_self _ _);have hgd:g<=d:=(by rw [hg];exact Nat.gcd_le_right _ hd);have ln:(I n').length<=20:=Nf (z:=n') (k:=19) (by omega) (by omega);have ld:(D d').length<=19:=Hd (by omega) (by omega);have HR:=AmU hR;have HG:=AmU hg;have H1:=AmU e1;have H2:=AmU e2;have i1:=fun W hW=>PE n' (by omega) (by omega) W hW;have i2:=fun W hW=>PE (d':Int) (by omega) (by omega) W hW;clear hR hg e1 e2 hn' BW hgn;go_enter Tryz.func304,Tryz.ntmps304;go_wp2
 go_loopw [5,6] (fun x y wr=>∃a b:Int,x=.int .i64 a/\y=.int .i64 b/\Int.gcd a b=g/\a.natAbs<=9000000000000000000/\b.natAbs<=9000000000000000000/\Aa w wr) (fun _ y _=>(intOf y).natAbs)
 case atStart=>exact⟨n,d,rfl,rfl,by rw [HG.out];rfl,by omega,by omega,Aa.refl _⟩
 case round=>
  obtain⟨a,b,rfl,rfl,Gt,ha,hb,Ac⟩:=hrel;by_cases hb0:b=0
  ·subst hb0;have Pq:a.natAbs=g:=(by rw [←Gt];simp);by_cases Mw:a<0
   case' pos=>obtain rfl:a = -(g:Int):=by omega
   case' neg=>obtain rfl:a=(g:Int):=by omega
   all_goals
    clear Pq Gt;have e1:=H1.out;have e2:=H2.out;have Mp:(0:Int)<(g:Int):=(by omega);have hgz:((g:Int) == 0)=false:=(by rw [beq_eq_false_iff_ne];omega);by_cases FS:d'=1
    ·subst FS;have HF:Hid (R (mkRat n d)=I n'):=AmU (by rw [HR.out];rfl);(go_wp2_with fail)
     go_quiet (fail)
     (go_wp2_with fail);(with_reducible refine(i1 _ (hw.ext (Ac.drewN _))).mono ?_);rintro e w3 ⟨rfl,hx3⟩;go_wp2;go_ret;exact⟨Im (by rw [HF.out]),(Ac.drewN _).trans hx3⟩
    ·have HF:Hid (R (mkRat n d)=I n'++47::D d'):=AmU (by rw [HR.out];exact if_neg FS);have vJ:((d':Int) == 1)=false:=(by rw [beq_eq_false_iff_ne];omega);rw [DU]at i2;clear FS;(go_wp2_with fail)
     go_quiet (fail)
     (go_wp2_with fail);(with_reducible refine(i1 _ (hw.ext (Ac.drewN _))).mono ?_);rintro e w3 ⟨rfl,hx3⟩;have hx3:=(Ac.drewN _).trans hx3;(go_wp2_with fail);(with_reducible refine(i2 _ (hw.ext hx3)).mono ?_);rintro e w4 ⟨rfl,Ai⟩;go_wp2;go_ret;exact⟨Im (by rw [HF.out];apply ByteArray.ext;simp),hx3.trans Ai⟩
  ·have hlt:=ek a hb0;have P0:(a.tmod b).natAbs<=9000000000000000000:=Ani (Nat.le_of_lt hlt) hb;have Eu:=rN a b;have RP:(b != 0)=true:=(by rw [bne_iff_ne];exact hb0);have CZ:(b == 0)=false:=(by rw [beq_eq_false_iff_ne];exact hb0);have LF:=AmU (Eu.trans Gt);clear Eu Gt;(go_wp2_with fail)
   go_quiet (fail)
   go_wp2;go_roundw
   case rel=>exact⟨b,a.tmod b,rfl,rfl,LF.out,hb,P0,Ac.drewN _⟩
   case measure=>exact hlt
theorem QN(l:Bs)(j:Nat)(h:j<(⟨l.toArray⟩:ByteArray).size):(⟨l.toArray⟩:ByteArray)[j]=l[j]'(by rw [Fp]at h;exact h):=by
 rw [ByteArray.getElem_eq_getElem_data];simp
attribute [local go_sem] QN
def AD(q:Rat):Int:=if q=0 then 0 else if q<0 then -1 else 1
theorem l4{q:Rat}(h:q<0):AD q = -1:=by unfold AD;rw [if_neg (by rintro rfl;exact Rat.lt_irrefl h),if_pos h]
theorem iS{q:Rat}(h:0<q):AD q=1:=by
 unfold AD;rw [if_neg (by rintro rfl;exact Rat.lt_irrefl h),if_neg (by grind)]
theorem D5{q:Rat}(h:q≠0):(R q == [48])=false:=by rw [beq_eq_false_iff_ne];exact fun e=>h (lM.1 e)
theorem Nl{q:Rat}(h:q≠1):(R q == [49])=false:=by rw [beq_eq_false_iff_ne];exact fun e=>h (ya.1 e)
theorem Nk{k:Nat}{q:Rat}(hk:0<k)(h:Sz k q):(R q).length<=2*k+2:=by
 have h1:=Nf hk h.num;have h2:=Hd hk h.den;rw [Ni];unfold EP
 split
 ·omega
 ·rw [List.length_append,List.length_cons];omega
theorem Qg(q:Rat)(w:World):Calls Tryz.prog 75 #[S (R q)] w (AA (AD q) w):=by
 by_cases h0:q=0
 ·subst h0;rw [Ki];go_enter Tryz.func75,Tryz.ntmps75;go_wp2;go_ret;exact⟨rfl,Aa.refl _⟩
 ·have h1:=D5 h0
  rcases XX q with⟨hn,e⟩|⟨hp,c,l,e,hd,hc⟩
  ·have HS:=AmU (l4 hn);obtain⟨c,hc⟩:=AmT (45:UInt8);have hl:0<(R q).length:=(by rw [e];simp);have hg:(R q)[0]'hl=c:=(by rw [List.getElem_of_eq e hl,hc];rfl);have hcb:((c.toNat:Int) == 45)=true:=(by rw [hc];rfl);clear e hc hn;go_enter Tryz.func75,Tryz.ntmps75;go_wp2;go_ret;exact⟨Be HS.out,Aa.refl _⟩
  ·have HS:=AmU (iS (q:=q) (by grind));have hl:0<(R q).length:=(by rw [e];simp);have hg:(R q)[0]'hl=c:=(by rw [List.getElem_of_eq e hl];rfl);have hcb:((c.toNat:Int) == 45)=false:=(by rw [beq_eq_false_iff_ne];intro k;exact hc (UInt8.toNat_inj.1 (by simp;omega)));clear e hc hp hd;go_enter Tryz.func75,Tryz.ntmps75;go_wp2;go_ret;exact⟨Be HS.out,Aa.refl _⟩
theorem Ai3(q:Rat){k:Nat}(hk:0<k)(hk2:k<=100000)(hz:Sz k q)(w:World):Calls Tryz.prog 303 #[S (R q)] w (Bc (R (-q)) w):=by
 have hlen:=Nk hk hz;by_cases h0:q=0
 ·subst h0;rw [Rat.neg_zero,Ki];go_enter Tryz.func303,Tryz.ntmps303;go_wp2;go_ret;exact⟨rfl,Aa.refl _⟩
 ·have h1:=D5 h0
  rcases XX q with⟨hn,e⟩|⟨hp,c,l,e,hd,hc⟩
  ·obtain⟨c,hc⟩:=AmT (45:UInt8);have hl:0<(R q).length:=(by rw [e];simp);have hg:(R q)[0]'hl=c:=(by rw [List.getElem_of_eq e hl,hc];rfl);have hcb:((c.toNat:Int) == 45)=true:=(by rw [hc];rfl);have HD:Hid ((R q).drop 1=R (-q)):=AmU (by rw [e];rfl);have FS:(1:Int)<=((R q).length:Int):=(by omega);clear e hc hn;go_enter Tryz.func303,Tryz.ntmps303;go_wp2;go_ret;exact⟨Im (by rw [←HD.out];first|exact YV _ _|(rw [Rk];simp)),Aa.refl _⟩
  ·have HD:Hid (R (-q)=45::R q):=AmU (by
    have:=lO (q:=-q) (by grind)
    rw [this,Rat.neg_neg])
   have hl:0<(R q).length:=(by rw [e];simp);have hg:(R q)[0]'hl=c:=(by rw [List.getElem_of_eq e hl];rfl);have hcb:((c.toNat:Int) == 45)=false:=(by rw [beq_eq_false_iff_ne];intro k;exact hc (UInt8.toNat_inj.1 (by simp;omega)));clear e hc hp hd;go_enter Tryz.func303,Tryz.ntmps303;go_wp2;go_ret;exact⟨Im (by rw [HD.out];apply ByteArray.ext;simp),Aa.refl _⟩
theorem Aiz(n:Int)(d:Nat)(hn:AB n)(hd:d<Big)(w:World):Calls Tryz.prog 302 #[S (I n),S (D d)] w (Bc (EP n d) w):=by
 have ln:=hn.len;have ld:(D d).length<=4000:=Hd (k:=Un) (by decide) hd;by_cases h:d=1
 ·subst h;have HF:Hid (EP n 1=I n):=AmU (if_pos rfl);rw [TD];go_enter Tryz.func302,Tryz.ntmps302;go_wp2;go_ret;exact⟨Im (by rw [HF.out]),Aa.refl _⟩
 ·have HF:Hid (EP n d=I n++47::D d):=AmU (if_neg h);have hb:(D d == [49])=false:=(by rw [beq_eq_false_iff_ne,←TD];exact fun e=>h (TB e));clear h;go_enter Tryz.func302,Tryz.ntmps302;go_wp2;go_ret;exact⟨Im (by rw [HF.out];apply ByteArray.ext;simp),Aa.refl _⟩
def Tj(q:Rat):Value:=.tuple #[S (I q.num),S (D q.den)]
theorem Ai4(q:Rat){k:Nat}(hk:0<k)(hk2:k<=100000)(hz:Sz k q)(w:World)(hw:An w):Calls Tryz.prog 143 #[S (R q)] w (CU (Tj q) w):=by
 have hlen:=Nk hk hz;have hc:=cut_c (R q) [47] w hw (by omega);rw [TY]at hc;by_cases h:q.den=1
 ·rw [if_pos h]at hc;have HP:Hid (Tj q=.tuple #[S (I q.num),S [49]]):=AmU (by unfold Tj;rw [h,TD]);clear h;go_enter Tryz.func143,Tryz.ntmps143;(go_wp2_with fail);(with_reducible refine hc.mono ?_);rintro e w1 ⟨rfl,hx1⟩;go_wp2;go_ret2;exact⟨Io HP.out,hx1⟩
 ·rw [if_neg h]at hc;have HP:Hid (Tj q=.tuple #[S (I q.num),S (D q.den)]):=AmU rfl;clear h;go_enter Tryz.func143,Tryz.ntmps143;(go_wp2_with fail);(with_reducible refine hc.mono ?_);rintro e w1 ⟨rfl,hx1⟩;go_wp2;go_ret2;exact⟨Io HP.out,hx1⟩
end
theorem WO(n m:Int)(hm:0<m)(hn:AB n)(hd:AB m)(w:World):Calls Tryz.prog 302 #[S (I n),S (I m)] w (Bc (EP n m.toNat) w):=by
 obtain⟨d,rfl⟩:=Int.eq_ofNat_of_zero_le (Int.le_of_lt hm);rw [DU];exact Aiz n d hn hd w
theorem zO(x y:Int)(hx:AB x)(hy:AB y)(w:World)(hw:An w):Calls Tryz.prog 220 #[S (I x),S (I y)] w (Bc (I (Int.gcd x y:Nat)) w):=by
 rw [DU];exact Afr x y hx hy w hw
theorem WP(n m:Int)(hn:AB n)(hm:AB m)(hm0:0<m)(w:World)(hw:An w):Calls Tryz.prog 305 #[S (I n),S (I m)] w (Bc (R (mkRat n m.toNat)) w):=by
 have hs:=PD m;rw [iT hm0]at hs;have hg:=zO n m hn hm;obtain⟨g,hgd⟩:=AmT (Int.gcd n m);have hR:=XY n (d:=m.toNat) (by omega);have e0:Nat.gcd n.natAbs m.toNat=g:=(by rw [hgd];unfold Int.gcd;rw [show m.natAbs=m.toNat by omega]);rw [e0]at hR;have hg0:0<g:=(by rw [←e0];exact Nat.gcd_pos_of_pos_right _ (by omega));have hgb:g<=m.toNat:=(by rw [←e0];exact Nat.gcd_le_right _ (by omega));have hgn:((g:Nat):Int)∣n:=Int.natAbs_dvd_natAbs.1 (by rw [AmZ,←e0];exact Nat.gcd_dvd_left ..);have Vt:((g:Nat):Int)∣m:=Int.natAbs_dvd_natAbs.1 (by rw [AmZ,←e0,show m.natAbs=m.toNat by omega];exact Nat.gcd_dvd_right ..);rw [←hgd]at hg;have bg:AB (g:Int):=(by unfold AB at hm ⊢;rw [AmZ];omega);by_cases h1:g=1
 ·have hj:=WO n m hm0 hn hm;have HR:Hid (R (mkRat n m.toNat)=EP n m.toNat):=AmU (by rw [hR,h1];simp);subst h1;rw [show I ((1:Nat):Int) = [49] from Q8]at hg;clear hR e0 hgd hgn Vt;go_enter Tryz.func305,Tryz.ntmps305;(go_wp2_with fail);(with_reducible refine(hs _).mono ?_);rintro e w1 ⟨rfl,hx⟩;(go_wp2_with fail);(with_reducible refine(hg _ (hw.ext hx)).mono ?_);rintro e w2 ⟨rfl,hx2⟩;replace hx:=hx.trans hx2;(go_wp2_with fail);(with_reducible refine(hj _).mono ?_);rintro e w3 ⟨rfl,hx3⟩;replace hx:=hx.trans hx3;go_wp2;go_ret;exact⟨Im (by rw [HR.out]),hx⟩
 ·have bC:(I (g:Int) == [49])=false:=lH (by omega);have d1:=zN n g hn bg (by omega);have d2:=zN m g hm bg (by omega);have bn:AB (n/(g:Int)):=Nat.lt_of_le_of_lt (SY _ _ hgn) hn;have bm:AB (m/(g:Int)):=Nat.lt_of_le_of_lt (SY _ _ Vt) hm
  have hmg:0<m/(g:Int):=by obtain⟨k,hk⟩:=Vt;rw [hk,Int.mul_ediv_cancel_left _ (by omega)];rw [hk]at hm0;exact Int.pos_of_mul_pos_right hm0 (by omega)
  have hj:=WO (n/(g:Int)) (m/(g:Int)) hmg bn bm
  have HR:Hid (R (mkRat n m.toNat)=EP (n/(g:Int)) (m/(g:Int)).toNat):=AmU (by
   rw [hR];obtain⟨d,rfl⟩:=Int.eq_ofNat_of_zero_le (Int.le_of_lt hm0)
   congr 1)
  clear hR e0 hgd hgn Vt h1;unfold Ra at d1 d2;go_enter Tryz.func305,Tryz.ntmps305;(go_wp2_with fail);(with_reducible refine(hs _).mono ?_);rintro e w1 ⟨rfl,hx⟩;(go_wp2_with fail);(with_reducible refine(hg _ (hw.ext hx)).mono ?_);rintro e w2 ⟨rfl,hx2⟩;replace hx:=hx.trans hx2;(go_wp2_with fail);(with_reducible refine(d1 _ (hw.ext hx)).mono ?_);rintro e w3 ⟨rfl,hx3⟩;replace hx:=hx.trans hx3;(go_wp2_with fail);(with_reducible refine(d2 _ (hw.ext hx)).mono ?_);rintro e w4 ⟨rfl,Ai⟩;replace hx:=hx.trans Ai;(go_wp2_with fail);(with_reducible refine(hj _).mono ?_);rintro e w5 ⟨rfl,Ad⟩;replace hx:=hx.trans Ad;go_wp2;go_ret;exact⟨Im (by rw [HR.out]),hx⟩
end Go.Proofs.YtbejphgbbpplbaaGreatDoor
