/- Z14: IntA IntD IntG. -/
import Derived.Test.YtdaefncphfeaeaaGreatDoorZ13
set_option maxRecDepth 100000
set_option maxHeartbeats 4000000
namespace Go.Proofs.YtdaefncphfeaeaaGreatDoor
open Go.RowKit Kl
def AdR(s:Bool)(n:Nat)(w:World)(e:Ending)(w':World):Prop:=∃A c,e=.returned (.agg #[.bool s,.slice A (pc 1000000000 n).length c])/\Cc w' A c (pc 1000000000 n)/\Aa w w'
theorem Lk(z:Int)(hz:Av z)(s:Bool)(hs:s=decide (z<0))(w:World):Calls Tryz.prog 143 #[S (I z)] w (AdR s z.natAbs w):=by
 subst hs;refine(nE z hz w).mono ?_;rintro e w' ⟨v,rfl,⟨A,c,rfl,h⟩,hx⟩;exact⟨A,c,rfl,h,hx⟩
theorem Cc.rd{w:World}{A:Option Addr}{c:Nat}{l:List Nat}(h:Cc w A c l):Rd w (.slice A l.length c) l:=⟨A,c,rfl,h⟩
theorem Mx{a b:Nat}(h:a<=b):(pc 1000000000 a).length<=(pc 1000000000 b).length:=Vq h
structure PS(W:World)(b:Nat)(sx sy:Bool)(v u:Value):Prop where
 k1:W.cell? ⟨b,0,none⟩=some (.bool sx)
 k2:W.cell? ⟨b,1,none⟩=some v
 k3:W.cell? ⟨b+1,0,none⟩=some (.bool sy)
 k4:W.cell? ⟨b+1,1,none⟩=some u
theorem PS.ext{W W':World}{b:Nat}{sx sy:Bool}{v u:Value}(h:PS W b sx sy v u)(hx:Aa W W'):PS W' b sx sy v u:=
 ⟨hx.cellS h.k1,hx.cellS h.k2,hx.cellS h.k3,hx.cellS h.k4⟩
theorem An{W:World}{b o:Nat}{cs:Array Value}{t:TypeId}(h:W.heap[b]?=some (.cells cs t)):W.frozen? ⟨b,o,none⟩=false:=by unfold World.frozen?;simp [h]
structure Kept(w5 V:World)(b:Nat):Prop where
 ext:∀w0,Aa w0 w5→w0.heap.size<=b→Aa w0 V
 rd:∀A c l,Cc w5 A c l→Cc V A c l
theorem Kept.refl(w:World)(b:Nat):Kept w w b:=⟨fun _ h _=>h,fun _ _ _ h=>h⟩
theorem Kept.set{w5 V:World}{b k o:Nat}(h:Kept w5 V b)(hk:b<=k){v u:Value}(hv:V.cell? ⟨k,o,none⟩=some v)(hn:∀n,v≠.int .u64 n):Kept w5 (V.setCell ⟨k,o,none⟩ u) b:=
 ⟨fun w0 h0 hb=>(h.ext w0 h0 hb).setCell (by show w0.heap.size<=k;omega) _,fun A c l hr=>(h.rd A c l hr).setCell hv hn⟩
theorem Aoz{w:World}{b:Nat}{sx sy:Bool}{A3 A4:Option Addr}{n3 n4 c3 c4:Nat}(h:PS w b sx sy (.slice A3 n3 c3) (.slice A4 n4 c4)) :
  ∃V,V=(((w.setCell ⟨b,0,none⟩ (.bool sy)).setCell ⟨b,1,none⟩ (.slice A4 n4 c4)).setCell ⟨b+1,0,none⟩ (.bool sx)).setCell ⟨b+1,1,none⟩ (.slice A3 n3 c3)/\
   PS V b sy sx (.slice A4 n4 c4) (.slice A3 n3 c3)/\Kept w V b:=by
 obtain⟨k1,k2,k3,k4⟩:=h;have e1:=World.cell?_setCell_same w _ (.bool sy) k1;have e2:(w.setCell ⟨b,0,none⟩ (.bool sy)).cell? ⟨b,1,none⟩=_:=(World.cell?_setCell_other _ _ _ _ (by simp)).trans k2;have e3:(w.setCell ⟨b,0,none⟩ (.bool sy)).cell? ⟨b+1,0,none⟩=_:=(World.cell?_setCell_other _ _ _ _ (by simp)).trans k3;have e4:(w.setCell ⟨b,0,none⟩ (.bool sy)).cell? ⟨b+1,1,none⟩=_:=(World.cell?_setCell_other _ _ _ _ (by simp)).trans k4;have z1:=(Kept.refl w b).set (Asf b) (u:=.bool sy) k1 (by simp);have z2:=z1.set (Asf b) (u:=.slice A4 n4 c4) e2 (by simp);have f1:=(World.cell?_setCell_other (w.setCell ⟨b,0,none⟩ (.bool sy)) ⟨b,1,none⟩ ⟨b,0,none⟩ (.slice A4 n4 c4) (by simp)).trans e1;have f2:=World.cell?_setCell_same (w.setCell ⟨b,0,none⟩ (.bool sy)) _ (.slice A4 n4 c4) e2;have f3:=(World.cell?_setCell_other (w.setCell ⟨b,0,none⟩ (.bool sy)) ⟨b,1,none⟩ ⟨b+1,0,none⟩ (.slice A4 n4 c4) (by simp)).trans e3;have f4:=(World.cell?_setCell_other (w.setCell ⟨b,0,none⟩ (.bool sy)) ⟨b,1,none⟩ ⟨b+1,1,none⟩ (.slice A4 n4 c4) (by simp)).trans e4;generalize (w.setCell ⟨b,0,none⟩ (.bool sy)).setCell ⟨b,1,none⟩ (.slice A4 n4 c4)=W at *;have z3:=z2.set (show b<=b+1 by omega) (u:=.bool sx) f3 (by simp);have g1:=(World.cell?_setCell_other W ⟨b+1,0,none⟩ ⟨b,0,none⟩ (.bool sx) (by simp)).trans f1;have g2:=(World.cell?_setCell_other W ⟨b+1,0,none⟩ ⟨b,1,none⟩ (.bool sx) (by simp)).trans f2;have g3:=World.cell?_setCell_same W _ (.bool sx) f3;have g4:=(World.cell?_setCell_other W ⟨b+1,0,none⟩ ⟨b+1,1,none⟩ (.bool sx) (by simp)).trans f4;generalize W.setCell ⟨b+1,0,none⟩ (.bool sx)=X at *;exact⟨_,rfl,⟨(World.cell?_setCell_other X _ _ _ (by simp)).trans g1,(World.cell?_setCell_other X _ _ _ (by simp)).trans g2,(World.cell?_setCell_other X _ _ _ (by simp)).trans g3,World.cell?_setCell_same X _ _ g4⟩,z3.set (by omega) g4 (by simp)⟩
theorem Aeb{x y:Int}(h:decide (x<0)=decide (y<0)):(if decide (x<0)=true then -((x.natAbs+y.natAbs:Nat):Int)else ((x.natAbs+y.natAbs:Nat):Int))=x+y:=by
 by_cases hx:x<0<;>by_cases hy:y<0<;>simp [hx,hy]at h ⊢<;>omega
theorem sK{x y:Int}(h:decide (x<0)≠decide (y<0))(hl:y.natAbs<=x.natAbs):(if decide (x<0)=true then -((x.natAbs-y.natAbs:Nat):Int)else ((x.natAbs-y.natAbs:Nat):Int))=x+y:=by
 by_cases hx:x<0<;>by_cases hy:y<0<;>simp [hx,hy]at h ⊢<;>omega
theorem AjR(x y:Int)(hx:(I x).length<=18)(hy:(I y).length<=18)(w:World)(hw:Ai w) :
  Calls Tryz.prog 68 #[S (I x),S (I y)] w (A0 (I (x+y)) w):=by
 have q1:=Oj x;have q2:=Oj y;rw [M4 hx]at q1;rw [M4 hy]at q2;have b1:=Ko hx;have b2:=Ko hy;have e18:(10:Nat)^18=1000000000000000000:=(by decide);rw [e18]at b1 b2;have hwr:IntKind.i64.wrap (x+y)=x+y:=Asm _ (by omega);have ho:=fun W hW=>P7 (x+y) (by omega) (by omega) W hW;clear hx hy b1 b2 e18;go_enter Tryz.func68,Tryz.ntmps68;(go_wp2_with fail);(with_reducible refine(q1 _).mono ?_);rintro e w1 ⟨rfl,hx1⟩;(go_wp2_with fail);(with_reducible refine(q2 _).mono ?_);rintro e w2 ⟨rfl,hx2⟩;have BB:=hx1.trans hx2;(go_wp2_with fail);(with_reducible refine(ho _ (hw.ext BB)).mono ?_);rintro e w3 ⟨rfl,hx3⟩;go_wp2;go_ret;exact⟨rfl,BB.trans hx3⟩
theorem AjQ(x y:Int)(hx:Av x)(hy:Av y)(hn:¬((I x).length<=18/\(I y).length<=18))(w:World)(hw:Ai w) :
  Calls Tryz.prog 68 #[S (I x),S (I y)] w (A0 (I (x+y)) w):=by
 have q1:=Oj x;have q2:=Oj y;have lx:=hx.pc;have ly:=hy.pc;obtain⟨sx,Cf⟩:=AcG (decide (x<0));obtain⟨sy,Es⟩:=AcG (decide (y<0));have o1:=Lk x hx sx Cf;have o2:=Lk y hy sy Es;have m1:=@Aeb x y;have m2:=@sK x y;have m3:=@sK y x;rw [←Cf,←Es]at m1 m2 m3;rw [Int.add_comm y x]at m3;clear hx hy Cf Es;by_cases h1:(I x).length<=18
 case' pos=>rw [M4 h1]at q1;rw [RF fun h=>hn ⟨h1,h⟩]at q2;clear h1 hn;have M1:=Asb m1;have M2:=Asb m2;have M3:=Asb m3;clear m1 m2 m3;go_enter Tryz.func68,Tryz.ntmps68;(go_wp2_with fail);(with_reducible refine(q1 _).mono ?_);rintro e w1 ⟨rfl,hx1⟩;(go_wp2_with fail);(with_reducible refine(q2 _).mono ?_);rintro e w2 ⟨rfl,hx2⟩;have hx:=hx1.trans hx2;clear hx1 hx2;(go_wp2_with fail)
 case' neg=>rw [RF h1]at q1;clear h1 hn;have M1:=Asb m1;have M2:=Asb m2;have M3:=Asb m3;clear m1 m2 m3;go_enter Tryz.func68,Tryz.ntmps68;(go_wp2_with fail);(with_reducible refine(q1 _).mono ?_);rintro e w2 ⟨rfl,hx⟩;(go_wp2_with fail)
 all_goals
  clear q1 q2;(with_reducible refine(o1 _).mono ?_);rintro e w3 ⟨A3,c3,rfl,hv3,hx3⟩;(go_wp2_with fail);(with_reducible refine(o2 _).mono ?_);rintro e w4 ⟨A4,c4,rfl,hv4,Af⟩;have hx:=(hx.trans hx3).trans Af;have hv3:=hv3.ext Af;clear o1 o2 hx3 Af
  go_upto_region 7 with fail
  obtain⟨W,hW,hE,hb1,hb2⟩:=LJ w4 (.bool sx) (.slice A3 (pc 1000000000 x.natAbs).length c3) (.bool sy) (.slice A4 (pc 1000000000 y.natAbs).length c4) 201 201;rw [←hW];have hv3:=hv3.ext hE;have hv4:=hv4.ext hE;have Bz:=hx.trans hE;have k1:W.cell? ⟨w4.heap.size,0,none⟩=some (.bool sx):=Ab hb1 rfl;have k2:W.cell? ⟨w4.heap.size,1,none⟩=some (.slice A3 (pc 1000000000 x.natAbs).length c3):=Ab hb1 rfl;have k3:W.cell? ⟨w4.heap.size+1,0,none⟩=some (.bool sy):=Ab hb2 rfl;have k4:W.cell? ⟨w4.heap.size+1,1,none⟩=some (.slice A4 (pc 1000000000 y.natAbs).length c4):=Ab hb2 rfl;have Mp:w.heap.size<=w4.heap.size:=hx.size;clear hW hE hx;by_cases hs:sx=sy
  ·subst hs;have hm:=M1.out rfl;have HM:=Asb hm;clear hm M1 M2 M3;(go_wp2_with fail);have ht:=nO (pc 1000000000 x.natAbs) (pc 1000000000 y.natAbs) _ _ W.drew (hv3.ext (Aa.refl W).drew).rd (hv4.ext (Aa.refl W).drew).rd (by omega) (by omega) (AX b9 _) (AX b9 _);rw [AM b9,AM b9]at ht;have hc:=fun W2 v2 (h:Aa W.drew W2) (h2:Rd W2 v2 _)=>Gj sx (x.natAbs+y.natAbs) v2 W2 (hw.ext (Bz.drew.trans h)) h2;rw [MY,HM.out]at hc
   go_region_held3 (fun w'=>w'.cell? ⟨w4.heap.size,0,none⟩=some (.bool sx)/\w'.cell? ⟨w4.heap.size,1,none⟩=some (.slice A3 (pc 1000000000 x.natAbs).length c3)/\w'.cell? ⟨w4.heap.size+1,0,none⟩=some (.bool sx)/\w'.cell? ⟨w4.heap.size+1,1,none⟩=some (.slice A4 (pc 1000000000 y.natAbs).length c4))
    (first|go_keep|exact⟨Ae.cellS k1,Ae.cellS k2,Ae.cellS k3,Ae.cellS k4⟩|exact⟨(Ae.trans Ao).cellS k1,(Ae.trans Ao).cellS k2,(Ae.trans Ao).cellS k3,(Ae.trans Ao).cellS k4⟩)
    (first|((with_reducible refine ht.mono ?_);rintro e w5 ⟨v5,rfl,⟨A5,c5,rfl,AV⟩,Ae⟩)|((with_reducible refine(hc _ _ Ae AV.rd).mono ?_);rintro e w6 ⟨rfl,Ao⟩))
   go_wp2;go_ret;exact⟨rfl,(Bz.drew.trans Ae).trans Ao⟩
  ·have Cp:(sx == sy)=false:=(by rw [beq_eq_false_iff_ne];exact hs);have cG:=Asb (M2.out hs);have cH:=Asb (M3.out (Ne.symm hs));clear hs M1 M2 M3;have ho:=Rv (pc 1000000000 x.natAbs) (pc 1000000000 y.natAbs) _ _ W hv3.rd hv4.rd (AX b9 _) (AX b9 _) (FY b9 _) (FY b9 _);rw [AM b9,AM b9]at ho;by_cases hl:x.natAbs<y.natAbs
   ·rw [MZ hl]at ho;have HM:=Asb (cH.out (Nat.le_of_lt hl));clear cG cH;(go_wp2_with fail);(with_reducible refine ho.mono ?_);rintro e w5 ⟨rfl,Ae⟩;have g1:=Ae.cellS k1;have g2:=Ae.cellS k2;have g3:=Ae.cellS k3;have g4:=Ae.cellS k4;have j1:=fun o=>An (o:=o) ((Ae.block _ (Asd hb1)).trans hb1);have j2:=fun o=>An (o:=o) ((Ae.block _ (Asd hb2)).trans hb2);(go_wp2_with fail);obtain⟨V,hV,hB,hK⟩:=Aoz (PS.mk g1 g2 g3 g4);rw [←hV];have NQ:Aa w V:=hK.ext w (Bz.trans Ae) Mp;have hv3:=hK.rd _ _ _ (hv3.ext Ae);have hv4:=hK.rd _ _ _ (hv4.ext Ae);have g1:=hB.k1;have g2:=hB.k2;have g3:=hB.k3;have g4:=hB.k4;clear hV j1 j2 hB hK Ae Bz k1 k2 k3 k4 hb1 hb2 ho;have ht:=UW (pc 1000000000 y.natAbs) (pc 1000000000 x.natAbs) _ _ V.drew (hv4.ext (Aa.refl V).drew).rd (hv3.ext (Aa.refl V).drew).rd (by omega) (AX b9 _) (AX b9 _) (Mx (Nat.le_of_lt hl)) (by rw [AM b9,AM b9];exact Nat.le_of_lt hl);rw [AM b9,AM b9]at ht;have hc:=fun W2 v2 (h:Aa V.drew W2) (h2:Rd W2 v2 _)=>Gj sy (y.natAbs-x.natAbs) v2 W2 (hw.ext (NQ.drew.trans h)) h2;rw [MY,HM.out]at hc
    go_region_held3 (fun w'=>w'.cell? ⟨w4.heap.size,0,none⟩=some (.bool sy)/\w'.cell? ⟨w4.heap.size,1,none⟩=some (.slice A4 (pc 1000000000 y.natAbs).length c4)/\w'.cell? ⟨w4.heap.size+1,0,none⟩=some (.bool sx)/\w'.cell? ⟨w4.heap.size+1,1,none⟩=some (.slice A3 (pc 1000000000 x.natAbs).length c3))
     (first|go_keep|exact⟨Ae.cellS g1,Ae.cellS g2,Ae.cellS g3,Ae.cellS g4⟩|exact⟨(Ae.trans Ao).cellS g1,(Ae.trans Ao).cellS g2,(Ae.trans Ao).cellS g3,(Ae.trans Ao).cellS g4⟩)
     (first|((with_reducible refine ht.mono ?_);rintro e w5 ⟨v5,rfl,⟨A5,c5,rfl,AV⟩,Ae⟩)|((with_reducible refine(hc _ _ Ae AV.rd).mono ?_);rintro e w6 ⟨rfl,Ao⟩))
    go_wp2;go_ret;exact⟨rfl,(NQ.drew.trans Ae).trans Ao⟩
   ·have hge:y.natAbs<=x.natAbs:=Nat.le_of_not_lt hl
    obtain⟨s,hs,hs0⟩:∃s:Int,s=EO x.natAbs y.natAbs/\¬s<0:=by
     rcases Nat.lt_or_eq_of_le hge with h|h
     ·exact⟨_,rfl,by rw [LK h];omega⟩
     ·exact⟨_,rfl,by rw [Qt h.symm];omega⟩
    rw [←hs]at ho;have HM:=Asb (cG.out hge);clear cG cH hs hl;(go_wp2_with fail);(with_reducible refine ho.mono ?_);rintro e w5 ⟨rfl,Ae⟩;have g1:=Ae.cellS k1;have g2:=Ae.cellS k2;have g3:=Ae.cellS k3;have g4:=Ae.cellS k4;(go_wp2_with fail);have NQ:=Bz.trans Ae;have hv3:=hv3.ext Ae;have hv4:=hv4.ext Ae;clear Ae Bz k1 k2 k3 k4 hb1 hb2 ho;have ht:=UW (pc 1000000000 x.natAbs) (pc 1000000000 y.natAbs) _ _ w5.drew (hv3.ext (Aa.refl w5).drew).rd (hv4.ext (Aa.refl w5).drew).rd (by omega) (AX b9 _) (AX b9 _) (Mx hge) (by rw [AM b9,AM b9];exact hge);rw [AM b9,AM b9]at ht;have hc:=fun W2 v2 (h:Aa w5.drew W2) (h2:Rd W2 v2 _)=>Gj sx (x.natAbs-y.natAbs) v2 W2 (hw.ext (NQ.drew.trans h)) h2;rw [MY,HM.out]at hc
    go_region_held3 (fun w'=>w'.cell? ⟨w4.heap.size,0,none⟩=some (.bool sx)/\w'.cell? ⟨w4.heap.size,1,none⟩=some (.slice A3 (pc 1000000000 x.natAbs).length c3)/\w'.cell? ⟨w4.heap.size+1,0,none⟩=some (.bool sy)/\w'.cell? ⟨w4.heap.size+1,1,none⟩=some (.slice A4 (pc 1000000000 y.natAbs).length c4))
     (first|go_keep|exact⟨Aj.cellS g1,Aj.cellS g2,Aj.cellS g3,Aj.cellS g4⟩|exact⟨(Aj.trans Ao).cellS g1,(Aj.trans Ao).cellS g2,(Aj.trans Ao).cellS g3,(Aj.trans Ao).cellS g4⟩)
     (first|((with_reducible refine ht.mono ?_);rintro e w7 ⟨v5,rfl,⟨A5,c5,rfl,AV⟩,Aj⟩)|((with_reducible refine(hc _ _ Aj AV.rd).mono ?_);rintro e w6 ⟨rfl,Ao⟩))
    go_wp2;go_ret;exact⟨rfl,(NQ.drew.trans Aj).trans Ao⟩
theorem NS(x y:Int)(hx:Av x)(hy:Av y)(w:World)(hw:Ai w):Calls Tryz.prog 68 #[S (I x),S (I y)] w (A0 (I (x+y)) w):=by
 by_cases h:(I x).length<=18/\(I y).length<=18
 ·exact AjR x y h.1 h.2 w hw
 ·exact AjQ x y hx hy h w hw
theorem ud(x y:Int)(q r:Int)(hy:y≠0)(h:r+y*q=x)(h0:0<=r)(h1:r<y.natAbs):x/y=q/\x%y=r:=by
 rcases Int.lt_or_gt_of_ne hy with hy|hy
 ·exact(Int.ediv_emod_unique' hy).2 ⟨h,h0,by omega⟩
 ·exact(Int.ediv_emod_unique hy).2 ⟨h,h0,by omega⟩
theorem AfO(x y:Int)(hy:y≠0) :
  (x<0→0<x.natAbs%y.natAbs→(if (decide (x<0) != decide (y<0))=true then -((x.natAbs/y.natAbs+1:Nat):Int)else ((x.natAbs/y.natAbs+1:Nat):Int))=x/y/\((y.natAbs-x.natAbs%y.natAbs:Nat):Int)=x%y)/\
  (¬(x<0/\0<x.natAbs%y.natAbs)→(if (decide (x<0) != decide (y<0))=true then -((x.natAbs/y.natAbs:Nat):Int)else ((x.natAbs/y.natAbs:Nat):Int))=x/y/\((x.natAbs%y.natAbs:Nat):Int)=x%y):=by
 have hm:=Nat.div_add_mod x.natAbs y.natAbs;have hl:=Nat.mod_lt x.natAbs (show 0<y.natAbs by omega);obtain⟨q,hq⟩:=AcG (x.natAbs/y.natAbs);obtain⟨m,hmm⟩:=AcG (x.natAbs%y.natAbs);rw [←hq,←hmm]at hm ⊢;rw [←hmm]at hl;obtain⟨a,ha⟩:=Int.eq_nat_or_neg x;obtain⟨b,hb⟩:=Int.eq_nat_or_neg y;have e:((y.natAbs*q+m:Nat):Int)=(x.natAbs:Int):=(by rw [hm]);rw [Int.natCast_add,Int.natCast_mul]at e;constructor
 ·intro h1 h2;refine(fun h:_/\_=>⟨h.1.symm,h.2.symm⟩) (ud x y _ _ hy ?_ (by omega) (by omega));by_cases Ba:y<0
  ·simp only [h1,Ba,decide_true,bne_self_eq_false,Bool.false_eq_true,if_false];have:(y.natAbs:Int) = -y:=(by omega);rw [this]at e;rw [Int.natCast_add,Int.mul_add];rw [Int.neg_mul]at e;generalize y*(q:Int)=P at *;omega
  ·rw [decide_eq_true h1,decide_eq_false Ba,if_pos (by decide)];have:(y.natAbs:Int)=y:=(by omega);rw [this]at e;rw [Int.natCast_add,Int.neg_add,Int.mul_add,Int.mul_neg];generalize y*(q:Int)=P at *;omega
 ·intro h1;refine(fun h:_/\_=>⟨h.1.symm,h.2.symm⟩) (ud x y _ _ hy ?_ (by omega) (by omega));by_cases hx0:x<0<;>by_cases Ba:y<0
  ·simp only [hx0,Ba,decide_true,bne_self_eq_false,Bool.false_eq_true,if_false];have:(y.natAbs:Int) = -y:=(by omega);rw [this,Int.neg_mul]at e;generalize y*(q:Int)=P at *;omega
  ·rw [decide_eq_true hx0,decide_eq_false Ba,if_pos (by decide)];have:(y.natAbs:Int)=y:=(by omega);rw [this]at e;rw [Int.mul_neg];generalize y*(q:Int)=P at *;omega
  ·rw [decide_eq_false hx0,decide_eq_true Ba,if_pos (by decide)];have:(y.natAbs:Int) = -y:=(by omega);rw [this,Int.neg_mul]at e;rw [Int.mul_neg];generalize y*(q:Int)=P at *;omega
  ·simp only [hx0,Ba,bne_self_eq_false,Bool.false_eq_true,if_false];have:(y.natAbs:Int)=y:=(by omega);rw [this]at e;generalize y*(q:Int)=P at *;omega
theorem Wl(n:Nat):FB false n=I (n:Int):=by rw [MY];rfl
def OF(x y:Int):Value:=.tuple #[S (I (x/y)),S (I (x%y)),.int .i64 0]
theorem AfT(x y:Int)(q m:Nat)(hq:q=x.natAbs/y.natAbs)(hm:m=x.natAbs%y.natAbs)(Eu:x<0)(hm0:0<m)(hx:Av x)(hy:Av y)(Ba:y≠0)(E1:FB (decide (x<0) != decide (y<0)) (q+1)=I (x/y))(E2:FB false (y.natAbs-m)=I (x%y))(w:World)(hw:Ai w) :
  Calls Tryz.prog 149 #[S (I x),S (I y)] w (Bg (OF x y) w):=by
 have lx:=hx.pc;have ly:=hy.pc;have uh:=MJ Ba;obtain⟨sx,Cf⟩:=AcG (decide (x<0));obtain⟨sy,Es⟩:=AcG (decide (y<0));have o1:=Lk x hx sx Cf;have o2:=Lk y hy sy Es;have De:m<y.natAbs:=(by rw [hm];exact Nat.mod_lt _ (by omega));have EG:(pc 1000000000 q).length<=445:=Asq (Mx (by rw [hq];exact Nat.div_le_self _ _)) lx;have hmn:(pc 1000000000 m).length<=(pc 1000000000 y.natAbs).length:=Mx (Nat.le_of_lt De);have hd:=fun u v W hu hv=>Xe x.natAbs y.natAbs (by omega) (by omega) u v W hu hv;rw [←hq,←hm]at hd;rw [←Cf,←Es]at E1;have NM:=Cf;rw [decide_eq_true Eu]at NM;subst NM;have kQ:0<(pc 1000000000 m).length:=List.length_pos_iff.2 fun h=>(by have:=(Mw b9).1 h;omega);clear Cf Es hq hm Eu
 cases sy
 ·change FB true _=_ at E1
  have Iu:=Asb E1;have Gb:=Asb E2;clear E1 E2;go_enter Tryz.func149,Tryz.ntmps149;(go_wp2_with fail);(with_reducible refine(o1 _).mono ?_);rintro e w3 ⟨A3,c3,rfl,hv3,hx3⟩;(go_wp2_with fail);(with_reducible refine(o2 _).mono ?_);rintro e w4 ⟨A4,c4,rfl,hv4,Af⟩;have hx:=hx3.trans Af;have hv3:=hv3.ext Af;clear o1 o2 hx3 Af
  go_upto_region 4 with fail
  obtain⟨W,hW,hE,hb1,hb2⟩:=LJ w4 (.bool true) (.slice A3 (pc 1000000000 x.natAbs).length c3) (.bool false) (.slice A4 (pc 1000000000 y.natAbs).length c4) 201 201;rw [←hW];have hv3:=hv3.ext hE;have hv4:=hv4.ext hE;have Bz:=hx.trans hE;have k1:W.cell? ⟨w4.heap.size,0,none⟩=some (.bool true):=Ab hb1 rfl;have k2:W.cell? ⟨w4.heap.size,1,none⟩=some (.slice A3 (pc 1000000000 x.natAbs).length c3):=Ab hb1 rfl;have k3:W.cell? ⟨w4.heap.size+1,0,none⟩=some (.bool false):=Ab hb2 rfl;have k4:W.cell? ⟨w4.heap.size+1,1,none⟩=some (.slice A4 (pc 1000000000 y.natAbs).length c4):=Ab hb2 rfl;clear hW hE hx hb1 hb2;have hd:=hd _ _ W hv3.rd hv4.rd;(go_wp2_with fail);(with_reducible refine hd.mono ?_);rintro e w5 ⟨vq,vm,rfl,⟨A5,c5,rfl,AV⟩,⟨A6,c6,rfl,Ca⟩,Ae⟩;have k1:=Ae.cellS k1;have k2:=Ae.cellS k2;have k3:=Ae.cellS k3;have k4:=Ae.cellS k4;have hv4:=hv4.ext Ae;have Bz:=Bz.trans Ae;clear hd Ae hv3;(go_wp2_with fail)
  have FP:Cc (w5.alloc (.cells #[.int .u64 1] 230)) (some ⟨w5.heap.size,0,none⟩) 1 [1]:=
   ⟨by simp,by omega,by simp,fun _=>⟨w5.heap.size,0,rfl,fun j hj=>by
    obtain rfl:j=0:=by simpa using hj
    rw [World.cell?_alloc_at _ _ _ _ (by rfl)];simp [Ag]⟩⟩
  have Ay:=(Aa.refl w5).alloc (.cells #[.int .u64 1] 230);have ht:=nO (pc 1000000000 q) [1] _ _ (w5.alloc (.cells #[.int .u64 1] 230)).drew (AV.ext Ay.drew).rd (FP.ext (Aa.refl _).drew).rd (by omega) (by simp) (AX b9 _) (by intro z hz;simp only [Ass]at hz;omega);rw [AM b9,show Ah 1000000000 [1]=1 by rfl]at ht
  change Calls Tryz.prog 144 #[_,.slice _ 1 1] _ _ at ht
  have KU:=fun W2 (h:Aa (w5.alloc (.cells #[.int .u64 1] 230)).drew W2)=>UW (pc 1000000000 y.natAbs) (pc 1000000000 m) _ _ W2 (hv4.ext (Ay.drew.trans h)).rd (Ca.ext (Ay.drew.trans h)).rd (by omega) (AX b9 _) (AX b9 _) hmn (by rw [AM b9,AM b9];exact Nat.le_of_lt De);simp only [AM b9]at KU
  go_region_held3 (fun w'=>w'.cell? ⟨w4.heap.size+1,1,none⟩=some (.slice A4 (pc 1000000000 y.natAbs).length c4))
   (first|go_keep|exact(Ay.drew.trans Aj).cellS k4|exact(Ay.drew.trans (Aj.trans AE)).cellS k4)
   (first|((with_reducible refine ht.mono ?_);rintro e w7 ⟨v7,rfl,⟨A7,c7,rfl,EI⟩,Aj⟩)|((with_reducible refine(KU _ Aj).mono ?_);rintro e w8 ⟨v8,rfl,⟨A8,c8,rfl,Dy⟩,AE⟩))
  have k1:=(Ay.drew.trans (Aj.trans AE)).cellS k1;have k3:=(Ay.drew.trans (Aj.trans AE)).cellS k3;have Az:=Bz.trans (Ay.drew.trans (Aj.trans AE));have hc1:=fun W2 (h:Aa w8 W2)=>Gj true (q+1) _ W2 (hw.ext (Az.trans h)) (EI.ext (AE.trans h)).rd;have hc2:=fun W2 (h:Aa w8 W2)=>Gj false (y.natAbs-m) _ W2 (hw.ext (Az.trans h)) (Dy.ext h).rd;rw [Iu.out]at hc1;rw [Gb.out]at hc2;clear Aj AE Ay Bz KU ht FP EI Dy k2 k4;(go_wp2_with fail);(with_reducible refine(hc1 _ (Aa.refl _)).mono ?_);rintro e wa ⟨rfl,Ay⟩;(go_wp2_with fail);(with_reducible refine(hc2 _ Ay).mono ?_);rintro e wb ⟨rfl,hxb⟩;go_wp2;go_ret3;exact⟨rfl,Az.trans (Ay.trans hxb)⟩
 ·change FB false _=_ at E1
  have Iu:=Asb E1;have Gb:=Asb E2;clear E1 E2;go_enter Tryz.func149,Tryz.ntmps149;(go_wp2_with fail);(with_reducible refine(o1 _).mono ?_);rintro e w3 ⟨A3,c3,rfl,hv3,hx3⟩;(go_wp2_with fail);(with_reducible refine(o2 _).mono ?_);rintro e w4 ⟨A4,c4,rfl,hv4,Af⟩;have hx:=hx3.trans Af;have hv3:=hv3.ext Af;clear o1 o2 hx3 Af
  go_upto_region 4 with fail
  obtain⟨W,hW,hE,hb1,hb2⟩:=LJ w4 (.bool true) (.slice A3 (pc 1000000000 x.natAbs).length c3) (.bool true) (.slice A4 (pc 1000000000 y.natAbs).length c4) 201 201;rw [←hW];have hv3:=hv3.ext hE;have hv4:=hv4.ext hE;have Bz:=hx.trans hE;have k1:W.cell? ⟨w4.heap.size,0,none⟩=some (.bool true):=Ab hb1 rfl;have k2:W.cell? ⟨w4.heap.size,1,none⟩=some (.slice A3 (pc 1000000000 x.natAbs).length c3):=Ab hb1 rfl;have k3:W.cell? ⟨w4.heap.size+1,0,none⟩=some (.bool true):=Ab hb2 rfl;have k4:W.cell? ⟨w4.heap.size+1,1,none⟩=some (.slice A4 (pc 1000000000 y.natAbs).length c4):=Ab hb2 rfl;clear hW hE hx hb1 hb2;have hd:=hd _ _ W hv3.rd hv4.rd;(go_wp2_with fail);(with_reducible refine hd.mono ?_);rintro e w5 ⟨vq,vm,rfl,⟨A5,c5,rfl,AV⟩,⟨A6,c6,rfl,Ca⟩,Ae⟩;have k1:=Ae.cellS k1;have k2:=Ae.cellS k2;have k3:=Ae.cellS k3;have k4:=Ae.cellS k4;have hv4:=hv4.ext Ae;have Bz:=Bz.trans Ae;clear hd Ae hv3;(go_wp2_with fail)
  have FP:Cc (w5.alloc (.cells #[.int .u64 1] 230)) (some ⟨w5.heap.size,0,none⟩) 1 [1]:=
   ⟨by simp,by omega,by simp,fun _=>⟨w5.heap.size,0,rfl,fun j hj=>by
    obtain rfl:j=0:=by simpa using hj
    rw [World.cell?_alloc_at _ _ _ _ (by rfl)];simp [Ag]⟩⟩
  have Ay:=(Aa.refl w5).alloc (.cells #[.int .u64 1] 230);have ht:=nO (pc 1000000000 q) [1] _ _ (w5.alloc (.cells #[.int .u64 1] 230)).drew (AV.ext Ay.drew).rd (FP.ext (Aa.refl _).drew).rd (by omega) (by simp) (AX b9 _) (by intro z hz;simp only [Ass]at hz;omega);rw [AM b9,show Ah 1000000000 [1]=1 by rfl]at ht
  change Calls Tryz.prog 144 #[_,.slice _ 1 1] _ _ at ht
  have KU:=fun W2 (h:Aa (w5.alloc (.cells #[.int .u64 1] 230)).drew W2)=>UW (pc 1000000000 y.natAbs) (pc 1000000000 m) _ _ W2 (hv4.ext (Ay.drew.trans h)).rd (Ca.ext (Ay.drew.trans h)).rd (by omega) (AX b9 _) (AX b9 _) hmn (by rw [AM b9,AM b9];exact Nat.le_of_lt De);simp only [AM b9]at KU
  go_region_held3 (fun w'=>w'.cell? ⟨w4.heap.size+1,1,none⟩=some (.slice A4 (pc 1000000000 y.natAbs).length c4))
   (first|go_keep|exact(Ay.drew.trans Aj).cellS k4|exact(Ay.drew.trans (Aj.trans AE)).cellS k4)
   (first|((with_reducible refine ht.mono ?_);rintro e w7 ⟨v7,rfl,⟨A7,c7,rfl,EI⟩,Aj⟩)|((with_reducible refine(KU _ Aj).mono ?_);rintro e w8 ⟨v8,rfl,⟨A8,c8,rfl,Dy⟩,AE⟩))
  have k1:=(Ay.drew.trans (Aj.trans AE)).cellS k1;have k3:=(Ay.drew.trans (Aj.trans AE)).cellS k3;have Az:=Bz.trans (Ay.drew.trans (Aj.trans AE));have hc1:=fun W2 (h:Aa w8 W2)=>Gj false (q+1) _ W2 (hw.ext (Az.trans h)) (EI.ext (AE.trans h)).rd;have hc2:=fun W2 (h:Aa w8 W2)=>Gj false (y.natAbs-m) _ W2 (hw.ext (Az.trans h)) (Dy.ext h).rd;rw [Iu.out]at hc1;rw [Gb.out]at hc2;clear Aj AE Ay Bz KU ht FP EI Dy k2 k4;(go_wp2_with fail);(with_reducible refine(hc1 _ (Aa.refl _)).mono ?_);rintro e wa ⟨rfl,Ay⟩;(go_wp2_with fail);(with_reducible refine(hc2 _ Ay).mono ?_);rintro e wb ⟨rfl,hxb⟩;go_wp2;go_ret3;exact⟨rfl,Az.trans (Ay.trans hxb)⟩
theorem AfR(x y:Int)(q m:Nat)(hq:q=x.natAbs/y.natAbs)(hm:m=x.natAbs%y.natAbs)(Eu:x<0)(hm0:m=0)(hx:Av x)(hy:Av y)(Ba:y≠0)(E1:FB (decide (x<0) != decide (y<0)) q=I (x/y))(E2:FB false m=I (x%y))(w:World)(hw:Ai w) :
  Calls Tryz.prog 149 #[S (I x),S (I y)] w (Bg (OF x y) w):=by
 have lx:=hx.pc;have ly:=hy.pc;have uh:=MJ Ba;obtain⟨sx,Cf⟩:=AcG (decide (x<0));obtain⟨sy,Es⟩:=AcG (decide (y<0));have o1:=Lk x hx sx Cf;have o2:=Lk y hy sy Es;have De:m<y.natAbs:=(by rw [hm];exact Nat.mod_lt _ (by omega));have EG:(pc 1000000000 q).length<=445:=Asq (Mx (by rw [hq];exact Nat.div_le_self _ _)) lx;have hmn:(pc 1000000000 m).length<=(pc 1000000000 y.natAbs).length:=Mx (Nat.le_of_lt De);have hd:=fun u v W hu hv=>Xe x.natAbs y.natAbs (by omega) (by omega) u v W hu hv;rw [←hq,←hm]at hd;rw [←Cf,←Es]at E1;have NM:=Cf;rw [decide_eq_true Eu]at NM;subst NM;have kQ:(pc 1000000000 m).length=0:=(by rw [hm0,Fz];rfl);have AqZ:decide (0<(pc 1000000000 m).length)=false:=(by rw [kQ];rfl);clear kQ hm0;clear Cf Es hq hm Eu
 cases sy
 ·change FB true _=_ at E1
  have Iu:=Asb E1;have Gb:=Asb E2;clear E1 E2;go_enter Tryz.func149,Tryz.ntmps149;(go_wp2_with fail);(with_reducible refine(o1 _).mono ?_);rintro e w3 ⟨A3,c3,rfl,hv3,hx3⟩;(go_wp2_with fail);(with_reducible refine(o2 _).mono ?_);rintro e w4 ⟨A4,c4,rfl,hv4,Af⟩;have hx:=hx3.trans Af;have hv3:=hv3.ext Af;clear o1 o2 hx3 Af
  go_upto_region 4 with fail
  obtain⟨W,hW,hE,hb1,hb2⟩:=LJ w4 (.bool true) (.slice A3 (pc 1000000000 x.natAbs).length c3) (.bool false) (.slice A4 (pc 1000000000 y.natAbs).length c4) 201 201;rw [←hW];have hv3:=hv3.ext hE;have hv4:=hv4.ext hE;have Bz:=hx.trans hE;have k1:W.cell? ⟨w4.heap.size,0,none⟩=some (.bool true):=Ab hb1 rfl;have k2:W.cell? ⟨w4.heap.size,1,none⟩=some (.slice A3 (pc 1000000000 x.natAbs).length c3):=Ab hb1 rfl;have k3:W.cell? ⟨w4.heap.size+1,0,none⟩=some (.bool false):=Ab hb2 rfl;have k4:W.cell? ⟨w4.heap.size+1,1,none⟩=some (.slice A4 (pc 1000000000 y.natAbs).length c4):=Ab hb2 rfl;clear hW hE hx hb1 hb2;have hd:=hd _ _ W hv3.rd hv4.rd;(go_wp2_with fail);(with_reducible refine hd.mono ?_);rintro e w5 ⟨vq,vm,rfl,⟨A5,c5,rfl,AV⟩,⟨A6,c6,rfl,Ca⟩,Ae⟩;have k1:=Ae.cellS k1;have k2:=Ae.cellS k2;have k3:=Ae.cellS k3;have k4:=Ae.cellS k4;have hv4:=hv4.ext Ae;have Bz:=Bz.trans Ae;clear hd Ae hv3;have hc1:=fun W2 (h:Aa w5 W2)=>Gj true q _ W2 (hw.ext (Bz.trans h)) (AV.ext h).rd;have hc2:=fun W2 (h:Aa w5 W2)=>Gj false m _ W2 (hw.ext (Bz.trans h)) (Ca.ext h).rd;rw [Iu.out]at hc1;rw [Gb.out]at hc2;clear k2 k4 hv4 AV Ca;(go_wp2_with fail);(with_reducible refine(hc1 _ (Aa.refl _)).mono ?_);rintro e wa ⟨rfl,Ay⟩;(go_wp2_with fail);(with_reducible refine(hc2 _ Ay).mono ?_);rintro e wb ⟨rfl,hxb⟩;go_wp2;go_ret3;exact⟨rfl,Bz.trans (Ay.trans hxb)⟩
 ·change FB false _=_ at E1
  have Iu:=Asb E1;have Gb:=Asb E2;clear E1 E2;go_enter Tryz.func149,Tryz.ntmps149;(go_wp2_with fail);(with_reducible refine(o1 _).mono ?_);rintro e w3 ⟨A3,c3,rfl,hv3,hx3⟩;(go_wp2_with fail);(with_reducible refine(o2 _).mono ?_);rintro e w4 ⟨A4,c4,rfl,hv4,Af⟩;have hx:=hx3.trans Af;have hv3:=hv3.ext Af;clear o1 o2 hx3 Af
  go_upto_region 4 with fail
  obtain⟨W,hW,hE,hb1,hb2⟩:=LJ w4 (.bool true) (.slice A3 (pc 1000000000 x.natAbs).length c3) (.bool true) (.slice A4 (pc 1000000000 y.natAbs).length c4) 201 201;rw [←hW];have hv3:=hv3.ext hE;have hv4:=hv4.ext hE;have Bz:=hx.trans hE;have k1:W.cell? ⟨w4.heap.size,0,none⟩=some (.bool true):=Ab hb1 rfl;have k2:W.cell? ⟨w4.heap.size,1,none⟩=some (.slice A3 (pc 1000000000 x.natAbs).length c3):=Ab hb1 rfl;have k3:W.cell? ⟨w4.heap.size+1,0,none⟩=some (.bool true):=Ab hb2 rfl;have k4:W.cell? ⟨w4.heap.size+1,1,none⟩=some (.slice A4 (pc 1000000000 y.natAbs).length c4):=Ab hb2 rfl;clear hW hE hx hb1 hb2;have hd:=hd _ _ W hv3.rd hv4.rd;(go_wp2_with fail);(with_reducible refine hd.mono ?_);rintro e w5 ⟨vq,vm,rfl,⟨A5,c5,rfl,AV⟩,⟨A6,c6,rfl,Ca⟩,Ae⟩;have k1:=Ae.cellS k1;have k2:=Ae.cellS k2;have k3:=Ae.cellS k3;have k4:=Ae.cellS k4;have hv4:=hv4.ext Ae;have Bz:=Bz.trans Ae;clear hd Ae hv3;have hc1:=fun W2 (h:Aa w5 W2)=>Gj false q _ W2 (hw.ext (Bz.trans h)) (AV.ext h).rd;have hc2:=fun W2 (h:Aa w5 W2)=>Gj false m _ W2 (hw.ext (Bz.trans h)) (Ca.ext h).rd;rw [Iu.out]at hc1;rw [Gb.out]at hc2;clear k2 k4 hv4 AV Ca;(go_wp2_with fail);(with_reducible refine(hc1 _ (Aa.refl _)).mono ?_);rintro e wa ⟨rfl,Ay⟩;(go_wp2_with fail);(with_reducible refine(hc2 _ Ay).mono ?_);rintro e wb ⟨rfl,hxb⟩;go_wp2;go_ret3;exact⟨rfl,Bz.trans (Ay.trans hxb)⟩
theorem AfS(x y:Int)(q m:Nat)(hq:q=x.natAbs/y.natAbs)(hm:m=x.natAbs%y.natAbs)(Eu:¬x<0)(hx:Av x)(hy:Av y)(Ba:y≠0)(E1:FB (decide (x<0) != decide (y<0)) q=I (x/y))(E2:FB false m=I (x%y))(w:World)(hw:Ai w) :
  Calls Tryz.prog 149 #[S (I x),S (I y)] w (Bg (OF x y) w):=by
 have lx:=hx.pc;have ly:=hy.pc;have uh:=MJ Ba;obtain⟨sx,Cf⟩:=AcG (decide (x<0));obtain⟨sy,Es⟩:=AcG (decide (y<0));have o1:=Lk x hx sx Cf;have o2:=Lk y hy sy Es;have De:m<y.natAbs:=(by rw [hm];exact Nat.mod_lt _ (by omega));have EG:(pc 1000000000 q).length<=445:=Asq (Mx (by rw [hq];exact Nat.div_le_self _ _)) lx;have hmn:(pc 1000000000 m).length<=(pc 1000000000 y.natAbs).length:=Mx (Nat.le_of_lt De);have hd:=fun u v W hu hv=>Xe x.natAbs y.natAbs (by omega) (by omega) u v W hu hv;rw [←hq,←hm]at hd;rw [←Cf,←Es]at E1;have NM:=Cf;rw [decide_eq_false Eu]at NM;subst NM;clear Cf Es hq hm Eu
 cases sy
 ·change FB false _=_ at E1
  have Iu:=Asb E1;have Gb:=Asb E2;clear E1 E2;go_enter Tryz.func149,Tryz.ntmps149;(go_wp2_with fail);(with_reducible refine(o1 _).mono ?_);rintro e w3 ⟨A3,c3,rfl,hv3,hx3⟩;(go_wp2_with fail);(with_reducible refine(o2 _).mono ?_);rintro e w4 ⟨A4,c4,rfl,hv4,Af⟩;have hx:=hx3.trans Af;have hv3:=hv3.ext Af;clear o1 o2 hx3 Af
  go_upto_region 4 with fail
  obtain⟨W,hW,hE,hb1,hb2⟩:=LJ w4 (.bool false) (.slice A3 (pc 1000000000 x.natAbs).length c3) (.bool false) (.slice A4 (pc 1000000000 y.natAbs).length c4) 201 201;rw [←hW];have hv3:=hv3.ext hE;have hv4:=hv4.ext hE;have Bz:=hx.trans hE;have k1:W.cell? ⟨w4.heap.size,0,none⟩=some (.bool false):=Ab hb1 rfl;have k2:W.cell? ⟨w4.heap.size,1,none⟩=some (.slice A3 (pc 1000000000 x.natAbs).length c3):=Ab hb1 rfl;have k3:W.cell? ⟨w4.heap.size+1,0,none⟩=some (.bool false):=Ab hb2 rfl;have k4:W.cell? ⟨w4.heap.size+1,1,none⟩=some (.slice A4 (pc 1000000000 y.natAbs).length c4):=Ab hb2 rfl;clear hW hE hx hb1 hb2;have hd:=hd _ _ W hv3.rd hv4.rd;(go_wp2_with fail);(with_reducible refine hd.mono ?_);rintro e w5 ⟨vq,vm,rfl,⟨A5,c5,rfl,AV⟩,⟨A6,c6,rfl,Ca⟩,Ae⟩;have k1:=Ae.cellS k1;have k2:=Ae.cellS k2;have k3:=Ae.cellS k3;have k4:=Ae.cellS k4;have hv4:=hv4.ext Ae;have Bz:=Bz.trans Ae;clear hd Ae hv3;have hc1:=fun W2 (h:Aa w5 W2)=>Gj false q _ W2 (hw.ext (Bz.trans h)) (AV.ext h).rd;have hc2:=fun W2 (h:Aa w5 W2)=>Gj false m _ W2 (hw.ext (Bz.trans h)) (Ca.ext h).rd;rw [Iu.out]at hc1;rw [Gb.out]at hc2;clear k2 k4 hv4 AV Ca;(go_wp2_with fail);(with_reducible refine(hc1 _ (Aa.refl _)).mono ?_);rintro e wa ⟨rfl,Ay⟩;(go_wp2_with fail);(with_reducible refine(hc2 _ Ay).mono ?_);rintro e wb ⟨rfl,hxb⟩;go_wp2;go_ret3;exact⟨rfl,Bz.trans (Ay.trans hxb)⟩
 ·change FB true _=_ at E1
  have Iu:=Asb E1;have Gb:=Asb E2;clear E1 E2;go_enter Tryz.func149,Tryz.ntmps149;(go_wp2_with fail);(with_reducible refine(o1 _).mono ?_);rintro e w3 ⟨A3,c3,rfl,hv3,hx3⟩;(go_wp2_with fail);(with_reducible refine(o2 _).mono ?_);rintro e w4 ⟨A4,c4,rfl,hv4,Af⟩;have hx:=hx3.trans Af;have hv3:=hv3.ext Af;clear o1 o2 hx3 Af
  go_upto_region 4 with fail
  obtain⟨W,hW,hE,hb1,hb2⟩:=LJ w4 (.bool false) (.slice A3 (pc 1000000000 x.natAbs).length c3) (.bool true) (.slice A4 (pc 1000000000 y.natAbs).length c4) 201 201;rw [←hW];have hv3:=hv3.ext hE;have hv4:=hv4.ext hE;have Bz:=hx.trans hE;have k1:W.cell? ⟨w4.heap.size,0,none⟩=some (.bool false):=Ab hb1 rfl;have k2:W.cell? ⟨w4.heap.size,1,none⟩=some (.slice A3 (pc 1000000000 x.natAbs).length c3):=Ab hb1 rfl;have k3:W.cell? ⟨w4.heap.size+1,0,none⟩=some (.bool true):=Ab hb2 rfl;have k4:W.cell? ⟨w4.heap.size+1,1,none⟩=some (.slice A4 (pc 1000000000 y.natAbs).length c4):=Ab hb2 rfl;clear hW hE hx hb1 hb2;have hd:=hd _ _ W hv3.rd hv4.rd;(go_wp2_with fail);(with_reducible refine hd.mono ?_);rintro e w5 ⟨vq,vm,rfl,⟨A5,c5,rfl,AV⟩,⟨A6,c6,rfl,Ca⟩,Ae⟩;have k1:=Ae.cellS k1;have k2:=Ae.cellS k2;have k3:=Ae.cellS k3;have k4:=Ae.cellS k4;have hv4:=hv4.ext Ae;have Bz:=Bz.trans Ae;clear hd Ae hv3;have hc1:=fun W2 (h:Aa w5 W2)=>Gj true q _ W2 (hw.ext (Bz.trans h)) (AV.ext h).rd;have hc2:=fun W2 (h:Aa w5 W2)=>Gj false m _ W2 (hw.ext (Bz.trans h)) (Ca.ext h).rd;rw [Iu.out]at hc1;rw [Gb.out]at hc2;clear k2 k4 hv4 AV Ca;(go_wp2_with fail);(with_reducible refine(hc1 _ (Aa.refl _)).mono ?_);rintro e wa ⟨rfl,Ay⟩;(go_wp2_with fail);(with_reducible refine(hc2 _ Ay).mono ?_);rintro e wb ⟨rfl,hxb⟩;go_wp2;go_ret3;exact⟨rfl,Bz.trans (Ay.trans hxb)⟩
theorem Zb(x y:Int)(hx:Av x)(hy:Av y)(Ba:y≠0)(w:World)(hw:Ai w):Calls Tryz.prog 149 #[S (I x),S (I y)] w (Bg (OF x y) w):=by
 obtain⟨hB,hA⟩:=AfO x y Ba;by_cases Eu:x<0
 ·rcases Nat.eq_zero_or_pos (x.natAbs%y.natAbs)with h|h
  ·obtain⟨e1,e2⟩:=hA (by omega);exact AfR x y _ _ rfl rfl Eu h hx hy Ba (by rw [MY,e1]) (by rw [Wl,e2]) w hw
  ·obtain⟨e1,e2⟩:=hB Eu h;exact AfT x y _ _ rfl rfl Eu h hx hy Ba (by rw [MY,e1]) (by rw [Wl,e2]) w hw
 ·obtain⟨e1,e2⟩:=hA (by omega);exact AfS x y _ _ rfl rfl Eu hx hy Ba (by rw [MY,e1]) (by rw [Wl,e2]) w hw
theorem Ag8(s:Bool)(A:Option Addr)(n c:Nat)(W:World):(Instr.field 201 (.agg #[.bool s,.slice A n c]) 1).run Tryz.prog W=.ok (.slice A n c) W:=by
 simp [Instr.field,run_underlying Tryz.underlying201,asAgg,part]
attribute [local go_sem] Ag8
theorem wU(a b:Int):Int.gcd b (a.tmod b)=Int.gcd a b:=by
 unfold Int.gcd;rw [Int.natAbs_tmod,Nat.gcd_comm b.natAbs,←Nat.gcd_rec,Nat.gcd_comm]
theorem xx(a:Int){b:Int}(h:b≠0):(a.tmod b).natAbs<b.natAbs:=by
 rw [Int.natAbs_tmod];exact Nat.mod_lt _ (by omega)
theorem AjU(x y:Int)(hx:(I x).length<=18)(hy:(I y).length<=18)(w:World)(hw:Ai w) :
  Calls Tryz.prog 135 #[S (I x),S (I y)] w (A0 (D (Int.gcd x y)) w):=by
 have q1:=Oj x;have q2:=Oj y;rw [M4 hx]at q1;rw [M4 hy]at q2;have b1:=Ko hx;have b2:=Ko hy;have e18:(10:Nat)^18=1000000000000000000:=(by decide);rw [e18]at b1 b2;obtain⟨g,hg⟩:=AcG (Int.gcd x y);rw [←hg];have HG:=Asb hg.symm;clear hx hy e18 hg;go_enter Tryz.func135,Tryz.ntmps135;(go_wp2_with fail);(with_reducible refine(q1 _).mono ?_);rintro e w1 ⟨rfl,hx1⟩;(go_wp2_with fail);(with_reducible refine(q2 _).mono ?_);rintro e w2 ⟨rfl,hx2⟩;have hx:=hx1.trans hx2;clear hx1 hx2 q1 q2;go_wp2
 go_loopw [5,7] (fun u v wr=>∃a b:Int,u=.int .i64 a/\v=.int .i64 b/\Int.gcd a b=g/\a.natAbs<1000000000000000000/\b.natAbs<1000000000000000000/\Aa w wr) (fun _ v _=>(intOf v).natAbs)
 case atStart=>exact⟨x,y,rfl,rfl,HG.out,b1,b2,hx⟩
 case round=>
  obtain⟨a,b,rfl,rfl,DC,ha,hb,Ac⟩:=hrel;by_cases hb0:b=0
  ·subst hb0;have N8:a.natAbs=g:=(by rw [←DC];simp);have hmx:max a (-a)=(g:Int):=(by omega);have ho:=fun W hW=>P7 (g:Int) (by omega) (by omega) W hW;have BA:((0:Int) != 0)=false:=(by rfl);clear N8 DC;rw [Ci]at ho;have GI:IntKind.i64.wrap (-a) = -a:=Asm _ (by omega);(go_wp2_with fail);(with_reducible refine(ho _ (hw.ext Ac)).mono ?_);rintro e w3 ⟨rfl,hx3⟩;go_wp2;go_ret;exact⟨rfl,Ac.trans hx3⟩
  ·have hlt:=xx a hb0;have QQ:(a.tmod b).natAbs<1000000000000000000:=Nat.lt_trans hlt hb;have Dc:=wU a b;have I7:(b != 0)=true:=(by rw [bne_iff_ne];exact hb0);have Bu:(b == 0)=false:=(by rw [beq_eq_false_iff_ne];exact hb0);have JC:=Asb (Dc.trans DC);clear Dc DC;(go_wp2_with fail)
   go_quiet (fail)
   go_wp2;go_roundw
   case rel=>exact⟨b,a.tmod b,rfl,rfl,JC.out,hb,QQ,Ac.drewN _⟩
   case measure=>exact hlt
theorem AjT(x y:Int)(hx:Av x)(hy:Av y)(hn:¬((I x).length<=18/\(I y).length<=18))(w:World)(hw:Ai w) :
  Calls Tryz.prog 135 #[S (I x),S (I y)] w (A0 (D (Int.gcd x y)) w):=by
 have q1:=Oj x;have q2:=Oj y;have lx:=hx.pc;have ly:=hy.pc;have o1:=Lk x hx _ rfl;have o2:=Lk y hy _ rfl;obtain⟨g,hg⟩:=AcG (Int.gcd x y);rw [←hg];have HG:=Asb hg.symm;clear hx hy hg;by_cases h1:(I x).length<=18
 case' pos=>rw [M4 h1]at q1;rw [RF fun h=>hn ⟨h1,h⟩]at q2;clear h1 hn;go_enter Tryz.func135,Tryz.ntmps135;(go_wp2_with fail);(with_reducible refine(q1 _).mono ?_);rintro e w1 ⟨rfl,hx1⟩;(go_wp2_with fail);(with_reducible refine(q2 _).mono ?_);rintro e w2 ⟨rfl,hx2⟩;have hx:=hx1.trans hx2;clear hx1 hx2;(go_wp2_with fail)
 case' neg=>rw [RF h1]at q1;clear h1 hn;go_enter Tryz.func135,Tryz.ntmps135;(go_wp2_with fail);(with_reducible refine(q1 _).mono ?_);rintro e w2 ⟨rfl,hx⟩;(go_wp2_with fail)
 all_goals
  clear q1 q2;(with_reducible refine(o1 _).mono ?_);rintro e w3 ⟨A3,c3,rfl,hv3,hx3⟩;(go_wp2_with fail);(with_reducible refine(o2 _).mono ?_);rintro e w4 ⟨A4,c4,rfl,hv4,Af⟩;have hx:=(hx.trans hx3).trans Af;have hv3:=hv3.ext Af;clear o1 o2 hx3 Af;go_wp2
  go_loopg [9,10] y.natAbs (fun k u v wr=>∃a:Nat,Rd wr u (pc 1000000000 a)/\Rd wr v (pc 1000000000 k)/\Nat.gcd a k=g/\(pc 1000000000 a).length<=445/\(pc 1000000000 k).length<=445/\Aa w wr)
  case atStart=>exact⟨x.natAbs,hv3.rd,hv4.rd,HG.out,lx,ly,hx⟩
  case round=>
   obtain⟨a,ha,⟨B,cb,rfl,hb⟩,hg,Gu,EW,Ac⟩:=hrel;obtain⟨b,rfl⟩:=AcG gk;have qM:=Asb hg;clear hg hx hv3 hv4 lx ly;by_cases hb0:b=0
   ·subst hb0;have N8:a=g:=(by rw [←qM.out];simp);subst N8;have hl0:(pc 1000000000 0).length=0:=(by rw [Fz];rfl);have hl:decide (0<(pc 1000000000 0).length)=false:=(by rw [hl0];rfl);have hl':¬0<(pc 1000000000 0).length:=(by omega);obtain⟨A,ca,rfl,ha⟩:=ha;have hc:=Gj false a _ _ (hw.ext Ac) ha.rd;rw [Wl,Ci]at hc;clear hl0;(go_wp2_with fail);(with_reducible refine hc.mono ?_);rintro e w5 ⟨rfl,Ae⟩;go_wp2;go_ret;exact⟨rfl,Ac.trans Ae⟩
   ·have hp:0<(pc 1000000000 b).length:=List.length_pos_iff.2 fun h=>(by have:=(Mw b9).1 h;omega);have hd:=Xe a b (by omega) (by omega) _ _ _ ha hb.rd;have hb:=hb;(go_wp2_with fail);(with_reducible refine hd.mono ?_);rintro e w5 ⟨vq,vr,rfl,hq,hr,Ae⟩;go_wp2
    go_roundg (a%b)
    case measure=>exact Nat.mod_lt _ (by omega)
    case rel=>exact⟨b,(hb.ext Ae).rd,hr,by rw [←qM.out,Nat.gcd_comm b,←Nat.gcd_rec,Nat.gcd_comm],EW,Asq (Mx (Nat.le_of_lt (Nat.mod_lt _ (by omega)))) EW,Ac.trans Ae⟩
theorem AjS(x y:Int)(hx:Av x)(hy:Av y)(w:World)(hw:Ai w):Calls Tryz.prog 135 #[S (I x),S (I y)] w (A0 (D (Int.gcd x y)) w):=by
 by_cases h:(I x).length<=18/\(I y).length<=18
 ·exact AjU x y h.1 h.2 w hw
 ·exact AjT x y hx hy h w hw
end Go.Proofs.YtdaefncphfeaeaaGreatDoor
