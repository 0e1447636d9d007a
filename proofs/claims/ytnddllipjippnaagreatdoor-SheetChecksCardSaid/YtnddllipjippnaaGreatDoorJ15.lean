/- J15: IntA IntD IntG Int9 IntC R1 R2. -/
import Derived.Test.YtnddllipjippnaaGreatDoorJ13
set_option maxRecDepth 100000
set_option maxHeartbeats 4000000
namespace Go.Proofs.YtnddllipjippnaaGreatDoor
open Go.RowKit Kl
def Abi(s:Bool)(n:Nat)(w:World)(e:Ending)(w':World):Prop:=∃A c,e=.returned (.agg #[.bool s,.slice A (pc 1000000000 n).length c])/\BX w' A c (pc 1000000000 n)/\Ab w w'
theorem K1(z:Int)(hz:AV z)(s:Bool)(hs:s=decide (z<0))(w:World):Calls Tryz.prog 207 #[S (I z)] w (Abi s z.natAbs w):=by
 subst hs;refine(kE z hz w).mono ?_;rintro e w' ⟨v,rfl,⟨A,c,rfl,h⟩,hx⟩;exact⟨A,c,rfl,h,hx⟩
theorem BX.rd{w:World}{A:Option Addr}{c:Nat}{l:List Nat}(h:BX w A c l):Rd w (.slice A l.length c) l:=⟨A,c,rfl,h⟩
theorem LZ{a b:Nat}(h:a<=b):(pc 1000000000 a).length<=(pc 1000000000 b).length:=U4 h
structure Y9(W:World)(b:Nat)(sx sy:Bool)(v u:Value):Prop where
 k1:W.cell? ⟨b,0,none⟩=some (.bool sx)
 k2:W.cell? ⟨b,1,none⟩=some v
 k3:W.cell? ⟨b+1,0,none⟩=some (.bool sy)
 k4:W.cell? ⟨b+1,1,none⟩=some u
theorem Aj{W:World}{b o:Nat}{cs:Array Value}{t:TypeId}(h:W.heap[b]?=some (.cells cs t)):W.frozen? ⟨b,o,none⟩=false:=by unfold World.frozen?;simp [h]
structure Kept(w5 V:World)(b:Nat):Prop where
 ext:∀w0,Ab w0 w5→w0.heap.size<=b→Ab w0 V
 rd:∀A c l,BX w5 A c l→BX V A c l
theorem Kept.refl(w:World)(b:Nat):Kept w w b:=⟨fun _ h _=>h,fun _ _ _ h=>h⟩
theorem Kept.set{w5 V:World}{b k o:Nat}(h:Kept w5 V b)(hk:b<=k){v u:Value}(hv:V.cell? ⟨k,o,none⟩=some v)(hn:∀n,v≠.int .u64 n):Kept w5 (V.setCell ⟨k,o,none⟩ u) b:=
 ⟨fun w0 h0 hb=>(h.ext w0 h0 hb).setCell (by show w0.heap.size<=k;omega) _,fun A c l hr=>(h.rd A c l hr).setCell hv hn⟩
theorem Alq{w:World}{b:Nat}{sx sy:Bool}{A3 A4:Option Addr}{n3 n4 c3 c4:Nat}(h:Y9 w b sx sy (.slice A3 n3 c3) (.slice A4 n4 c4)) :
  ∃V,V=(((w.setCell ⟨b,0,none⟩ (.bool sy)).setCell ⟨b,1,none⟩ (.slice A4 n4 c4)).setCell ⟨b+1,0,none⟩ (.bool sx)).setCell ⟨b+1,1,none⟩ (.slice A3 n3 c3)/\
   Y9 V b sy sx (.slice A4 n4 c4) (.slice A3 n3 c3)/\Kept w V b:=by
 obtain⟨k1,k2,k3,k4⟩:=h;have e1:=World.cell?_setCell_same w _ (.bool sy) k1;have e2:(w.setCell ⟨b,0,none⟩ (.bool sy)).cell? ⟨b,1,none⟩=_:=(World.cell?_setCell_other _ _ _ _ (by simp)).trans k2;have e3:(w.setCell ⟨b,0,none⟩ (.bool sy)).cell? ⟨b+1,0,none⟩=_:=(World.cell?_setCell_other _ _ _ _ (by simp)).trans k3;have e4:(w.setCell ⟨b,0,none⟩ (.bool sy)).cell? ⟨b+1,1,none⟩=_:=(World.cell?_setCell_other _ _ _ _ (by simp)).trans k4;have z1:=(Kept.refl w b).set (Ao7 b) (u:=.bool sy) k1 (by simp);have z2:=z1.set (Ao7 b) (u:=.slice A4 n4 c4) e2 (by simp);have f1:=(World.cell?_setCell_other (w.setCell ⟨b,0,none⟩ (.bool sy)) ⟨b,1,none⟩ ⟨b,0,none⟩ (.slice A4 n4 c4) (by simp)).trans e1;have f2:=World.cell?_setCell_same (w.setCell ⟨b,0,none⟩ (.bool sy)) _ (.slice A4 n4 c4) e2;have f3:=(World.cell?_setCell_other (w.setCell ⟨b,0,none⟩ (.bool sy)) ⟨b,1,none⟩ ⟨b+1,0,none⟩ (.slice A4 n4 c4) (by simp)).trans e3;have f4:=(World.cell?_setCell_other (w.setCell ⟨b,0,none⟩ (.bool sy)) ⟨b,1,none⟩ ⟨b+1,1,none⟩ (.slice A4 n4 c4) (by simp)).trans e4;generalize (w.setCell ⟨b,0,none⟩ (.bool sy)).setCell ⟨b,1,none⟩ (.slice A4 n4 c4)=W at *;have z3:=z2.set (show b<=b+1 by omega) (u:=.bool sx) f3 (by simp);have g1:=(World.cell?_setCell_other W ⟨b+1,0,none⟩ ⟨b,0,none⟩ (.bool sx) (by simp)).trans f1;have g2:=(World.cell?_setCell_other W ⟨b+1,0,none⟩ ⟨b,1,none⟩ (.bool sx) (by simp)).trans f2;have g3:=World.cell?_setCell_same W _ (.bool sx) f3;have g4:=(World.cell?_setCell_other W ⟨b+1,0,none⟩ ⟨b+1,1,none⟩ (.bool sx) (by simp)).trans f4;generalize W.setCell ⟨b+1,0,none⟩ (.bool sx)=X at *;exact⟨_,rfl,⟨(World.cell?_setCell_other X _ _ _ (by simp)).trans g1,(World.cell?_setCell_other X _ _ _ (by simp)).trans g2,(World.cell?_setCell_other X _ _ _ (by simp)).trans g3,World.cell?_setCell_same X _ _ g4⟩,z3.set (by omega) g4 (by simp)⟩
theorem Abo{x y:Int}(h:decide (x<0)=decide (y<0)):(if decide (x<0)=true then -((x.natAbs+y.natAbs:Nat):Int)else ((x.natAbs+y.natAbs:Nat):Int))=x+y:=by
 by_cases hx:x<0<;>by_cases hy:y<0<;>simp [hx,hy]at h ⊢<;>omega
theorem oW{x y:Int}(h:decide (x<0)≠decide (y<0))(hl:y.natAbs<=x.natAbs):(if decide (x<0)=true then -((x.natAbs-y.natAbs:Nat):Int)else ((x.natAbs-y.natAbs:Nat):Int))=x+y:=by
 by_cases hx:x<0<;>by_cases hy:y<0<;>simp [hx,hy]at h ⊢<;>omega
theorem AgE(x y:Int)(hx:(I x).length<=18)(hy:(I y).length<=18)(w:World)(hw:Am w) :
  Calls Tryz.prog 213 #[S (I x),S (I y)] w (By (I (x+y)) w):=by
 have q1:=NH x;have q2:=NH y;rw [Md hx]at q1;rw [Md hy]at q2;have b1:=NK hx;have b2:=NK hy;have e18:(10:Nat)^18=1000000000000000000:=(by decide);rw [e18]at b1 b2;have hwr:IntKind.i64.wrap (x+y)=x+y:=AoD _ (by omega);have ho:=fun W hW=>iQ (x+y) (by omega) (by omega) W hW;clear hx hy b1 b2 e18;go_enter Tryz.func213,Tryz.ntmps213;(go_wp2_with fail);(with_reducible refine(q1 _).mono ?_);rintro e w1 ⟨rfl,hx1⟩;(go_wp2_with fail);(with_reducible refine(q2 _).mono ?_);rintro e w2 ⟨rfl,hx2⟩;have Ca:=hx1.trans hx2;(go_wp2_with fail);(with_reducible refine(ho _ (hw.ext Ca)).mono ?_);rintro e w3 ⟨rfl,hx3⟩;go_wp2;go_ret;exact⟨rfl,Ca.trans hx3⟩
theorem AgD(x y:Int)(hx:AV x)(hy:AV y)(hn:¬((I x).length<=18/\(I y).length<=18))(w:World)(hw:Am w) :
  Calls Tryz.prog 213 #[S (I x),S (I y)] w (By (I (x+y)) w):=by
 have q1:=NH x;have q2:=NH y;have lx:=hx.pc;have ly:=hy.pc;obtain⟨sx,Fe⟩:=Ao3 (decide (x<0));obtain⟨sy,G3⟩:=Ao3 (decide (y<0));have o1:=K1 x hx sx Fe;have o2:=K1 y hy sy G3;have m1:=@Abo x y;have m2:=@oW x y;have m3:=@oW y x;rw [←Fe,←G3]at m1 m2 m3;rw [Int.add_comm y x]at m3;clear hx hy Fe G3;by_cases h1:(I x).length<=18
 case' pos=>rw [Md h1]at q1;rw [QZ fun h=>hn ⟨h1,h⟩]at q2;clear h1 hn;have M1:=Ao4 m1;have M2:=Ao4 m2;have M3:=Ao4 m3;clear m1 m2 m3;go_enter Tryz.func213,Tryz.ntmps213;(go_wp2_with fail);(with_reducible refine(q1 _).mono ?_);rintro e w1 ⟨rfl,hx1⟩;(go_wp2_with fail);(with_reducible refine(q2 _).mono ?_);rintro e w2 ⟨rfl,hx2⟩;have hx:=hx1.trans hx2;clear hx1 hx2;(go_wp2_with fail)
 case' neg=>rw [QZ h1]at q1;clear h1 hn;have M1:=Ao4 m1;have M2:=Ao4 m2;have M3:=Ao4 m3;clear m1 m2 m3;go_enter Tryz.func213,Tryz.ntmps213;(go_wp2_with fail);(with_reducible refine(q1 _).mono ?_);rintro e w2 ⟨rfl,hx⟩;(go_wp2_with fail)
 all_goals
  clear q1 q2;(with_reducible refine(o1 _).mono ?_);rintro e w3 ⟨A3,c3,rfl,hv3,hx3⟩;(go_wp2_with fail);(with_reducible refine(o2 _).mono ?_);rintro e w4 ⟨A4,c4,rfl,hv4,Ag⟩;have hx:=(hx.trans hx3).trans Ag;have hv3:=hv3.ext Ag;clear o1 o2 hx3 Ag
  go_upto_region 7 with fail
  obtain⟨W,hW,hE,hb1,hb2⟩:=MG w4 (.bool sx) (.slice A3 (pc 1000000000 x.natAbs).length c3) (.bool sy) (.slice A4 (pc 1000000000 y.natAbs).length c4) 272 272;rw [←hW];have hv3:=hv3.ext hE;have hv4:=hv4.ext hE;have B9:=hx.trans hE;have k1:W.cell? ⟨w4.heap.size,0,none⟩=some (.bool sx):=Aa hb1 rfl;have k2:W.cell? ⟨w4.heap.size,1,none⟩=some (.slice A3 (pc 1000000000 x.natAbs).length c3):=Aa hb1 rfl;have k3:W.cell? ⟨w4.heap.size+1,0,none⟩=some (.bool sy):=Aa hb2 rfl;have k4:W.cell? ⟨w4.heap.size+1,1,none⟩=some (.slice A4 (pc 1000000000 y.natAbs).length c4):=Aa hb2 rfl;have LO:w.heap.size<=w4.heap.size:=hx.size;clear hW hE hx;by_cases hs:sx=sy
  ·subst hs;have hm:=M1.out rfl;have HM:=Ao4 hm;clear hm M1 M2 M3;(go_wp2_with fail);have ht:=kP (pc 1000000000 x.natAbs) (pc 1000000000 y.natAbs) _ _ W.drew (hv3.ext (Ab.refl W).drew).rd (hv4.ext (Ab.refl W).drew).rd (by omega) (by omega) (B8 b9 _) (B8 b9 _);rw [Bn b9,Bn b9]at ht;have hc:=fun W2 v2 (h:Ab W.drew W2) (h2:Rd W2 v2 _)=>Fy sx (x.natAbs+y.natAbs) v2 W2 (hw.ext (B9.drew.trans h)) h2;rw [MK,HM.out]at hc
   go_region_held3 (fun w'=>w'.cell? ⟨w4.heap.size,0,none⟩=some (.bool sx)/\w'.cell? ⟨w4.heap.size,1,none⟩=some (.slice A3 (pc 1000000000 x.natAbs).length c3)/\w'.cell? ⟨w4.heap.size+1,0,none⟩=some (.bool sx)/\w'.cell? ⟨w4.heap.size+1,1,none⟩=some (.slice A4 (pc 1000000000 y.natAbs).length c4))
    (first|go_keep|exact⟨Ae.cellS k1,Ae.cellS k2,Ae.cellS k3,Ae.cellS k4⟩|exact⟨(Ae.trans AG).cellS k1,(Ae.trans AG).cellS k2,(Ae.trans AG).cellS k3,(Ae.trans AG).cellS k4⟩)
    (first|((with_reducible refine ht.mono ?_);rintro e w5 ⟨v5,rfl,⟨A5,c5,rfl,hv5⟩,Ae⟩)|((with_reducible refine(hc _ _ Ae hv5.rd).mono ?_);rintro e w6 ⟨rfl,AG⟩))
   go_wp2;go_ret;exact⟨rfl,(B9.drew.trans Ae).trans AG⟩
  ·have FG:(sx == sy)=false:=(by rw [beq_eq_false_iff_ne];exact hs);have Zk:=Ao4 (M2.out hs);have Zl:=Ao4 (M3.out (Ne.symm hs));clear hs M1 M2 M3;have ho:=QP (pc 1000000000 x.natAbs) (pc 1000000000 y.natAbs) _ _ W hv3.rd hv4.rd (B8 b9 _) (B8 b9 _) (G8 b9 _) (G8 b9 _);rw [Bn b9,Bn b9]at ho;by_cases hl:x.natAbs<y.natAbs
   ·rw [ML hl]at ho;have HM:=Ao4 (Zl.out (Nat.le_of_lt hl));clear Zk Zl;(go_wp2_with fail);(with_reducible refine ho.mono ?_);rintro e w5 ⟨rfl,Ae⟩;have g1:=Ae.cellS k1;have g2:=Ae.cellS k2;have g3:=Ae.cellS k3;have g4:=Ae.cellS k4;have j1:=fun o=>Aj (o:=o) ((Ae.block _ (Ao5 hb1)).trans hb1);have j2:=fun o=>Aj (o:=o) ((Ae.block _ (Ao5 hb2)).trans hb2);(go_wp2_with fail);obtain⟨V,hV,hB,hK⟩:=Alq (Y9.mk g1 g2 g3 g4);rw [←hV];have Uf:Ab w V:=hK.ext w (B9.trans Ae) LO;have hv3:=hK.rd _ _ _ (hv3.ext Ae);have hv4:=hK.rd _ _ _ (hv4.ext Ae);have g1:=hB.k1;have g2:=hB.k2;have g3:=hB.k3;have g4:=hB.k4;clear hV j1 j2 hB hK Ae B9 k1 k2 k3 k4 hb1 hb2 ho;have ht:=Ur (pc 1000000000 y.natAbs) (pc 1000000000 x.natAbs) _ _ V.drew (hv4.ext (Ab.refl V).drew).rd (hv3.ext (Ab.refl V).drew).rd (by omega) (B8 b9 _) (B8 b9 _) (LZ (Nat.le_of_lt hl)) (by rw [Bn b9,Bn b9];exact Nat.le_of_lt hl);rw [Bn b9,Bn b9]at ht;have hc:=fun W2 v2 (h:Ab V.drew W2) (h2:Rd W2 v2 _)=>Fy sy (y.natAbs-x.natAbs) v2 W2 (hw.ext (Uf.drew.trans h)) h2;rw [MK,HM.out]at hc
    go_region_held3 (fun w'=>w'.cell? ⟨w4.heap.size,0,none⟩=some (.bool sy)/\w'.cell? ⟨w4.heap.size,1,none⟩=some (.slice A4 (pc 1000000000 y.natAbs).length c4)/\w'.cell? ⟨w4.heap.size+1,0,none⟩=some (.bool sx)/\w'.cell? ⟨w4.heap.size+1,1,none⟩=some (.slice A3 (pc 1000000000 x.natAbs).length c3))
     (first|go_keep|exact⟨Ae.cellS g1,Ae.cellS g2,Ae.cellS g3,Ae.cellS g4⟩|exact⟨(Ae.trans AG).cellS g1,(Ae.trans AG).cellS g2,(Ae.trans AG).cellS g3,(Ae.trans AG).cellS g4⟩)
     (first|((with_reducible refine ht.mono ?_);rintro e w5 ⟨v5,rfl,⟨A5,c5,rfl,hv5⟩,Ae⟩)|((with_reducible refine(hc _ _ Ae hv5.rd).mono ?_);rintro e w6 ⟨rfl,AG⟩))
    go_wp2;go_ret;exact⟨rfl,(Uf.drew.trans Ae).trans AG⟩
   ·have hge:y.natAbs<=x.natAbs:=Nat.le_of_not_lt hl
    obtain⟨s,hs,hs0⟩:∃s:Int,s=El x.natAbs y.natAbs/\¬s<0:=by
     rcases Nat.lt_or_eq_of_le hge with h|h
     ·exact⟨_,rfl,by rw [Lb h];omega⟩
     ·exact⟨_,rfl,by rw [PI h.symm];omega⟩
    rw [←hs]at ho;have HM:=Ao4 (Zk.out hge);clear Zk Zl hs hl;(go_wp2_with fail);(with_reducible refine ho.mono ?_);rintro e w5 ⟨rfl,Ae⟩;have g1:=Ae.cellS k1;have g2:=Ae.cellS k2;have g3:=Ae.cellS k3;have g4:=Ae.cellS k4;(go_wp2_with fail);have Uf:=B9.trans Ae;have hv3:=hv3.ext Ae;have hv4:=hv4.ext Ae;clear Ae B9 k1 k2 k3 k4 hb1 hb2 ho;have ht:=Ur (pc 1000000000 x.natAbs) (pc 1000000000 y.natAbs) _ _ w5.drew (hv3.ext (Ab.refl w5).drew).rd (hv4.ext (Ab.refl w5).drew).rd (by omega) (B8 b9 _) (B8 b9 _) (LZ hge) (by rw [Bn b9,Bn b9];exact hge);rw [Bn b9,Bn b9]at ht;have hc:=fun W2 v2 (h:Ab w5.drew W2) (h2:Rd W2 v2 _)=>Fy sx (x.natAbs-y.natAbs) v2 W2 (hw.ext (Uf.drew.trans h)) h2;rw [MK,HM.out]at hc
    go_region_held3 (fun w'=>w'.cell? ⟨w4.heap.size,0,none⟩=some (.bool sx)/\w'.cell? ⟨w4.heap.size,1,none⟩=some (.slice A3 (pc 1000000000 x.natAbs).length c3)/\w'.cell? ⟨w4.heap.size+1,0,none⟩=some (.bool sy)/\w'.cell? ⟨w4.heap.size+1,1,none⟩=some (.slice A4 (pc 1000000000 y.natAbs).length c4))
     (first|go_keep|exact⟨Aw.cellS g1,Aw.cellS g2,Aw.cellS g3,Aw.cellS g4⟩|exact⟨(Aw.trans AG).cellS g1,(Aw.trans AG).cellS g2,(Aw.trans AG).cellS g3,(Aw.trans AG).cellS g4⟩)
     (first|((with_reducible refine ht.mono ?_);rintro e w7 ⟨v5,rfl,⟨A5,c5,rfl,hv5⟩,Aw⟩)|((with_reducible refine(hc _ _ Aw hv5.rd).mono ?_);rintro e w6 ⟨rfl,AG⟩))
    go_wp2;go_ret;exact⟨rfl,(Uf.drew.trans Aw).trans AG⟩
theorem je(x y:Int)(hx:AV x)(hy:AV y)(w:World)(hw:Am w):Calls Tryz.prog 213 #[S (I x),S (I y)] w (By (I (x+y)) w):=by
 by_cases h:(I x).length<=18/\(I y).length<=18
 ·exact AgE x y h.1 h.2 w hw
 ·exact AgD x y hx hy h w hw
theorem ud(x y:Int)(q r:Int)(hy:y≠0)(h:r+y*q=x)(h0:0<=r)(h1:r<y.natAbs):x/y=q/\x%y=r:=by
 rcases Int.lt_or_gt_of_ne hy with hy|hy
 ·exact(Int.ediv_emod_unique' hy).2 ⟨h,h0,by omega⟩
 ·exact(Int.ediv_emod_unique hy).2 ⟨h,h0,by omega⟩
theorem Adm(x y:Int)(hy:y≠0) :
  (x<0→0<x.natAbs%y.natAbs→(if (decide (x<0) != decide (y<0))=true then -((x.natAbs/y.natAbs+1:Nat):Int)else ((x.natAbs/y.natAbs+1:Nat):Int))=x/y/\((y.natAbs-x.natAbs%y.natAbs:Nat):Int)=x%y)/\
  (¬(x<0/\0<x.natAbs%y.natAbs)→(if (decide (x<0) != decide (y<0))=true then -((x.natAbs/y.natAbs:Nat):Int)else ((x.natAbs/y.natAbs:Nat):Int))=x/y/\((x.natAbs%y.natAbs:Nat):Int)=x%y):=by
 have hm:=Nat.div_add_mod x.natAbs y.natAbs;have hl:=Nat.mod_lt x.natAbs (show 0<y.natAbs by omega);obtain⟨q,hq⟩:=Ao3 (x.natAbs/y.natAbs);obtain⟨m,hmm⟩:=Ao3 (x.natAbs%y.natAbs);rw [←hq,←hmm]at hm ⊢;rw [←hmm]at hl;obtain⟨a,ha⟩:=Int.eq_nat_or_neg x;obtain⟨b,hb⟩:=Int.eq_nat_or_neg y;have e:((y.natAbs*q+m:Nat):Int)=(x.natAbs:Int):=(by rw [hm]);rw [Int.natCast_add,Int.natCast_mul]at e;constructor
 ·intro h1 h2;refine(fun h:_/\_=>⟨h.1.symm,h.2.symm⟩) (ud x y _ _ hy ?_ (by omega) (by omega));by_cases BA:y<0
  ·simp only [h1,BA,decide_true,bne_self_eq_false,Bool.false_eq_true,if_false];have:(y.natAbs:Int) = -y:=(by omega);rw [this]at e;rw [Int.natCast_add,Int.mul_add];rw [Int.neg_mul]at e;generalize y*(q:Int)=P at *;omega
  ·rw [decide_eq_true h1,decide_eq_false BA,if_pos (by decide)];have:(y.natAbs:Int)=y:=(by omega);rw [this]at e;rw [Int.natCast_add,Int.neg_add,Int.mul_add,Int.mul_neg];generalize y*(q:Int)=P at *;omega
 ·intro h1;refine(fun h:_/\_=>⟨h.1.symm,h.2.symm⟩) (ud x y _ _ hy ?_ (by omega) (by omega));by_cases hx0:x<0<;>by_cases BA:y<0
  ·simp only [hx0,BA,decide_true,bne_self_eq_false,Bool.false_eq_true,if_false];have:(y.natAbs:Int) = -y:=(by omega);rw [this,Int.neg_mul]at e;generalize y*(q:Int)=P at *;omega
  ·rw [decide_eq_true hx0,decide_eq_false BA,if_pos (by decide)];have:(y.natAbs:Int)=y:=(by omega);rw [this]at e;rw [Int.mul_neg];generalize y*(q:Int)=P at *;omega
  ·rw [decide_eq_false hx0,decide_eq_true BA,if_pos (by decide)];have:(y.natAbs:Int) = -y:=(by omega);rw [this,Int.neg_mul]at e;rw [Int.mul_neg];generalize y*(q:Int)=P at *;omega
  ·simp only [hx0,BA,bne_self_eq_false,Bool.false_eq_true,if_false];have:(y.natAbs:Int)=y:=(by omega);rw [this]at e;generalize y*(q:Int)=P at *;omega
theorem Vk(n:Nat):ER false n=I (n:Int):=by rw [MK];rfl
def Sr(x y:Int):Value:=.tuple #[S (I (x/y)),S (I (x%y)),.int .i64 0]
theorem Adr(x y:Int)(q m:Nat)(hq:q=x.natAbs/y.natAbs)(hm:m=x.natAbs%y.natAbs)(DZ:x<0)(hm0:0<m)(hx:AV x)(hy:AV y)(BA:y≠0)(E1:ER (decide (x<0) != decide (y<0)) (q+1)=I (x/y))(E2:ER false (y.natAbs-m)=I (x%y))(w:World)(hw:Am w) :
  Calls Tryz.prog 265 #[S (I x),S (I y)] w (BG (Sr x y) w):=by
 have lx:=hx.pc;have ly:=hy.pc;have jb:=RE BA;obtain⟨sx,Fe⟩:=Ao3 (decide (x<0));obtain⟨sy,G3⟩:=Ao3 (decide (y<0));have o1:=K1 x hx sx Fe;have o2:=K1 y hy sy G3;have De:m<y.natAbs:=(by rw [hm];exact Nat.mod_lt _ (by omega));have IE:(pc 1000000000 q).length<=445:=AoH (LZ (by rw [hq];exact Nat.div_le_self _ _)) lx;have hmn:(pc 1000000000 m).length<=(pc 1000000000 y.natAbs).length:=LZ (Nat.le_of_lt De);have hd:=fun u v W hu hv=>VO x.natAbs y.natAbs (by omega) (by omega) u v W hu hv;rw [←hq,←hm]at hd;rw [←Fe,←G3]at E1;have N1:=Fe;rw [decide_eq_true DZ]at N1;subst N1;have Qw:0<(pc 1000000000 m).length:=List.length_pos_iff.2 fun h=>(by have:=(QT b9).1 h;omega);clear Fe G3 hq hm DZ
 cases sy
 ·change ER true _=_ at E1
  have IW:=Ao4 E1;have Fp:=Ao4 E2;clear E1 E2;go_enter Tryz.func265,Tryz.ntmps265;(go_wp2_with fail);(with_reducible refine(o1 _).mono ?_);rintro e w3 ⟨A3,c3,rfl,hv3,hx3⟩;(go_wp2_with fail);(with_reducible refine(o2 _).mono ?_);rintro e w4 ⟨A4,c4,rfl,hv4,Ag⟩;have hx:=hx3.trans Ag;have hv3:=hv3.ext Ag;clear o1 o2 hx3 Ag
  go_upto_region 4 with fail
  obtain⟨W,hW,hE,hb1,hb2⟩:=MG w4 (.bool true) (.slice A3 (pc 1000000000 x.natAbs).length c3) (.bool false) (.slice A4 (pc 1000000000 y.natAbs).length c4) 272 272;rw [←hW];have hv3:=hv3.ext hE;have hv4:=hv4.ext hE;have B9:=hx.trans hE;have k1:W.cell? ⟨w4.heap.size,0,none⟩=some (.bool true):=Aa hb1 rfl;have k2:W.cell? ⟨w4.heap.size,1,none⟩=some (.slice A3 (pc 1000000000 x.natAbs).length c3):=Aa hb1 rfl;have k3:W.cell? ⟨w4.heap.size+1,0,none⟩=some (.bool false):=Aa hb2 rfl;have k4:W.cell? ⟨w4.heap.size+1,1,none⟩=some (.slice A4 (pc 1000000000 y.natAbs).length c4):=Aa hb2 rfl;clear hW hE hx hb1 hb2;have hd:=hd _ _ W hv3.rd hv4.rd;(go_wp2_with fail);(with_reducible refine hd.mono ?_);rintro e w5 ⟨vq,vm,rfl,⟨A5,c5,rfl,hv5⟩,⟨A6,c6,rfl,Ff⟩,Ae⟩;have k1:=Ae.cellS k1;have k2:=Ae.cellS k2;have k3:=Ae.cellS k3;have k4:=Ae.cellS k4;have hv4:=hv4.ext Ae;have B9:=B9.trans Ae;clear hd Ae hv3;(go_wp2_with fail)
  have Kk:BX (w5.alloc (.cells #[.int .u64 1] 179)) (some ⟨w5.heap.size,0,none⟩) 1 [1]:=
   ⟨by simp,by omega,by simp,fun _=>⟨w5.heap.size,0,rfl,fun j hj=>by
    obtain rfl:j=0:=by simpa using hj
    rw [World.cell?_alloc_at _ _ _ _ (by rfl)];simp [Ap]⟩⟩
  have AQ:=(Ab.refl w5).alloc (.cells #[.int .u64 1] 179);have ht:=kP (pc 1000000000 q) [1] _ _ (w5.alloc (.cells #[.int .u64 1] 179)).drew (hv5.ext AQ.drew).rd (Kk.ext (Ab.refl _).drew).rd (by omega) (by simp) (B8 b9 _) (by intro z hz;simp only [AoJ]at hz;omega);rw [Bn b9,show Ao 1000000000 [1]=1 by rfl]at ht
  change Calls Tryz.prog 266 #[_,.slice _ 1 1] _ _ at ht
  have OK:=fun W2 (h:Ab (w5.alloc (.cells #[.int .u64 1] 179)).drew W2)=>Ur (pc 1000000000 y.natAbs) (pc 1000000000 m) _ _ W2 (hv4.ext (AQ.drew.trans h)).rd (Ff.ext (AQ.drew.trans h)).rd (by omega) (B8 b9 _) (B8 b9 _) hmn (by rw [Bn b9,Bn b9];exact Nat.le_of_lt De);simp only [Bn b9]at OK
  go_region_held3 (fun w'=>w'.cell? ⟨w4.heap.size+1,1,none⟩=some (.slice A4 (pc 1000000000 y.natAbs).length c4))
   (first|go_keep|exact(AQ.drew.trans Aw).cellS k4|exact(AQ.drew.trans (Aw.trans AX)).cellS k4)
   (first|((with_reducible refine ht.mono ?_);rintro e w7 ⟨v7,rfl,⟨A7,c7,rfl,hv7⟩,Aw⟩)|((with_reducible refine(OK _ Aw).mono ?_);rintro e w8 ⟨v8,rfl,⟨A8,c8,rfl,hv8⟩,AX⟩))
  have k1:=(AQ.drew.trans (Aw.trans AX)).cellS k1;have k3:=(AQ.drew.trans (Aw.trans AX)).cellS k3;have Ah:=B9.trans (AQ.drew.trans (Aw.trans AX));have hc1:=fun W2 (h:Ab w8 W2)=>Fy true (q+1) _ W2 (hw.ext (Ah.trans h)) (hv7.ext (AX.trans h)).rd;have hc2:=fun W2 (h:Ab w8 W2)=>Fy false (y.natAbs-m) _ W2 (hw.ext (Ah.trans h)) (hv8.ext h).rd;rw [IW.out]at hc1;rw [Fp.out]at hc2;clear Aw AX AQ B9 OK ht Kk hv7 hv8 k2 k4;(go_wp2_with fail);(with_reducible refine(hc1 _ (Ab.refl _)).mono ?_);rintro e wa ⟨rfl,AQ⟩;(go_wp2_with fail);(with_reducible refine(hc2 _ AQ).mono ?_);rintro e wb ⟨rfl,hxb⟩;go_wp2;go_ret3;exact⟨rfl,Ah.trans (AQ.trans hxb)⟩
 ·change ER false _=_ at E1
  have IW:=Ao4 E1;have Fp:=Ao4 E2;clear E1 E2;go_enter Tryz.func265,Tryz.ntmps265;(go_wp2_with fail);(with_reducible refine(o1 _).mono ?_);rintro e w3 ⟨A3,c3,rfl,hv3,hx3⟩;(go_wp2_with fail);(with_reducible refine(o2 _).mono ?_);rintro e w4 ⟨A4,c4,rfl,hv4,Ag⟩;have hx:=hx3.trans Ag;have hv3:=hv3.ext Ag;clear o1 o2 hx3 Ag
  go_upto_region 4 with fail
  obtain⟨W,hW,hE,hb1,hb2⟩:=MG w4 (.bool true) (.slice A3 (pc 1000000000 x.natAbs).length c3) (.bool true) (.slice A4 (pc 1000000000 y.natAbs).length c4) 272 272;rw [←hW];have hv3:=hv3.ext hE;have hv4:=hv4.ext hE;have B9:=hx.trans hE;have k1:W.cell? ⟨w4.heap.size,0,none⟩=some (.bool true):=Aa hb1 rfl;have k2:W.cell? ⟨w4.heap.size,1,none⟩=some (.slice A3 (pc 1000000000 x.natAbs).length c3):=Aa hb1 rfl;have k3:W.cell? ⟨w4.heap.size+1,0,none⟩=some (.bool true):=Aa hb2 rfl;have k4:W.cell? ⟨w4.heap.size+1,1,none⟩=some (.slice A4 (pc 1000000000 y.natAbs).length c4):=Aa hb2 rfl;clear hW hE hx hb1 hb2;have hd:=hd _ _ W hv3.rd hv4.rd;(go_wp2_with fail);(with_reducible refine hd.mono ?_);rintro e w5 ⟨vq,vm,rfl,⟨A5,c5,rfl,hv5⟩,⟨A6,c6,rfl,Ff⟩,Ae⟩;have k1:=Ae.cellS k1;have k2:=Ae.cellS k2;have k3:=Ae.cellS k3;have k4:=Ae.cellS k4;have hv4:=hv4.ext Ae;have B9:=B9.trans Ae;clear hd Ae hv3;(go_wp2_with fail)
  have Kk:BX (w5.alloc (.cells #[.int .u64 1] 179)) (some ⟨w5.heap.size,0,none⟩) 1 [1]:=
   ⟨by simp,by omega,by simp,fun _=>⟨w5.heap.size,0,rfl,fun j hj=>by
    obtain rfl:j=0:=by simpa using hj
    rw [World.cell?_alloc_at _ _ _ _ (by rfl)];simp [Ap]⟩⟩
  have AQ:=(Ab.refl w5).alloc (.cells #[.int .u64 1] 179);have ht:=kP (pc 1000000000 q) [1] _ _ (w5.alloc (.cells #[.int .u64 1] 179)).drew (hv5.ext AQ.drew).rd (Kk.ext (Ab.refl _).drew).rd (by omega) (by simp) (B8 b9 _) (by intro z hz;simp only [AoJ]at hz;omega);rw [Bn b9,show Ao 1000000000 [1]=1 by rfl]at ht
  change Calls Tryz.prog 266 #[_,.slice _ 1 1] _ _ at ht
  have OK:=fun W2 (h:Ab (w5.alloc (.cells #[.int .u64 1] 179)).drew W2)=>Ur (pc 1000000000 y.natAbs) (pc 1000000000 m) _ _ W2 (hv4.ext (AQ.drew.trans h)).rd (Ff.ext (AQ.drew.trans h)).rd (by omega) (B8 b9 _) (B8 b9 _) hmn (by rw [Bn b9,Bn b9];exact Nat.le_of_lt De);simp only [Bn b9]at OK
  go_region_held3 (fun w'=>w'.cell? ⟨w4.heap.size+1,1,none⟩=some (.slice A4 (pc 1000000000 y.natAbs).length c4))
   (first|go_keep|exact(AQ.drew.trans Aw).cellS k4|exact(AQ.drew.trans (Aw.trans AX)).cellS k4)
   (first|((with_reducible refine ht.mono ?_);rintro e w7 ⟨v7,rfl,⟨A7,c7,rfl,hv7⟩,Aw⟩)|((with_reducible refine(OK _ Aw).mono ?_);rintro e w8 ⟨v8,rfl,⟨A8,c8,rfl,hv8⟩,AX⟩))
  have k1:=(AQ.drew.trans (Aw.trans AX)).cellS k1;have k3:=(AQ.drew.trans (Aw.trans AX)).cellS k3;have Ah:=B9.trans (AQ.drew.trans (Aw.trans AX));have hc1:=fun W2 (h:Ab w8 W2)=>Fy false (q+1) _ W2 (hw.ext (Ah.trans h)) (hv7.ext (AX.trans h)).rd;have hc2:=fun W2 (h:Ab w8 W2)=>Fy false (y.natAbs-m) _ W2 (hw.ext (Ah.trans h)) (hv8.ext h).rd;rw [IW.out]at hc1;rw [Fp.out]at hc2;clear Aw AX AQ B9 OK ht Kk hv7 hv8 k2 k4;(go_wp2_with fail);(with_reducible refine(hc1 _ (Ab.refl _)).mono ?_);rintro e wa ⟨rfl,AQ⟩;(go_wp2_with fail);(with_reducible refine(hc2 _ AQ).mono ?_);rintro e wb ⟨rfl,hxb⟩;go_wp2;go_ret3;exact⟨rfl,Ah.trans (AQ.trans hxb)⟩
theorem Adp(x y:Int)(q m:Nat)(hq:q=x.natAbs/y.natAbs)(hm:m=x.natAbs%y.natAbs)(DZ:x<0)(hm0:m=0)(hx:AV x)(hy:AV y)(BA:y≠0)(E1:ER (decide (x<0) != decide (y<0)) q=I (x/y))(E2:ER false m=I (x%y))(w:World)(hw:Am w) :
  Calls Tryz.prog 265 #[S (I x),S (I y)] w (BG (Sr x y) w):=by
 have lx:=hx.pc;have ly:=hy.pc;have jb:=RE BA;obtain⟨sx,Fe⟩:=Ao3 (decide (x<0));obtain⟨sy,G3⟩:=Ao3 (decide (y<0));have o1:=K1 x hx sx Fe;have o2:=K1 y hy sy G3;have De:m<y.natAbs:=(by rw [hm];exact Nat.mod_lt _ (by omega));have IE:(pc 1000000000 q).length<=445:=AoH (LZ (by rw [hq];exact Nat.div_le_self _ _)) lx;have hmn:(pc 1000000000 m).length<=(pc 1000000000 y.natAbs).length:=LZ (Nat.le_of_lt De);have hd:=fun u v W hu hv=>VO x.natAbs y.natAbs (by omega) (by omega) u v W hu hv;rw [←hq,←hm]at hd;rw [←Fe,←G3]at E1;have N1:=Fe;rw [decide_eq_true DZ]at N1;subst N1;have Qw:(pc 1000000000 m).length=0:=(by rw [hm0,IL];rfl);have AnB:decide (0<(pc 1000000000 m).length)=false:=(by rw [Qw];rfl);clear Qw hm0;clear Fe G3 hq hm DZ
 cases sy
 ·change ER true _=_ at E1
  have IW:=Ao4 E1;have Fp:=Ao4 E2;clear E1 E2;go_enter Tryz.func265,Tryz.ntmps265;(go_wp2_with fail);(with_reducible refine(o1 _).mono ?_);rintro e w3 ⟨A3,c3,rfl,hv3,hx3⟩;(go_wp2_with fail);(with_reducible refine(o2 _).mono ?_);rintro e w4 ⟨A4,c4,rfl,hv4,Ag⟩;have hx:=hx3.trans Ag;have hv3:=hv3.ext Ag;clear o1 o2 hx3 Ag
  go_upto_region 4 with fail
  obtain⟨W,hW,hE,hb1,hb2⟩:=MG w4 (.bool true) (.slice A3 (pc 1000000000 x.natAbs).length c3) (.bool false) (.slice A4 (pc 1000000000 y.natAbs).length c4) 272 272;rw [←hW];have hv3:=hv3.ext hE;have hv4:=hv4.ext hE;have B9:=hx.trans hE;have k1:W.cell? ⟨w4.heap.size,0,none⟩=some (.bool true):=Aa hb1 rfl;have k2:W.cell? ⟨w4.heap.size,1,none⟩=some (.slice A3 (pc 1000000000 x.natAbs).length c3):=Aa hb1 rfl;have k3:W.cell? ⟨w4.heap.size+1,0,none⟩=some (.bool false):=Aa hb2 rfl;have k4:W.cell? ⟨w4.heap.size+1,1,none⟩=some (.slice A4 (pc 1000000000 y.natAbs).length c4):=Aa hb2 rfl;clear hW hE hx hb1 hb2;have hd:=hd _ _ W hv3.rd hv4.rd;(go_wp2_with fail);(with_reducible refine hd.mono ?_);rintro e w5 ⟨vq,vm,rfl,⟨A5,c5,rfl,hv5⟩,⟨A6,c6,rfl,Ff⟩,Ae⟩;have k1:=Ae.cellS k1;have k2:=Ae.cellS k2;have k3:=Ae.cellS k3;have k4:=Ae.cellS k4;have hv4:=hv4.ext Ae;have B9:=B9.trans Ae;clear hd Ae hv3;have hc1:=fun W2 (h:Ab w5 W2)=>Fy true q _ W2 (hw.ext (B9.trans h)) (hv5.ext h).rd;have hc2:=fun W2 (h:Ab w5 W2)=>Fy false m _ W2 (hw.ext (B9.trans h)) (Ff.ext h).rd;rw [IW.out]at hc1;rw [Fp.out]at hc2;clear k2 k4 hv4 hv5 Ff;(go_wp2_with fail);(with_reducible refine(hc1 _ (Ab.refl _)).mono ?_);rintro e wa ⟨rfl,AQ⟩;(go_wp2_with fail);(with_reducible refine(hc2 _ AQ).mono ?_);rintro e wb ⟨rfl,hxb⟩;go_wp2;go_ret3;exact⟨rfl,B9.trans (AQ.trans hxb)⟩
 ·change ER false _=_ at E1
  have IW:=Ao4 E1;have Fp:=Ao4 E2;clear E1 E2;go_enter Tryz.func265,Tryz.ntmps265;(go_wp2_with fail);(with_reducible refine(o1 _).mono ?_);rintro e w3 ⟨A3,c3,rfl,hv3,hx3⟩;(go_wp2_with fail);(with_reducible refine(o2 _).mono ?_);rintro e w4 ⟨A4,c4,rfl,hv4,Ag⟩;have hx:=hx3.trans Ag;have hv3:=hv3.ext Ag;clear o1 o2 hx3 Ag
  go_upto_region 4 with fail
  obtain⟨W,hW,hE,hb1,hb2⟩:=MG w4 (.bool true) (.slice A3 (pc 1000000000 x.natAbs).length c3) (.bool true) (.slice A4 (pc 1000000000 y.natAbs).length c4) 272 272;rw [←hW];have hv3:=hv3.ext hE;have hv4:=hv4.ext hE;have B9:=hx.trans hE;have k1:W.cell? ⟨w4.heap.size,0,none⟩=some (.bool true):=Aa hb1 rfl;have k2:W.cell? ⟨w4.heap.size,1,none⟩=some (.slice A3 (pc 1000000000 x.natAbs).length c3):=Aa hb1 rfl;have k3:W.cell? ⟨w4.heap.size+1,0,none⟩=some (.bool true):=Aa hb2 rfl;have k4:W.cell? ⟨w4.heap.size+1,1,none⟩=some (.slice A4 (pc 1000000000 y.natAbs).length c4):=Aa hb2 rfl;clear hW hE hx hb1 hb2;have hd:=hd _ _ W hv3.rd hv4.rd;(go_wp2_with fail);(with_reducible refine hd.mono ?_);rintro e w5 ⟨vq,vm,rfl,⟨A5,c5,rfl,hv5⟩,⟨A6,c6,rfl,Ff⟩,Ae⟩;have k1:=Ae.cellS k1;have k2:=Ae.cellS k2;have k3:=Ae.cellS k3;have k4:=Ae.cellS k4;have hv4:=hv4.ext Ae;have B9:=B9.trans Ae;clear hd Ae hv3;have hc1:=fun W2 (h:Ab w5 W2)=>Fy false q _ W2 (hw.ext (B9.trans h)) (hv5.ext h).rd;have hc2:=fun W2 (h:Ab w5 W2)=>Fy false m _ W2 (hw.ext (B9.trans h)) (Ff.ext h).rd;rw [IW.out]at hc1;rw [Fp.out]at hc2;clear k2 k4 hv4 hv5 Ff;(go_wp2_with fail);(with_reducible refine(hc1 _ (Ab.refl _)).mono ?_);rintro e wa ⟨rfl,AQ⟩;(go_wp2_with fail);(with_reducible refine(hc2 _ AQ).mono ?_);rintro e wb ⟨rfl,hxb⟩;go_wp2;go_ret3;exact⟨rfl,B9.trans (AQ.trans hxb)⟩
theorem Adq(x y:Int)(q m:Nat)(hq:q=x.natAbs/y.natAbs)(hm:m=x.natAbs%y.natAbs)(DZ:¬x<0)(hx:AV x)(hy:AV y)(BA:y≠0)(E1:ER (decide (x<0) != decide (y<0)) q=I (x/y))(E2:ER false m=I (x%y))(w:World)(hw:Am w) :
  Calls Tryz.prog 265 #[S (I x),S (I y)] w (BG (Sr x y) w):=by
 have lx:=hx.pc;have ly:=hy.pc;have jb:=RE BA;obtain⟨sx,Fe⟩:=Ao3 (decide (x<0));obtain⟨sy,G3⟩:=Ao3 (decide (y<0));have o1:=K1 x hx sx Fe;have o2:=K1 y hy sy G3;have De:m<y.natAbs:=(by rw [hm];exact Nat.mod_lt _ (by omega));have IE:(pc 1000000000 q).length<=445:=AoH (LZ (by rw [hq];exact Nat.div_le_self _ _)) lx;have hmn:(pc 1000000000 m).length<=(pc 1000000000 y.natAbs).length:=LZ (Nat.le_of_lt De);have hd:=fun u v W hu hv=>VO x.natAbs y.natAbs (by omega) (by omega) u v W hu hv;rw [←hq,←hm]at hd;rw [←Fe,←G3]at E1;have N1:=Fe;rw [decide_eq_false DZ]at N1;subst N1;clear Fe G3 hq hm DZ
 cases sy
 ·change ER false _=_ at E1
  have IW:=Ao4 E1;have Fp:=Ao4 E2;clear E1 E2;go_enter Tryz.func265,Tryz.ntmps265;(go_wp2_with fail);(with_reducible refine(o1 _).mono ?_);rintro e w3 ⟨A3,c3,rfl,hv3,hx3⟩;(go_wp2_with fail);(with_reducible refine(o2 _).mono ?_);rintro e w4 ⟨A4,c4,rfl,hv4,Ag⟩;have hx:=hx3.trans Ag;have hv3:=hv3.ext Ag;clear o1 o2 hx3 Ag
  go_upto_region 4 with fail
  obtain⟨W,hW,hE,hb1,hb2⟩:=MG w4 (.bool false) (.slice A3 (pc 1000000000 x.natAbs).length c3) (.bool false) (.slice A4 (pc 1000000000 y.natAbs).length c4) 272 272;rw [←hW];have hv3:=hv3.ext hE;have hv4:=hv4.ext hE;have B9:=hx.trans hE;have k1:W.cell? ⟨w4.heap.size,0,none⟩=some (.bool false):=Aa hb1 rfl;have k2:W.cell? ⟨w4.heap.size,1,none⟩=some (.slice A3 (pc 1000000000 x.natAbs).length c3):=Aa hb1 rfl;have k3:W.cell? ⟨w4.heap.size+1,0,none⟩=some (.bool false):=Aa hb2 rfl;have k4:W.cell? ⟨w4.heap.size+1,1,none⟩=some (.slice A4 (pc 1000000000 y.natAbs).length c4):=Aa hb2 rfl;clear hW hE hx hb1 hb2;have hd:=hd _ _ W hv3.rd hv4.rd;(go_wp2_with fail);(with_reducible refine hd.mono ?_);rintro e w5 ⟨vq,vm,rfl,⟨A5,c5,rfl,hv5⟩,⟨A6,c6,rfl,Ff⟩,Ae⟩;have k1:=Ae.cellS k1;have k2:=Ae.cellS k2;have k3:=Ae.cellS k3;have k4:=Ae.cellS k4;have hv4:=hv4.ext Ae;have B9:=B9.trans Ae;clear hd Ae hv3;have hc1:=fun W2 (h:Ab w5 W2)=>Fy false q _ W2 (hw.ext (B9.trans h)) (hv5.ext h).rd;have hc2:=fun W2 (h:Ab w5 W2)=>Fy false m _ W2 (hw.ext (B9.trans h)) (Ff.ext h).rd;rw [IW.out]at hc1;rw [Fp.out]at hc2;clear k2 k4 hv4 hv5 Ff;(go_wp2_with fail);(with_reducible refine(hc1 _ (Ab.refl _)).mono ?_);rintro e wa ⟨rfl,AQ⟩;(go_wp2_with fail);(with_reducible refine(hc2 _ AQ).mono ?_);rintro e wb ⟨rfl,hxb⟩;go_wp2;go_ret3;exact⟨rfl,B9.trans (AQ.trans hxb)⟩
 ·change ER true _=_ at E1
  have IW:=Ao4 E1;have Fp:=Ao4 E2;clear E1 E2;go_enter Tryz.func265,Tryz.ntmps265;(go_wp2_with fail);(with_reducible refine(o1 _).mono ?_);rintro e w3 ⟨A3,c3,rfl,hv3,hx3⟩;(go_wp2_with fail);(with_reducible refine(o2 _).mono ?_);rintro e w4 ⟨A4,c4,rfl,hv4,Ag⟩;have hx:=hx3.trans Ag;have hv3:=hv3.ext Ag;clear o1 o2 hx3 Ag
  go_upto_region 4 with fail
  obtain⟨W,hW,hE,hb1,hb2⟩:=MG w4 (.bool false) (.slice A3 (pc 1000000000 x.natAbs).length c3) (.bool true) (.slice A4 (pc 1000000000 y.natAbs).length c4) 272 272;rw [←hW];have hv3:=hv3.ext hE;have hv4:=hv4.ext hE;have B9:=hx.trans hE;have k1:W.cell? ⟨w4.heap.size,0,none⟩=some (.bool false):=Aa hb1 rfl;have k2:W.cell? ⟨w4.heap.size,1,none⟩=some (.slice A3 (pc 1000000000 x.natAbs).length c3):=Aa hb1 rfl;have k3:W.cell? ⟨w4.heap.size+1,0,none⟩=some (.bool true):=Aa hb2 rfl;have k4:W.cell? ⟨w4.heap.size+1,1,none⟩=some (.slice A4 (pc 1000000000 y.natAbs).length c4):=Aa hb2 rfl;clear hW hE hx hb1 hb2;have hd:=hd _ _ W hv3.rd hv4.rd;(go_wp2_with fail);(with_reducible refine hd.mono ?_);rintro e w5 ⟨vq,vm,rfl,⟨A5,c5,rfl,hv5⟩,⟨A6,c6,rfl,Ff⟩,Ae⟩;have k1:=Ae.cellS k1;have k2:=Ae.cellS k2;have k3:=Ae.cellS k3;have k4:=Ae.cellS k4;have hv4:=hv4.ext Ae;have B9:=B9.trans Ae;clear hd Ae hv3;have hc1:=fun W2 (h:Ab w5 W2)=>Fy true q _ W2 (hw.ext (B9.trans h)) (hv5.ext h).rd;have hc2:=fun W2 (h:Ab w5 W2)=>Fy false m _ W2 (hw.ext (B9.trans h)) (Ff.ext h).rd;rw [IW.out]at hc1;rw [Fp.out]at hc2;clear k2 k4 hv4 hv5 Ff;(go_wp2_with fail);(with_reducible refine(hc1 _ (Ab.refl _)).mono ?_);rintro e wa ⟨rfl,AQ⟩;(go_wp2_with fail);(with_reducible refine(hc2 _ AQ).mono ?_);rintro e wb ⟨rfl,hxb⟩;go_wp2;go_ret3;exact⟨rfl,B9.trans (AQ.trans hxb)⟩
theorem jf(x y:Int)(hx:AV x)(hy:AV y)(BA:y≠0)(w:World)(hw:Am w):Calls Tryz.prog 265 #[S (I x),S (I y)] w (BG (Sr x y) w):=by
 obtain⟨hB,hA⟩:=Adm x y BA;by_cases DZ:x<0
 ·rcases Nat.eq_zero_or_pos (x.natAbs%y.natAbs)with h|h
  ·obtain⟨e1,e2⟩:=hA (by omega);exact Adp x y _ _ rfl rfl DZ h hx hy BA (by rw [MK,e1]) (by rw [Vk,e2]) w hw
  ·obtain⟨e1,e2⟩:=hB DZ h;exact Adr x y _ _ rfl rfl DZ h hx hy BA (by rw [MK,e1]) (by rw [Vk,e2]) w hw
 ·obtain⟨e1,e2⟩:=hA (by omega);exact Adq x y _ _ rfl rfl DZ hx hy BA (by rw [MK,e1]) (by rw [Vk,e2]) w hw
section
theorem AdO(s:Bool)(A:Option Addr)(n c:Nat)(W:World):(Instr.field 272 (.agg #[.bool s,.slice A n c]) 1).run Tryz.prog W=.ok (.slice A n c) W:=by
 simp [Instr.field,run_underlying Tryz.underlying272,asAgg,part]
attribute [local go_sem] AdO
theorem uI(a b:Int):Int.gcd b (a.tmod b)=Int.gcd a b:=by
 unfold Int.gcd;rw [Int.natAbs_tmod,Nat.gcd_comm b.natAbs,←Nat.gcd_rec,Nat.gcd_comm]
theorem ma(a:Int){b:Int}(h:b≠0):(a.tmod b).natAbs<b.natAbs:=by
 rw [Int.natAbs_tmod];exact Nat.mod_lt _ (by omega)
theorem AgH(x y:Int)(hx:(I x).length<=18)(hy:(I y).length<=18)(w:World)(hw:Am w) :
  Calls Tryz.prog 166 #[S (I x),S (I y)] w (By (D (Int.gcd x y)) w):=by
 have q1:=NH x;have q2:=NH y;rw [Md hx]at q1;rw [Md hy]at q2;have b1:=NK hx;have b2:=NK hy;have e18:(10:Nat)^18=1000000000000000000:=(by decide);rw [e18]at b1 b2;obtain⟨g,hg⟩:=Ao3 (Int.gcd x y);rw [←hg];have HG:=Ao4 hg.symm;clear hx hy e18 hg;go_enter Tryz.func166,Tryz.ntmps166;(go_wp2_with fail);(with_reducible refine(q1 _).mono ?_);rintro e w1 ⟨rfl,hx1⟩;(go_wp2_with fail);(with_reducible refine(q2 _).mono ?_);rintro e w2 ⟨rfl,hx2⟩;have hx:=hx1.trans hx2;clear hx1 hx2 q1 q2;go_wp2
 go_loopw [5,7] (fun u v wr=>∃a b:Int,u=.int .i64 a/\v=.int .i64 b/\Int.gcd a b=g/\a.natAbs<1000000000000000000/\b.natAbs<1000000000000000000/\Ab w wr) (fun _ v _=>(intOf v).natAbs)
 case atStart=>exact⟨x,y,rfl,rfl,HG.out,b1,b2,hx⟩
 case round=>
  obtain⟨a,b,rfl,rfl,GU,ha,hb,Ac⟩:=hrel;by_cases hb0:b=0
  ·subst hb0;have L1:a.natAbs=g:=(by rw [←GU];simp);have hmx:max a (-a)=(g:Int):=(by omega);have ho:=fun W hW=>iQ (g:Int) (by omega) (by omega) W hW;have Br:((0:Int) != 0)=false:=(by rfl);clear L1 GU;rw [EN]at ho;have Nv:IntKind.i64.wrap (-a) = -a:=AoD _ (by omega);(go_wp2_with fail);(with_reducible refine(ho _ (hw.ext Ac)).mono ?_);rintro e w3 ⟨rfl,hx3⟩;go_wp2;go_ret;exact⟨rfl,Ac.trans hx3⟩
  ·have hlt:=ma a hb0;have Qq:(a.tmod b).natAbs<1000000000000000000:=Nat.lt_trans hlt hb;have Fb:=uI a b;have Tk:(b != 0)=true:=(by rw [bne_iff_ne];exact hb0);have AB:(b == 0)=false:=(by rw [beq_eq_false_iff_ne];exact hb0);have Mz:=Ao4 (Fb.trans GU);clear Fb GU;(go_wp2_with fail)
   go_quiet (fail)
   go_wp2;go_roundw
   case rel=>exact⟨b,a.tmod b,rfl,rfl,Mz.out,hb,Qq,Ac.drewN _⟩
   case measure=>exact hlt
theorem AgG(x y:Int)(hx:AV x)(hy:AV y)(hn:¬((I x).length<=18/\(I y).length<=18))(w:World)(hw:Am w) :
  Calls Tryz.prog 166 #[S (I x),S (I y)] w (By (D (Int.gcd x y)) w):=by
 have q1:=NH x;have q2:=NH y;have lx:=hx.pc;have ly:=hy.pc;have o1:=K1 x hx _ rfl;have o2:=K1 y hy _ rfl;obtain⟨g,hg⟩:=Ao3 (Int.gcd x y);rw [←hg];have HG:=Ao4 hg.symm;clear hx hy hg;by_cases h1:(I x).length<=18
 case' pos=>rw [Md h1]at q1;rw [QZ fun h=>hn ⟨h1,h⟩]at q2;clear h1 hn;go_enter Tryz.func166,Tryz.ntmps166;(go_wp2_with fail);(with_reducible refine(q1 _).mono ?_);rintro e w1 ⟨rfl,hx1⟩;(go_wp2_with fail);(with_reducible refine(q2 _).mono ?_);rintro e w2 ⟨rfl,hx2⟩;have hx:=hx1.trans hx2;clear hx1 hx2;(go_wp2_with fail)
 case' neg=>rw [QZ h1]at q1;clear h1 hn;go_enter Tryz.func166,Tryz.ntmps166;(go_wp2_with fail);(with_reducible refine(q1 _).mono ?_);rintro e w2 ⟨rfl,hx⟩;(go_wp2_with fail)
 all_goals
  clear q1 q2;(with_reducible refine(o1 _).mono ?_);rintro e w3 ⟨A3,c3,rfl,hv3,hx3⟩;(go_wp2_with fail);(with_reducible refine(o2 _).mono ?_);rintro e w4 ⟨A4,c4,rfl,hv4,Ag⟩;have hx:=(hx.trans hx3).trans Ag;have hv3:=hv3.ext Ag;clear o1 o2 hx3 Ag;go_wp2
  go_loopg [9,10] y.natAbs (fun k u v wr=>∃a:Nat,Rd wr u (pc 1000000000 a)/\Rd wr v (pc 1000000000 k)/\Nat.gcd a k=g/\(pc 1000000000 a).length<=445/\(pc 1000000000 k).length<=445/\Ab w wr)
  case atStart=>exact⟨x.natAbs,hv3.rd,hv4.rd,HG.out,lx,ly,hx⟩
  case round=>
   obtain⟨a,ha,⟨B,cb,rfl,hb⟩,hg,Gz,G0,Ac⟩:=hrel;obtain⟨b,rfl⟩:=Ao3 gk;have mZ:=Ao4 hg;clear hg hx hv3 hv4 lx ly;by_cases hb0:b=0
   ·subst hb0;have L1:a=g:=(by rw [←mZ.out];simp);subst L1;have hl0:(pc 1000000000 0).length=0:=(by rw [IL];rfl);have hl:decide (0<(pc 1000000000 0).length)=false:=(by rw [hl0];rfl);have hl':¬0<(pc 1000000000 0).length:=(by omega);obtain⟨A,ca,rfl,ha⟩:=ha;have hc:=Fy false a _ _ (hw.ext Ac) ha.rd;rw [Vk,EN]at hc;clear hl0;(go_wp2_with fail);(with_reducible refine hc.mono ?_);rintro e w5 ⟨rfl,Ae⟩;go_wp2;go_ret;exact⟨rfl,Ac.trans Ae⟩
   ·have hp:0<(pc 1000000000 b).length:=List.length_pos_iff.2 fun h=>(by have:=(QT b9).1 h;omega);have hd:=VO a b (by omega) (by omega) _ _ _ ha hb.rd;have hb:=hb;(go_wp2_with fail);(with_reducible refine hd.mono ?_);rintro e w5 ⟨vq,vr,rfl,hq,hr,Ae⟩;go_wp2
    go_roundg (a%b)
    case measure=>exact Nat.mod_lt _ (by omega)
    case rel=>exact⟨b,(hb.ext Ae).rd,hr,by rw [←mZ.out,Nat.gcd_comm b,←Nat.gcd_rec,Nat.gcd_comm],G0,AoH (LZ (Nat.le_of_lt (Nat.mod_lt _ (by omega)))) G0,Ac.trans Ae⟩
theorem AgF(x y:Int)(hx:AV x)(hy:AV y)(w:World)(hw:Am w):Calls Tryz.prog 166 #[S (I x),S (I y)] w (By (D (Int.gcd x y)) w):=by
 by_cases h:(I x).length<=18/\(I y).length<=18
 ·exact AgH x y h.1 h.2 w hw
 ·exact AgG x y hx hy h w hw
end
def EC(x y:Int):Int:=if x<y then -1 else if x=y then 0 else 1
theorem rN{x y:Int}(h:x<y):EC x y = -1:=by unfold EC;rw [if_pos h]
theorem ZJ{x y:Int}(h:y<x):EC x y=1:=by unfold EC;rw [if_neg (by omega),if_neg (by omega)]
theorem AcH{x y:Int}(h:x=y):EC x y=0:=by unfold EC;rw [if_neg (by omega),if_pos h]
theorem rP:∀(l k:Bs),Ch l→Ch k→l.length=k.length→Lib.compareBytes l k=El (val l) (val k)
 | [],[],_,_,_=>by simp [Lib.compareBytes,El]
 | [],_::_,_,_,h=>by simp at h
 | _::_,[],_,_,h=>by simp at h
 | a::l,b::k,ha,hb,h=>by
  rw [Vw]at ha hb;simp only [List.length_cons,Nat.add_right_cancel_iff]at h;have ih:=rP l k ha.2 hb.2 h;have hl:=Mo ha.2;have hk:=Mo hb.2;rw [Ro,Ro,Lib.compareBytes,h];rw [h]at hl;have Tu:=ha.1.1;have yM:=hb.1.1;generalize 10^k.length=p at *
  rcases Nat.lt_trichotomy (dv a) (dv b)with hd|hd|hd
  ·have h1:a<b:=(by rw [UInt8.lt_iff_toNat_lt];unfold dv at hd;omega);have h2:dv a*p+p<=dv b*p:=(by rw [←Nat.succ_mul];exact Nat.mul_le_mul_right _ hd);rw [if_pos h1,ML (by omega)]
  ·have h1:a=b:=by have:a.toNat=b.toNat:=(by unfold dv at hd;omega);exact UInt8.toNat_inj.1 this
   subst h1;rw [if_neg (by rw [UInt8.lt_iff_toNat_lt];omega),if_neg (by rw [UInt8.lt_iff_toNat_lt];omega),ih];unfold El;simp only [Nat.add_lt_add_iff_left,Nat.add_left_cancel_iff]
  ·have h1:b<a:=(by rw [UInt8.lt_iff_toNat_lt];unfold dv at hd;omega);have h0:¬a<b:=(by rw [UInt8.lt_iff_toNat_lt]at h1 ⊢;omega);have h2:dv b*p+p<=dv a*p:=(by rw [←Nat.succ_mul];exact Nat.mul_le_mul_right _ hd);rw [if_neg h0,if_pos h1,Lb (by omega)]
theorem mN{m n:Nat}(h:(D m).length<(D n).length):m<n:=by
 rcases Nat.eq_zero_or_pos n with rfl|hn
 ·have e:(D 0).length=1:=(by rw [FQ (by omega)];rfl);have:=UN m;omega
 ·have h1:=kz m;have h2:=qi n hn;have h3:10^(D m).length<=10^((D n).length-1):=Nat.pow_le_pow_right (by omega) (by omega);omega
theorem tz(z:Int):-1<=FN z/\FN z<=1:=by unfold FN;split<;>(try split)<;>omega
theorem td{x y:Int}(h:FN x<FN y):x<y:=by
 unfold FN at h;split at h<;>split at h<;>(try split at h)<;>(try split at h)<;>omega
theorem tq(z:Int):FN z*(z.natAbs:Int)=z:=by
 unfold FN
 split
 ·omega
 ·split<;>omega
theorem iP(x y:Int)(hx:AV x)(hy:AV y)(w:World):Calls Tryz.prog 165 #[S (I x),S (I y)] w (AI (EC x y) w):=by
 have s1:=QA x;have s2:=QA y;have r1:=tz x;have r2:=tz y;have t1:=mA (I x) [45];have t2:=mA (I y) [45];rw [lZ]at t1 t2;have c1:=AcM (D x.natAbs) (D y.natAbs);have l1:=hx.len;have l2:=hy.len
 have hcl:(D x.natAbs).length=(D y.natAbs).length→Lib.compareBytes (D x.natAbs) (D y.natAbs)=El x.natAbs y.natAbs:=fun h=>by
  have:=rP _ _ (Eh x.natAbs) (Eh y.natAbs) h
  rwa [IT,IT]at this
 have k1:(D x.natAbs).length<(D y.natAbs).length→x.natAbs<y.natAbs:=mN;have k2:(D y.natAbs).length<(D x.natAbs).length→y.natAbs<x.natAbs:=mN;have a1:=tq x;have a2:=tq y;have GX:=@td x y;have hlt2:=@td y x;obtain⟨s,hs⟩:=Ao3 (FN x);obtain⟨t,ht⟩:=Ao3 (FN y);rw [←hs]at s1 r1 a1 GX hlt2;rw [←ht]at s2 r2 a2 GX hlt2;clear hs ht
 rcases Int.lt_trichotomy s t with h|h|h
 ·have HR:=Ao4 (rN (GX h));have hne:(s != t)=true:=(by rw [bne_iff_ne];omega);clear a1 a2 GX hlt2 t1 t2 c1 hcl k1 k2;go_enter Tryz.func165,Tryz.ntmps165;(go_wp2_with fail);(with_reducible refine(s1 _).mono ?_);rintro e w1 ⟨rfl,hx1⟩;(go_wp2_with fail);(with_reducible refine(s2 _).mono ?_);rintro e w2 ⟨rfl,hx2⟩;go_wp2;go_ret;exact⟨DJ HR.out,hx1.trans hx2⟩
 ·subst h;have hne:(s != s)=false:=by simp
  have ja:(D y.natAbs).length<=4001:=by
   rcases E0 y with⟨n,rfl,e⟩|⟨n,hn,rfl,e⟩
   ·rw [e]at l2;simpa using l2
   ·rw [e,List.length_cons]at l2;rw [show (-(n:Int)).natAbs=n by omega];omega
  have hxl:(D x.natAbs).length<=4001:=by
   rcases E0 x with⟨n,rfl,e⟩|⟨n,hn,rfl,e⟩
   ·rw [e]at l1;simpa using l1
   ·rw [e,List.length_cons]at l1;rw [show (-(n:Int)).natAbs=n by omega];omega
  obtain⟨cb,hcb⟩:=Ao3 (Lib.compareBytes (D x.natAbs) (D y.natAbs));rw [←hcb]at c1 hcl;have Nz:s=0∨s=1∨s = -1:=by omega
  have hcm:∀{m n:Nat},x=s*m→y=s*n→s*El m n=EC x y:=by
   intro m n e1 e2;rw [e1,e2]
   rcases Nz with rfl|rfl|rfl
   ·simp [EC]
   ·unfold El EC;simp only [Int.one_mul];split<;>split<;>(try split)<;>omega
   ·unfold El EC;split<;>split<;>(try split)<;>(try split)<;>omega
  have HC:=Ao4 (@hcm x.natAbs y.natAbs a1.symm a2.symm);obtain⟨A,hA⟩:=Ao3 (D x.natAbs);obtain⟨B,hB⟩:=Ao3 (D y.natAbs);rw [←hA]at t1 c1 hcl k1 k2 hxl;rw [←hB]at t2 c1 hcl k1 k2 ja
  rcases Nat.lt_trichotomy A.length B.length with hl|hl|hl
  ·have hk:=k1 hl
   have HR:Hid (EC x y=IntKind.i64.wrap (-s)):=Ao4 (by
    rw [←HC.out,ML hk,AoD (-s) (by omega)];omega)
   have ii:IntKind.i64.wrap (-s) = -s:=AoD _ (by omega);have G1:((A.length:Int) != (B.length:Int))=true:=(by rw [bne_iff_ne];omega);have hR2:Hid (-s=EC x y):=Ao4 (by rw [HR.out,ii]);clear a1 a2 GX hlt2 c1 hcl k1 k2 hcb hA hB HC HR Nz hcm hk l1 l2;go_enter Tryz.func165,Tryz.ntmps165;(go_wp2_with fail);(with_reducible refine(s1 _).mono ?_);rintro e w1 ⟨rfl,hx1⟩;(go_wp2_with fail);(with_reducible refine(s2 _).mono ?_);rintro e w2 ⟨rfl,hx2⟩;(go_wp2_with fail);(with_reducible refine(t1 _).mono ?_);rintro e w3 ⟨rfl,hx3⟩;(go_wp2_with fail);(with_reducible refine(t2 _).mono ?_);rintro e w4 ⟨rfl,Ag⟩;go_wp2;go_ret;exact⟨DJ hR2.out.symm,((hx1.trans hx2).trans hx3).trans Ag⟩
  ·have hq:=hcl hl;have hcr:-1<=cb/\cb<=1:=by rw [hq];unfold El;split<;>(try split)<;>omega
   have hsc:-1<=s*cb/\s*cb<=1:=by rcases Nz with rfl|rfl|rfl<;>omega
   have hR2:Hid (s*cb=EC x y):=Ao4 (by rw [hq];exact HC.out);have ii:IntKind.i64.wrap (s*cb)=s*cb:=AoD _ (by omega);have G1:((A.length:Int) != (B.length:Int))=false:=(by rw [hl];simp);clear a1 a2 GX hlt2 hcl k1 k2 hcb hA hB HC Nz hcm hq l1 l2 hsc;have HL:=Ao4 hl;clear hl;go_enter Tryz.func165,Tryz.ntmps165;(go_wp2_with fail);(with_reducible refine(s1 _).mono ?_);rintro e w1 ⟨rfl,hx1⟩;(go_wp2_with fail);(with_reducible refine(s2 _).mono ?_);rintro e w2 ⟨rfl,hx2⟩;(go_wp2_with fail);(with_reducible refine(t1 _).mono ?_);rintro e w3 ⟨rfl,hx3⟩;(go_wp2_with fail);(with_reducible refine(t2 _).mono ?_);rintro e w4 ⟨rfl,Ag⟩;(go_wp2_with fail);(with_reducible refine(c1 _).mono ?_);rintro e w5 ⟨rfl,Ae⟩;go_wp2;go_ret;exact⟨DJ hR2.out.symm,(((hx1.trans hx2).trans hx3).trans Ag).trans Ae⟩
  ·have hk:=k2 hl;have hR2:Hid (s=EC x y):=Ao4 (by rw [←HC.out,Lb hk];omega);have G1:((A.length:Int) != (B.length:Int))=true:=(by rw [bne_iff_ne];omega);have hnl:¬A.length<B.length:=(by omega);clear a1 a2 GX hlt2 c1 hcl k1 k2 hcb hA hB HC Nz hcm hk l1 l2;go_enter Tryz.func165,Tryz.ntmps165;(go_wp2_with fail);(with_reducible refine(s1 _).mono ?_);rintro e w1 ⟨rfl,hx1⟩;(go_wp2_with fail);(with_reducible refine(s2 _).mono ?_);rintro e w2 ⟨rfl,hx2⟩;(go_wp2_with fail);(with_reducible refine(t1 _).mono ?_);rintro e w3 ⟨rfl,hx3⟩;(go_wp2_with fail);(with_reducible refine(t2 _).mono ?_);rintro e w4 ⟨rfl,Ag⟩;go_wp2;go_ret;exact⟨DJ hR2.out.symm,((hx1.trans hx2).trans hx3).trans Ag⟩
 ·have HR:=Ao4 (ZJ (hlt2 h));have hne:(s != t)=true:=(by rw [bne_iff_ne];omega);have hnl:¬s<t:=(by omega);clear a1 a2 GX hlt2 t1 t2 c1 hcl k1 k2;go_enter Tryz.func165,Tryz.ntmps165;(go_wp2_with fail);(with_reducible refine(s1 _).mono ?_);rintro e w1 ⟨rfl,hx1⟩;(go_wp2_with fail);(with_reducible refine(s2 _).mono ?_);rintro e w2 ⟨rfl,hx2⟩;go_wp2;go_ret;exact⟨DJ HR.out,hx1.trans hx2⟩
/-! ### Check -/
theorem AbU(s:ByteArray):∀(k i:Nat) (r:List UInt8),s.size-i=k→r.length<=(ByteArray.toList.loop s i r).length:=by
 intro k
 induction k with
 | zero=>intro i r h;unfold ByteArray.toList.loop;rw [if_neg (by omega)];simp
 | succ k ih=>
  intro i r h;unfold ByteArray.toList.loop
  split
  ·have:=ih (i+1) (s.get! i::r) (by omega);simp only [List.length_cons]at this;omega
  ·simp
theorem Z6{s:ByteArray}(h:0<s.size):¬s.toList = []:=by
 intro e;unfold ByteArray.toList ByteArray.toList.loop at e;rw [if_pos h]at e;have:=AbU s _ 1 [s.get! 0] rfl;rw [show 0+1=1 from rfl]at e;rw [e]at this;simp at this
open Classical in
theorem AcA(t:Bs)(mn:Bool):¬YA t mn↔t = []∨200<t.length∨(∃m,t=48::m/\(m≠[]∨mn=true))∨∃j,∃h:j<t.length,¬FS t[j]:=by
 constructor
 ·intro h;by_cases h1:t = []
  ·exact .inl h1
  ·by_cases h2:200<t.length
   ·exact .inr (.inl h2)
   ·by_cases h3:∃m,t=48::m/\(m≠[]∨mn=true)
    ·exact .inr (.inr (.inl h3))
    ·refine .inr (.inr (.inr (Classical.byContradiction fun h4=>h ⟨h1,by omega,fun m e=>?_,fun c hc=>?_⟩)))
     ·constructor
      ·exact Classical.byContradiction fun h5=>h3 ⟨m,e,.inl h5⟩
      ·cases mn
       ·rfl
       ·exact absurd ⟨m,e,.inr rfl⟩ h3
     ·obtain⟨j,hj,e⟩:=List.mem_iff_getElem.1 hc;exact Classical.byContradiction fun h5=>h4 ⟨j,hj,by rw [e];exact h5⟩
 ·rintro(h|h|⟨m,e,h⟩|⟨j,hj,h⟩) hc
  ·exact hc.ne h
  ·have:=hc.len;omega
  ·have:=hc.zero m e
   rcases h with h|h
   ·exact h this.1
   ·rw [this.2]at h;cases h
  ·exact h (hc.all _ (Ao8 hj))
def FY(b:Bool):Int:=if b then 0 else 2
theorem Ek:FY true=0:=rfl
theorem Gm:FY false=2:=rfl
theorem Acz(l:Bs)(ht:Lib.trimPrefix l [45] = [])(w:World):Calls Tryz.prog 164 #[S l] w (AI 2 w):=by
 have hc:=Sp l [45];rw [ht]at hc;go_enter Tryz.func164,Tryz.ntmps164;(go_wp2_with fail);(with_reducible refine(hc _).mono ?_);rintro e w1 ⟨rfl,hx1⟩;go_wp2;go_ret;exact⟨rfl,hx1⟩
theorem Ac0(l t:Bs)(ht:Lib.trimPrefix l [45]=t)(h2:200<t.length)(w:World):Calls Tryz.prog 164 #[S l] w (AI 2 w):=by
 have hc:=Sp l [45];rw [ht]at hc;have hne:(t == [])=false:=(by rw [beq_eq_false_iff_ne];rintro rfl;simp at h2);have h2i:(200:Int)<(t.length:Int):=(by omega);clear ht;go_enter Tryz.func164,Tryz.ntmps164;(go_wp2_with fail);(with_reducible refine(hc _).mono ?_);rintro e w1 ⟨rfl,hx1⟩;go_wp2;go_ret;exact⟨rfl,hx1⟩
theorem rC(l m:Bs)(mn:Bool)(ht:Lib.trimPrefix l [45]=48::m)(hmn:[45].isPrefixOf l=mn)(h2:(48::m).length<=200)(h3:m≠[]∨mn=true)(w:World):Calls Tryz.prog 164 #[S l] w (AI 2 w):=by
 have hc:=Sp l [45];rw [ht,hmn]at hc;obtain⟨s,hs⟩:=Ao3 (⟨(48::m).toArray⟩:ByteArray);have hsz:s.size=m.length+1:=(by rw [hs,FX];rfl);obtain⟨c,WH⟩:=Ao3 (48:UInt8);have hs0:0<s.size:=(by omega);have e0:s[0]=c:=(by rw [WH];subst hs;rw [Sb];rfl);have hce:((c.toNat:Int) == 48)=true:=(by rw [WH];rfl);have hsm:(s.size:Int)<=200:=(by simp only [List.length_cons]at h2;omega);have AnO:¬(200:Int)<(s.size:Int):=(by omega);have hc:∀w,Calls Tryz.prog 201 #[S l,S [45]] w (BG (.tuple #[.string s,.bool mn]) w):=(by rw [hs];exact hc);have hne:=Z6 hs0
 rcases h3 with h3|h3
 ·have h1:(1:Int)<(s.size:Int):=(by have:=List.length_pos_iff.2 h3;omega);clear ht hmn hs hsz WH h3;go_enter Tryz.func164,Tryz.ntmps164;(go_wp2_with fail);(with_reducible refine(hc _).mono ?_);rintro e w1 ⟨rfl,hx1⟩;go_wp2;go_ret;exact⟨rfl,hx1⟩
 ·subst h3;clear ht hmn hs WH
  rcases Nat.lt_or_ge 1 s.size with h1|h1
  all_goals
   go_enter Tryz.func164,Tryz.ntmps164;(go_wp2_with fail);(with_reducible refine(hc _).mono ?_);rintro e w1 ⟨rfl,hx1⟩;go_wp2;go_ret;exact⟨rfl,hx1⟩
theorem Ac1(l t:Bs)(mn:Bool)(s:ByteArray)(hc:∀w,Calls Tryz.prog 201 #[S l,S [45]] w (BG (.tuple #[.string s,.bool mn]) w))(Is:Hid (s.size=t.length))(hs0:0<s.size)(hsm:(s.size:Int)<=200)
  (HG:Hid (∀(j:Nat) (h:j<s.size) (h':j<t.length),s[j]=t[j])) (c:UInt8) (e0:s[0]=c) (b:Bool) (HB:Hid (b=true↔Ch t)) (hf:((c.toNat:Int) == 48)=false) (w:World):Calls Tryz.prog 164 #[S l] w (AI (FY b) w):=by
 have hne:=Z6 hs0
 have G1:s.toList.isEmpty=false:=by cases h:s.toList with|nil=>exact absurd h hne|cons _ _=>rfl
 have dU:decide ((200:Int)<(s.size:Int))=false:=(by rw [decide_eq_false_iff_not];omega);go_enter Tryz.func164,Tryz.ntmps164;(go_wp2_with fail);(with_reducible refine(hc _).mono ?_);rintro e w1 ⟨rfl,hx1⟩;go_wp2;clear hc hne G1 dU hf e0
 go_loop [33] (fun i=>∃j:Nat,j<=s.size/\i=.int .i64 (j:Nat)/\Ch (t.take j)) (fun i=>s.size-(intOf i).toNat)
 case atStart=>exact⟨0,by omega,rfl,by simp [pG]⟩
 case round=>
  obtain⟨j,hj,rfl,hall⟩:=hrel;by_cases hlt:j<s.size
  ·have OH:j<t.length:=(by rw [←Is.out];exact hlt);obtain⟨d,hd⟩:∃d,s[j]=d:=⟨_,rfl⟩;have Lv:t[j]=d:=(by rw [←hd,HG.out j hlt OH]);have HD:=Ao4 Lv;clear Lv;by_cases Jq:FS d
   ·have d1:=Jq.1;have d2:=Jq.2;have c1:¬(d.toNat:Int)<48:=(by omega);have c2:¬(57:Int)<(d.toNat:Int):=(by omega);clear d1 d2;go_wp2
    go_round
    case rel=>exact⟨j+1,by omega,by go_num,by rw [AoA OH,HD.out];exact PC.2 ⟨hall,by intro x hx;simp only [AoJ]at hx;rw [hx];exact Jq⟩⟩
    case measure=>simp [intOf];omega
   ·have O9:b=false:=by
     cases b
     ·rfl
     ·exact absurd (HB.out.1 rfl _ (Ao8 OH)) (by rw [HD.out];exact Jq)
    subst O9;rw [Gm];by_cases c1:(d.toNat:Int)<48
    ·go_wp2;go_ret;exact⟨rfl,hx1⟩
    ·have c2:(57:Int)<(d.toNat:Int):=by refine Classical.byContradiction fun h=>Jq ⟨by omega,by omega⟩
     go_wp2;go_ret;exact⟨rfl,hx1⟩
  ·have Gu:b=true:=HB.out.2 (by rw [AoF (by rw [←Is.out];omega)]at hall;exact hall);subst Gu;rw [Ek];have hle:(s.size:Int)<=(j:Int):=(by omega);go_wp2;go_ret;exact⟨rfl,hx1⟩
theorem Ac2(l t:Bs)(mn:Bool)(s:ByteArray)(hc:∀w,Calls Tryz.prog 201 #[S l,S [45]] w (BG (.tuple #[.string s,.bool mn]) w))(Is:Hid (s.size=t.length))(hs0:0<s.size)(hsm:(s.size:Int)<=200)
  (HG:Hid (∀(j:Nat) (h:j<s.size) (h':j<t.length),s[j]=t[j])) (c:UInt8) (e0:s[0]=c) (b:Bool) (HB:Hid (b=true↔Ch t)) (hf:((c.toNat:Int) == 48)=true) (hs1:s.size=1) (hmn:mn=false) (w:World):Calls Tryz.prog 164 #[S l] w (AI (FY b) w):=by
 have hne:=Z6 hs0
 have G1:s.toList.isEmpty=false:=by cases h:s.toList with|nil=>exact absurd h hne|cons _ _=>rfl
 have dU:decide ((200:Int)<(s.size:Int))=false:=(by rw [decide_eq_false_iff_not];omega);have h1:decide ((1:Int)<(s.size:Int))=false:=(by rw [decide_eq_false_iff_not];omega);subst hmn;clear hs1;go_enter Tryz.func164,Tryz.ntmps164;(go_wp2_with fail);(with_reducible refine(hc _).mono ?_);rintro e w1 ⟨rfl,hx1⟩;go_wp2;clear hc hne G1 dU hf e0
 go_loop [33] (fun i=>∃j:Nat,j<=s.size/\i=.int .i64 (j:Nat)/\Ch (t.take j)) (fun i=>s.size-(intOf i).toNat)
 case atStart=>exact⟨0,by omega,rfl,by simp [pG]⟩
 case round=>
  obtain⟨j,hj,rfl,hall⟩:=hrel;by_cases hlt:j<s.size
  ·have OH:j<t.length:=(by rw [←Is.out];exact hlt);obtain⟨d,hd⟩:∃d,s[j]=d:=⟨_,rfl⟩;have Lv:t[j]=d:=(by rw [←hd,HG.out j hlt OH]);have HD:=Ao4 Lv;clear Lv;by_cases Jq:FS d
   ·have d1:=Jq.1;have d2:=Jq.2;have c1:¬(d.toNat:Int)<48:=(by omega);have c2:¬(57:Int)<(d.toNat:Int):=(by omega);clear d1 d2;go_wp2
    go_round
    case rel=>exact⟨j+1,by omega,by go_num,by rw [AoA OH,HD.out];exact PC.2 ⟨hall,by intro x hx;simp only [AoJ]at hx;rw [hx];exact Jq⟩⟩
    case measure=>simp [intOf];omega
   ·have O9:b=false:=by
     cases b
     ·rfl
     ·exact absurd (HB.out.1 rfl _ (Ao8 OH)) (by rw [HD.out];exact Jq)
    subst O9;rw [Gm];by_cases c1:(d.toNat:Int)<48
    ·go_wp2;go_ret;exact⟨rfl,hx1⟩
    ·have c2:(57:Int)<(d.toNat:Int):=by refine Classical.byContradiction fun h=>Jq ⟨by omega,by omega⟩
     go_wp2;go_ret;exact⟨rfl,hx1⟩
  ·have Gu:b=true:=HB.out.2 (by rw [AoF (by rw [←Is.out];omega)]at hall;exact hall);subst Gu;rw [Ek];have hle:(s.size:Int)<=(j:Int):=(by omega);go_wp2;go_ret;exact⟨rfl,hx1⟩
theorem rB(l t:Bs)(mn:Bool)(ht:Lib.trimPrefix l [45]=t)(hmn:[45].isPrefixOf l=mn)(h0:t≠[])(h2:t.length<=200)(h3:∀m,t=48::m→m = []/\mn=false)
  (b:Bool) (hb:b=true↔Ch t) (w:World):Calls Tryz.prog 164 #[S l] w (AI (FY b) w):=by
 have hc0:=Sp l [45];rw [ht,hmn]at hc0;obtain⟨s,hs⟩:=Ao3 (⟨t.toArray⟩:ByteArray);have hsz:s.size=t.length:=(by rw [hs,FX]);have hs0:0<s.size:=by have:=List.length_pos_iff.2 h0;omega
 have EG:∀(j:Nat) (h:j<s.size) (h':j<t.length),s[j]=t[j]:=by intro j h h';subst hs;rw [Sb];simp [List.getD,h']
 have hsm:(s.size:Int)<=200:=(by omega);have hc:∀w,Calls Tryz.prog 201 #[S l,S [45]] w (BG (.tuple #[.string s,.bool mn]) w):=(by rw [hs];exact hc0);clear hc0;by_cases h:s[0]=48
 ·match t,h0,EG,h3,hsz,hb with
  | d::m,_,EG,h3,hsz,hb=>have:=EG 0 hs0 (by simp);rw [h]at this;simp only [List.getElem_cons_zero]at this;obtain⟨hm,hf⟩:=h3 m (by rw [this]);exact Ac2 l _ mn s hc (Ao4 hsz) hs0 hsm (Ao4 EG) _ rfl b (Ao4 hb) (by rw [h];rfl) (by rw [hsz,hm];rfl) hf w
 ·refine Ac1 l _ mn s hc (Ao4 hsz) hs0 hsm (Ao4 EG) _ rfl b (Ao4 hb) ?_ w;rw [beq_eq_false_iff_ne];intro e;exact h (UInt8.toNat_inj.1 (by simp;omega))
open Classical in
theorem Uk(l:Bs)(w:World):Calls Tryz.prog 164 #[S l] w (AI (if KR l then 0 else 2) w):=by
 by_cases h:YA (Lib.trimPrefix l [45]) ([45].isPrefixOf l)
 ·rw [if_pos ((rG l).2 h)];exact rB l _ _ rfl rfl h.ne h.len h.zero true ⟨fun _=>h.all,fun _=>rfl⟩ w
 ·rw [if_neg (fun k=>h ((rG l).1 k))];by_cases h1:Lib.trimPrefix l [45] = []
  ·exact Acz l h1 w
  ·by_cases h2:200<(Lib.trimPrefix l [45]).length
   ·exact Ac0 l _ rfl h2 w
   ·rcases(AcA _ _).1 h with h3|h3|⟨m,e,h3⟩|⟨j,hj,h3⟩
    ·exact absurd h3 h1
    ·exact absurd h3 h2
    ·exact rC l m _ e rfl (by rw [←e];omega) h3 w
    ·by_cases h4:∀m,Lib.trimPrefix l [45]=48::m→m = []/\[45].isPrefixOf l=false
     ·exact rB l _ _ rfl rfl h1 (by omega) h4 false (Iff.intro (fun k=>by cases k) (fun k=>absurd (k _ (Ao8 hj)) h3)) w
     ·obtain⟨m,e⟩:∃m,Lib.trimPrefix l [45]=48::m/\(m≠[]∨[45].isPrefixOf l=true):=by
       refine Classical.byContradiction fun k=>h4 fun m e=>?_;constructor
       ·exact Classical.byContradiction fun q=>k ⟨m,e,.inl q⟩
       ·rcases hq:[45].isPrefixOf l with _|_
        ·rfl
        ·exact absurd ⟨m,e,.inr hq⟩ k
      exact rC l m _ e.1 rfl (by rw [←e.1];omega) e.2 w
section
theorem qx(n:Int)(d:Nat)(hd:0<d)(Jy:-9000000000000000000<=n)(Cf:n<=9000000000000000000)(Fa:d<=9000000000000000000)(w:World)(hw:Am w) :
  Calls Tryz.prog 211 #[.int .i64 n,.int .i64 (d:Nat)] w (By (R (mkRat n d)) w):=by
 obtain⟨g,hg⟩:=Ao3 (Nat.gcd n.natAbs d);have hg0:0<g:=(by rw [hg];exact Nat.gcd_pos_of_pos_right _ hd);obtain⟨n',hn'⟩:=Ao3 (n/(g:Nat):Int);obtain⟨d',C2⟩:=Ao3 (d/g:Nat);have hR:R (mkRat n d)=Fz n' d':=(by rw [Zo n hd,←hg,←hn',←C2]);have hgn:((g:Nat):Int)∣n:=Int.natAbs_dvd_natAbs.1 (by rw [Ao9,hg];exact Nat.gcd_dvd_left ..);have e1:n.tdiv (g:Int)=n':=(by rw [hn',Int.tdiv_eq_ediv_of_dvd hgn]);have e2:(d:Int)/(g:Int)=(d':Int):=(by rw [C2];simp);have b1:n'.natAbs<=n.natAbs:=(by rw [hn'];exact Uu _ _ hgn);have b2:d'<=d:=(by rw [C2];exact Nat.div_le_self _ _);have hgd:g<=d:=(by rw [hg];exact Nat.gcd_le_right _ hd);have ln:(I n').length<=20:=NX (z:=n') (k:=19) (by omega) (by omega);have ld:(D d').length<=19:=GA (by omega) (by omega);have HR:=Ao4 hR;have HG:=Ao4 hg;have H1:=Ao4 e1;have H2:=Ao4 e2;have i1:=fun W hW=>QB n' (by omega) (by omega) W hW;have i2:=fun W hW=>QB (d':Int) (by omega) (by omega) W hW;clear hR hg e1 e2 hn' C2 hgn;go_enter Tryz.func211,Tryz.ntmps211;go_wp2
 go_loopw [5,6] (fun x y wr=>∃a b:Int,x=.int .i64 a/\y=.int .i64 b/\Int.gcd a b=g/\a.natAbs<=9000000000000000000/\b.natAbs<=9000000000000000000/\Ab w wr) (fun _ y _=>(intOf y).natAbs)
 case atStart=>exact⟨n,d,rfl,rfl,by rw [HG.out];rfl,by omega,by omega,Ab.refl _⟩
 case round=>
  obtain⟨a,b,rfl,rfl,GU,ha,hb,Ac⟩:=hrel;by_cases hb0:b=0
  ·subst hb0;have L1:a.natAbs=g:=(by rw [←GU];simp);by_cases Nv:a<0
   case' pos=>obtain rfl:a = -(g:Int):=by omega
   case' neg=>obtain rfl:a=(g:Int):=by omega
   all_goals
    clear L1 GU;have e1:=H1.out;have e2:=H2.out;have Nm:(0:Int)<(g:Int):=(by omega);have hgz:((g:Int) == 0)=false:=(by rw [beq_eq_false_iff_ne];omega);by_cases GW:d'=1
    ·subst GW;have HF:Hid (R (mkRat n d)=I n'):=Ao4 (by rw [HR.out];rfl);(go_wp2_with fail)
     go_quiet (fail)
     (go_wp2_with fail);(with_reducible refine(i1 _ (hw.ext (Ac.drewN _))).mono ?_);rintro e w3 ⟨rfl,hx3⟩;go_wp2;go_ret;exact⟨IO (by rw [HF.out]),(Ac.drewN _).trans hx3⟩
    ·have HF:Hid (R (mkRat n d)=I n'++47::D d'):=Ao4 (by rw [HR.out];exact if_neg GW);have yM:((d':Int) == 1)=false:=(by rw [beq_eq_false_iff_ne];omega);rw [EN]at i2;clear GW;(go_wp2_with fail)
     go_quiet (fail)
     (go_wp2_with fail);(with_reducible refine(i1 _ (hw.ext (Ac.drewN _))).mono ?_);rintro e w3 ⟨rfl,hx3⟩;have hx3:=(Ac.drewN _).trans hx3;(go_wp2_with fail);(with_reducible refine(i2 _ (hw.ext hx3)).mono ?_);rintro e w4 ⟨rfl,Ag⟩;go_wp2;go_ret;exact⟨IO (by rw [HF.out];apply ByteArray.ext;simp),hx3.trans Ag⟩
  ·have hlt:=ma a hb0;have Qq:(a.tmod b).natAbs<=9000000000000000000:=AoH (Nat.le_of_lt hlt) hb;have Fb:=uI a b;have Tk:(b != 0)=true:=(by rw [bne_iff_ne];exact hb0);have AB:(b == 0)=false:=(by rw [beq_eq_false_iff_ne];exact hb0);have Mz:=Ao4 (Fb.trans GU);clear Fb GU;(go_wp2_with fail)
   go_quiet (fail)
   go_wp2;go_roundw
   case rel=>exact⟨b,a.tmod b,rfl,rfl,Mz.out,hb,Qq,Ac.drewN _⟩
   case measure=>exact hlt
theorem qL(l:Bs)(j:Nat)(h:j<(⟨l.toArray⟩:ByteArray).size):(⟨l.toArray⟩:ByteArray)[j]=l[j]'(by rw [FX]at h;exact h):=by
 rw [ByteArray.getElem_eq_getElem_data];simp
attribute [local go_sem] qL
def AZ(q:Rat):Int:=if q=0 then 0 else if q<0 then -1 else 1
theorem su{q:Rat}(h:q<0):AZ q = -1:=by unfold AZ;rw [if_neg (by rintro rfl;exact Rat.lt_irrefl h),if_pos h]
theorem lJ{q:Rat}(h:0<q):AZ q=1:=by
 unfold AZ;rw [if_neg (by rintro rfl;exact Rat.lt_irrefl h),if_neg (by grind)]
theorem Ef{q:Rat}(h:q≠0):(R q == [48])=false:=by rw [beq_eq_false_iff_ne];exact fun e=>h (oI.1 e)
theorem Oc{q:Rat}(h:q≠1):(R q == [49])=false:=by rw [beq_eq_false_iff_ne];exact fun e=>h (AaZ.1 e)
theorem MC{k:Nat}{q:Rat}(hk:0<k)(h:Sz k q):(R q).length<=2*k+2:=by
 have h1:=NX hk h.num;have h2:=GA hk h.den;rw [Ob];unfold Fz
 split
 ·omega
 ·rw [List.length_append,List.length_cons];omega
theorem Ra(q:Rat)(w:World):Calls Tryz.prog 119 #[S (R q)] w (AI (AZ q) w):=by
 by_cases h0:q=0
 ·subst h0;rw [KT];go_enter Tryz.func119,Tryz.ntmps119;go_wp2;go_ret;exact⟨rfl,Ab.refl _⟩
 ·have h1:=Ef h0
  rcases Zn q with⟨hn,e⟩|⟨hp,c,l,e,hd,hc⟩
  ·have HS:=Ao4 (su hn);obtain⟨c,hc⟩:=Ao3 (45:UInt8);have hl:0<(R q).length:=(by rw [e];simp);have hg:(R q)[0]'hl=c:=(by rw [List.getElem_of_eq e hl,hc];rfl);have hcb:((c.toNat:Int) == 45)=true:=(by rw [hc];rfl);clear e hc hn;go_enter Tryz.func119,Tryz.ntmps119;go_wp2;go_ret;exact⟨DJ HS.out,Ab.refl _⟩
  ·have HS:=Ao4 (lJ (q:=q) (by grind));have hl:0<(R q).length:=(by rw [e];simp);have hg:(R q)[0]'hl=c:=(by rw [List.getElem_of_eq e hl];rfl);have hcb:((c.toNat:Int) == 45)=false:=(by rw [beq_eq_false_iff_ne];intro k;exact hc (UInt8.toNat_inj.1 (by simp;omega)));clear e hc hp hd;go_enter Tryz.func119,Tryz.ntmps119;go_wp2;go_ret;exact⟨DJ HS.out,Ab.refl _⟩
theorem AjD(q:Rat){k:Nat}(hk:0<k)(hk2:k<=100000)(hz:Sz k q)(w:World):Calls Tryz.prog 214 #[S (R q)] w (By (R (-q)) w):=by
 have hlen:=MC hk hz;by_cases h0:q=0
 ·subst h0;rw [Rat.neg_zero,KT];go_enter Tryz.func214,Tryz.ntmps214;go_wp2;go_ret;exact⟨rfl,Ab.refl _⟩
 ·have h1:=Ef h0
  rcases Zn q with⟨hn,e⟩|⟨hp,c,l,e,hd,hc⟩
  ·obtain⟨c,hc⟩:=Ao3 (45:UInt8);have hl:0<(R q).length:=(by rw [e];simp);have hg:(R q)[0]'hl=c:=(by rw [List.getElem_of_eq e hl,hc];rfl);have hcb:((c.toNat:Int) == 45)=true:=(by rw [hc];rfl);have HD:Hid ((R q).drop 1=R (-q)):=Ao4 (by rw [e];rfl);have GW:(1:Int)<=((R q).length:Int):=(by omega);clear e hc hn;go_enter Tryz.func214,Tryz.ntmps214;go_wp2;go_ret;exact⟨IO (by rw [←HD.out];first|exact tL _ _|(rw [S1];simp)),Ab.refl _⟩
  ·have HD:Hid (R (-q)=45::R q):=Ao4 (by
    have:=oJ (q:=-q) (by grind)
    rw [this,Rat.neg_neg])
   have hl:0<(R q).length:=(by rw [e];simp);have hg:(R q)[0]'hl=c:=(by rw [List.getElem_of_eq e hl];rfl);have hcb:((c.toNat:Int) == 45)=false:=(by rw [beq_eq_false_iff_ne];intro k;exact hc (UInt8.toNat_inj.1 (by simp;omega)));clear e hc hp hd;go_enter Tryz.func214,Tryz.ntmps214;go_wp2;go_ret;exact⟨IO (by rw [HD.out];apply ByteArray.ext;simp),Ab.refl _⟩
theorem Aj9(n:Int)(d:Nat)(hn:AV n)(hd:d<Big)(w:World):Calls Tryz.prog 221 #[S (I n),S (D d)] w (By (Fz n d) w):=by
 have ln:=hn.len;have ld:(D d).length<=4000:=GA (k:=VB) (by decide) hd;by_cases h:d=1
 ·subst h;have HF:Hid (Fz n 1=I n):=Ao4 (if_pos rfl);rw [UO];go_enter Tryz.func221,Tryz.ntmps221;go_wp2;go_ret;exact⟨IO (by rw [HF.out]),Ab.refl _⟩
 ·have HF:Hid (Fz n d=I n++47::D d):=Ao4 (if_neg h);have hb:(D d == [49])=false:=(by rw [beq_eq_false_iff_ne,←UO];exact fun e=>h (UM e));clear h;go_enter Tryz.func221,Tryz.ntmps221;go_wp2;go_ret;exact⟨IO (by rw [HF.out];apply ByteArray.ext;simp),Ab.refl _⟩
def QS(q:Rat):Value:=.tuple #[S (I q.num),S (D q.den)]
theorem qw(q:Rat){k:Nat}(hk:0<k)(hk2:k<=100000)(hz:Sz k q)(w:World)(hw:Am w):Calls Tryz.prog 187 #[S (R q)] w (BG (QS q) w):=by
 have hlen:=MC hk hz;have hc:=cut_c (R q) [47] w hw (by omega);rw [Vo]at hc;by_cases h:q.den=1
 ·rw [if_pos h]at hc;have HP:Hid (QS q=.tuple #[S (I q.num),S [49]]):=Ao4 (by unfold QS;rw [h,UO]);clear h;go_enter Tryz.func187,Tryz.ntmps187;(go_wp2_with fail);(with_reducible refine hc.mono ?_);rintro e w1 ⟨rfl,hx1⟩;go_wp2;go_ret2;exact⟨IP HP.out,hx1⟩
 ·rw [if_neg h]at hc;have HP:Hid (QS q=.tuple #[S (I q.num),S (D q.den)]):=Ao4 rfl;clear h;go_enter Tryz.func187,Tryz.ntmps187;(go_wp2_with fail);(with_reducible refine hc.mono ?_);rintro e w1 ⟨rfl,hx1⟩;go_wp2;go_ret2;exact⟨IP HP.out,hx1⟩
end
theorem Ym(n m:Int)(hm:0<m)(hn:AV n)(hd:AV m)(w:World):Calls Tryz.prog 221 #[S (I n),S (I m)] w (By (Fz n m.toNat) w):=by
 obtain⟨d,rfl⟩:=Int.eq_ofNat_of_zero_le (Int.le_of_lt hm);rw [EN];exact Aj9 n d hn hd w
theorem jg(x y:Int)(hx:AV x)(hy:AV y)(w:World)(hw:Am w):Calls Tryz.prog 166 #[S (I x),S (I y)] w (By (I (Int.gcd x y:Nat)) w):=by
 rw [EN];exact AgF x y hx hy w hw
theorem Yn(n m:Int)(hn:AV n)(hm:AV m)(hm0:0<m)(w:World)(hw:Am w):Calls Tryz.prog 212 #[S (I n),S (I m)] w (By (R (mkRat n m.toNat)) w):=by
 have hs:=QA m;rw [lK hm0]at hs;have hg:=jg n m hn hm;obtain⟨g,hgd⟩:=Ao3 (Int.gcd n m);have hR:=Zo n (d:=m.toNat) (by omega);have e0:Nat.gcd n.natAbs m.toNat=g:=(by rw [hgd];unfold Int.gcd;rw [show m.natAbs=m.toNat by omega]);rw [e0]at hR;have hg0:0<g:=(by rw [←e0];exact Nat.gcd_pos_of_pos_right _ (by omega));have hgb:g<=m.toNat:=(by rw [←e0];exact Nat.gcd_le_right _ (by omega));have hgn:((g:Nat):Int)∣n:=Int.natAbs_dvd_natAbs.1 (by rw [Ao9,←e0];exact Nat.gcd_dvd_left ..);have WV:((g:Nat):Int)∣m:=Int.natAbs_dvd_natAbs.1 (by rw [Ao9,←e0,show m.natAbs=m.toNat by omega];exact Nat.gcd_dvd_right ..);rw [←hgd]at hg;have bg:AV (g:Int):=(by unfold AV at hm ⊢;rw [Ao9];omega);by_cases h1:g=1
 ·have hj:=Ym n m hm0 hn hm;have HR:Hid (R (mkRat n m.toNat)=Fz n m.toNat):=Ao4 (by rw [hR,h1];simp);subst h1;rw [show I ((1:Nat):Int) = [49] from RF]at hg;clear hR e0 hgd hgn WV;go_enter Tryz.func212,Tryz.ntmps212;(go_wp2_with fail);(with_reducible refine(hs _).mono ?_);rintro e w1 ⟨rfl,hx⟩;(go_wp2_with fail);(with_reducible refine(hg _ (hw.ext hx)).mono ?_);rintro e w2 ⟨rfl,hx2⟩;replace hx:=hx.trans hx2;(go_wp2_with fail);(with_reducible refine(hj _).mono ?_);rintro e w3 ⟨rfl,hx3⟩;replace hx:=hx.trans hx3;go_wp2;go_ret;exact⟨IO (by rw [HR.out]),hx⟩
 ·have eL:(I (g:Int) == [49])=false:=oD (by omega);have d1:=jf n g hn bg (by omega);have d2:=jf m g hm bg (by omega);have bn:AV (n/(g:Int)):=Nat.lt_of_le_of_lt (Uu _ _ hgn) hn;have bm:AV (m/(g:Int)):=Nat.lt_of_le_of_lt (Uu _ _ WV) hm
  have hmg:0<m/(g:Int):=by obtain⟨k,hk⟩:=WV;rw [hk,Int.mul_ediv_cancel_left _ (by omega)];rw [hk]at hm0;exact Int.pos_of_mul_pos_right hm0 (by omega)
  have hj:=Ym (n/(g:Int)) (m/(g:Int)) hmg bn bm
  have HR:Hid (R (mkRat n m.toNat)=Fz (n/(g:Int)) (m/(g:Int)).toNat):=Ao4 (by
   rw [hR];obtain⟨d,rfl⟩:=Int.eq_ofNat_of_zero_le (Int.le_of_lt hm0)
   congr 1)
  clear hR e0 hgd hgn WV h1;unfold Sr at d1 d2;go_enter Tryz.func212,Tryz.ntmps212;(go_wp2_with fail);(with_reducible refine(hs _).mono ?_);rintro e w1 ⟨rfl,hx⟩;(go_wp2_with fail);(with_reducible refine(hg _ (hw.ext hx)).mono ?_);rintro e w2 ⟨rfl,hx2⟩;replace hx:=hx.trans hx2;(go_wp2_with fail);(with_reducible refine(d1 _ (hw.ext hx)).mono ?_);rintro e w3 ⟨rfl,hx3⟩;replace hx:=hx.trans hx3;(go_wp2_with fail);(with_reducible refine(d2 _ (hw.ext hx)).mono ?_);rintro e w4 ⟨rfl,Ag⟩;replace hx:=hx.trans Ag;(go_wp2_with fail);(with_reducible refine(hj _).mono ?_);rintro e w5 ⟨rfl,Ae⟩;replace hx:=hx.trans Ae;go_wp2;go_ret;exact⟨IO (by rw [HR.out]),hx⟩
end Go.Proofs.YtnddllipjippnaaGreatDoor
