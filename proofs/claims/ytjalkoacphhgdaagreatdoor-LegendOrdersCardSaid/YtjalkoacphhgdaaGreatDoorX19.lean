/- X19: IntD IntG Int9 IntC R1. -/
import Derived.Test.YtjalkoacphhgdaaGreatDoorX18
set_option maxRecDepth 100000
set_option maxHeartbeats 4000000
namespace Go.Proofs.YtjalkoacphhgdaaGreatDoor
open Go.RowKit Kl
theorem ud(x y:Int)(q r:Int)(hy:y≠0)(h:r+y*q=x)(h0:0<=r)(h1:r<y.natAbs):x/y=q/\x%y=r:=by
 rcases Int.lt_or_gt_of_ne hy with hy|hy
 ·exact(Int.ediv_emod_unique' hy).2 ⟨h,h0,by omega⟩
 ·exact(Int.ediv_emod_unique hy).2 ⟨h,h0,by omega⟩
theorem Aer(x y:Int)(hy:y≠0) :
  (x<0→0<x.natAbs%y.natAbs→(if (decide (x<0) != decide (y<0))=true then -((x.natAbs/y.natAbs+1:Nat):Int)else ((x.natAbs/y.natAbs+1:Nat):Int))=x/y/\((y.natAbs-x.natAbs%y.natAbs:Nat):Int)=x%y)/\
  (¬(x<0/\0<x.natAbs%y.natAbs)→(if (decide (x<0) != decide (y<0))=true then -((x.natAbs/y.natAbs:Nat):Int)else ((x.natAbs/y.natAbs:Nat):Int))=x/y/\((x.natAbs%y.natAbs:Nat):Int)=x%y):=by
 have hm:=Nat.div_add_mod x.natAbs y.natAbs;have hl:=Nat.mod_lt x.natAbs (show 0<y.natAbs by omega);obtain⟨q,hq⟩:=AqG (x.natAbs/y.natAbs);obtain⟨m,hmm⟩:=AqG (x.natAbs%y.natAbs);rw [←hq,←hmm]at hm ⊢;rw [←hmm]at hl;obtain⟨a,ha⟩:=Int.eq_nat_or_neg x;obtain⟨b,hb⟩:=Int.eq_nat_or_neg y;have e:((y.natAbs*q+m:Nat):Int)=(x.natAbs:Int):=(by rw [hm]);rw [Int.natCast_add,Int.natCast_mul]at e;constructor
 ·intro h1 h2;refine(fun h:_/\_=>⟨h.1.symm,h.2.symm⟩) (ud x y _ _ hy ?_ (by omega) (by omega));by_cases Bj:y<0
  ·simp only [h1,Bj,decide_true,bne_self_eq_false,Bool.false_eq_true,if_false];have:(y.natAbs:Int) = -y:=(by omega);rw [this]at e;rw [Int.natCast_add,Int.mul_add];rw [Int.neg_mul]at e;generalize y*(q:Int)=P at *;omega
  ·rw [decide_eq_true h1,decide_eq_false Bj,if_pos (by decide)];have:(y.natAbs:Int)=y:=(by omega);rw [this]at e;rw [Int.natCast_add,Int.neg_add,Int.mul_add,Int.mul_neg];generalize y*(q:Int)=P at *;omega
 ·intro h1;refine(fun h:_/\_=>⟨h.1.symm,h.2.symm⟩) (ud x y _ _ hy ?_ (by omega) (by omega));by_cases hx0:x<0<;>by_cases Bj:y<0
  ·simp only [hx0,Bj,decide_true,bne_self_eq_false,Bool.false_eq_true,if_false];have:(y.natAbs:Int) = -y:=(by omega);rw [this,Int.neg_mul]at e;generalize y*(q:Int)=P at *;omega
  ·rw [decide_eq_true hx0,decide_eq_false Bj,if_pos (by decide)];have:(y.natAbs:Int)=y:=(by omega);rw [this]at e;rw [Int.mul_neg];generalize y*(q:Int)=P at *;omega
  ·rw [decide_eq_false hx0,decide_eq_true Bj,if_pos (by decide)];have:(y.natAbs:Int) = -y:=(by omega);rw [this,Int.neg_mul]at e;rw [Int.mul_neg];generalize y*(q:Int)=P at *;omega
  ·simp only [hx0,Bj,bne_self_eq_false,Bool.false_eq_true,if_false];have:(y.natAbs:Int)=y:=(by omega);rw [this]at e;generalize y*(q:Int)=P at *;omega
theorem UJ(n:Nat):Ey false n=I (n:Int):=by rw [M7];rfl
def Se(x y:Int):Value:=.tuple #[S (I (x/y)),S (I (x%y)),.int .i64 0]
theorem Aew(x y:Int)(q m:Nat)(hq:q=x.natAbs/y.natAbs)(hm:m=x.natAbs%y.natAbs)(DJ:x<0)(hm0:0<m)(hx:AE x)(hy:AE y)(Bj:y≠0)(E1:Ey (decide (x<0) != decide (y<0)) (q+1)=I (x/y))(E2:Ey false (y.natAbs-m)=I (x%y))(w:World)(hw:Am w) :
  Calls Tryz.prog 349 #[S (I x),S (I y)] w (De (Se x y) w):=by
 have lx:=hx.pc;have ly:=hy.pc;have j9:=Rw Bj;obtain⟨sx,EK⟩:=AqG (decide (x<0));obtain⟨sy,Dz⟩:=AqG (decide (y<0));have o1:=Kt x hx sx EK;have o2:=Kt y hy sy Dz;have CJ:m<y.natAbs:=(by rw [hm];exact Nat.mod_lt _ (by omega));have Ki:(pc 1000000000 q).length<=445:=AqU (LO (by rw [hq];exact Nat.div_le_self _ _)) lx;have hmn:(pc 1000000000 m).length<=(pc 1000000000 y.natAbs).length:=LO (Nat.le_of_lt CJ);have hd:=fun u v W hu hv=>Vs x.natAbs y.natAbs (by omega) (by omega) u v W hu hv;rw [←hq,←hm]at hd;rw [←EK,←Dz]at E1;have Np:=EK;rw [decide_eq_true DJ]at Np;subst Np;have gK:0<(pc 1000000000 m).length:=List.length_pos_iff.2 fun h=>(by have:=(QF b9).1 h;omega);clear EK Dz hq hm DJ
 cases sy
 ·change Ey true _=_ at E1
  have Ha:=AqH E1;have ET:=AqH E2;clear E1 E2;go_enter Tryz.func349,Tryz.ntmps349;(go_wp2_with fail);(with_reducible refine(o1 _).mono ?_);rintro e w3 ⟨A3,c3,rfl,hv3,hx3⟩;(go_wp2_with fail);(with_reducible refine(o2 _).mono ?_);rintro e w4 ⟨A4,c4,rfl,hv4,Ai⟩;have hx:=hx3.trans Ai;have hv3:=hv3.ext Ai;clear o1 o2 hx3 Ai
  go_upto_region 4 with fail
  obtain⟨W,hW,hE,hb1,hb2⟩:=Mz w4 (.bool true) (.slice A3 (pc 1000000000 x.natAbs).length c3) (.bool false) (.slice A4 (pc 1000000000 y.natAbs).length c4) 280 280;rw [←hW];have hv3:=hv3.ext hE;have hv4:=hv4.ext hE;have Bn:=hx.trans hE;have k1:W.cell? ⟨w4.heap.size,0,none⟩=some (.bool true):=Ab hb1 rfl;have k2:W.cell? ⟨w4.heap.size,1,none⟩=some (.slice A3 (pc 1000000000 x.natAbs).length c3):=Ab hb1 rfl;have k3:W.cell? ⟨w4.heap.size+1,0,none⟩=some (.bool false):=Ab hb2 rfl;have k4:W.cell? ⟨w4.heap.size+1,1,none⟩=some (.slice A4 (pc 1000000000 y.natAbs).length c4):=Ab hb2 rfl;clear hW hE hx hb1 hb2;have hd:=hd _ _ W hv3.rd hv4.rd;(go_wp2_with fail);(with_reducible refine hd.mono ?_);rintro e w5 ⟨vq,vm,rfl,⟨A5,c5,rfl,hv5⟩,⟨A6,c6,rfl,EL⟩,Ae⟩;have k1:=Ae.cellS k1;have k2:=Ae.cellS k2;have k3:=Ae.cellS k3;have k4:=Ae.cellS k4;have hv4:=hv4.ext Ae;have Bn:=Bn.trans Ae;clear hd Ae hv3;(go_wp2_with fail)
  have I5:BI (w5.alloc (.cells #[.int .u64 1] 184)) (some ⟨w5.heap.size,0,none⟩) 1 [1]:=
   ⟨by simp,by omega,by simp,fun _=>⟨w5.heap.size,0,rfl,fun j hj=>by
    obtain rfl:j=0:=by simpa using hj
    rw [World.cell?_alloc_at _ _ _ _ (by rfl)];simp [Ah]⟩⟩
  have AD:=(Aa.refl w5).alloc (.cells #[.int .u64 1] 184);have ht:=lC (pc 1000000000 q) [1] _ _ (w5.alloc (.cells #[.int .u64 1] 184)).drew (hv5.ext AD.drew).rd (I5.ext (Aa.refl _).drew).rd (by omega) (by simp) (Bl b9 _) (by intro z hz;simp only [AqW]at hz;omega);rw [AZ b9,show Ag 1000000000 [1]=1 by rfl]at ht
  change Calls Tryz.prog 356 #[_,.slice _ 1 1] _ _ at ht
  have O8:=fun W2 (h:Aa (w5.alloc (.cells #[.int .u64 1] 184)).drew W2)=>TP (pc 1000000000 y.natAbs) (pc 1000000000 m) _ _ W2 (hv4.ext (AD.drew.trans h)).rd (EL.ext (AD.drew.trans h)).rd (by omega) (Bl b9 _) (Bl b9 _) hmn (by rw [AZ b9,AZ b9];exact Nat.le_of_lt CJ);simp only [AZ b9]at O8
  go_region_held3 (fun w'=>w'.cell? ⟨w4.heap.size+1,1,none⟩=some (.slice A4 (pc 1000000000 y.natAbs).length c4))
   (first|go_keep|exact(AD.drew.trans Aw).cellS k4|exact(AD.drew.trans (Aw.trans Bd)).cellS k4)
   (first|((with_reducible refine ht.mono ?_);rintro e w7 ⟨v7,rfl,⟨A7,c7,rfl,Nr⟩,Aw⟩)|((with_reducible refine(O8 _ Aw).mono ?_);rintro e w8 ⟨v8,rfl,⟨A8,c8,rfl,hv8⟩,Bd⟩))
  have k1:=(AD.drew.trans (Aw.trans Bd)).cellS k1;have k3:=(AD.drew.trans (Aw.trans Bd)).cellS k3;have BM:=Bn.trans (AD.drew.trans (Aw.trans Bd));have hc1:=fun W2 (h:Aa w8 W2)=>Fa true (q+1) _ W2 (hw.ext (BM.trans h)) (Nr.ext (Bd.trans h)).rd;have hc2:=fun W2 (h:Aa w8 W2)=>Fa false (y.natAbs-m) _ W2 (hw.ext (BM.trans h)) (hv8.ext h).rd;rw [Ha.out]at hc1;rw [ET.out]at hc2;clear Aw Bd AD Bn O8 ht I5 Nr hv8 k2 k4;(go_wp2_with fail);(with_reducible refine(hc1 _ (Aa.refl _)).mono ?_);rintro e wa ⟨rfl,AD⟩;(go_wp2_with fail);(with_reducible refine(hc2 _ AD).mono ?_);rintro e wb ⟨rfl,hxb⟩;go_wp2;go_ret3;exact⟨rfl,BM.trans (AD.trans hxb)⟩
 ·change Ey false _=_ at E1
  have Ha:=AqH E1;have ET:=AqH E2;clear E1 E2;go_enter Tryz.func349,Tryz.ntmps349;(go_wp2_with fail);(with_reducible refine(o1 _).mono ?_);rintro e w3 ⟨A3,c3,rfl,hv3,hx3⟩;(go_wp2_with fail);(with_reducible refine(o2 _).mono ?_);rintro e w4 ⟨A4,c4,rfl,hv4,Ai⟩;have hx:=hx3.trans Ai;have hv3:=hv3.ext Ai;clear o1 o2 hx3 Ai
  go_upto_region 4 with fail
  obtain⟨W,hW,hE,hb1,hb2⟩:=Mz w4 (.bool true) (.slice A3 (pc 1000000000 x.natAbs).length c3) (.bool true) (.slice A4 (pc 1000000000 y.natAbs).length c4) 280 280;rw [←hW];have hv3:=hv3.ext hE;have hv4:=hv4.ext hE;have Bn:=hx.trans hE;have k1:W.cell? ⟨w4.heap.size,0,none⟩=some (.bool true):=Ab hb1 rfl;have k2:W.cell? ⟨w4.heap.size,1,none⟩=some (.slice A3 (pc 1000000000 x.natAbs).length c3):=Ab hb1 rfl;have k3:W.cell? ⟨w4.heap.size+1,0,none⟩=some (.bool true):=Ab hb2 rfl;have k4:W.cell? ⟨w4.heap.size+1,1,none⟩=some (.slice A4 (pc 1000000000 y.natAbs).length c4):=Ab hb2 rfl;clear hW hE hx hb1 hb2;have hd:=hd _ _ W hv3.rd hv4.rd;(go_wp2_with fail);(with_reducible refine hd.mono ?_);rintro e w5 ⟨vq,vm,rfl,⟨A5,c5,rfl,hv5⟩,⟨A6,c6,rfl,EL⟩,Ae⟩;have k1:=Ae.cellS k1;have k2:=Ae.cellS k2;have k3:=Ae.cellS k3;have k4:=Ae.cellS k4;have hv4:=hv4.ext Ae;have Bn:=Bn.trans Ae;clear hd Ae hv3;(go_wp2_with fail)
  have I5:BI (w5.alloc (.cells #[.int .u64 1] 184)) (some ⟨w5.heap.size,0,none⟩) 1 [1]:=
   ⟨by simp,by omega,by simp,fun _=>⟨w5.heap.size,0,rfl,fun j hj=>by
    obtain rfl:j=0:=by simpa using hj
    rw [World.cell?_alloc_at _ _ _ _ (by rfl)];simp [Ah]⟩⟩
  have AD:=(Aa.refl w5).alloc (.cells #[.int .u64 1] 184);have ht:=lC (pc 1000000000 q) [1] _ _ (w5.alloc (.cells #[.int .u64 1] 184)).drew (hv5.ext AD.drew).rd (I5.ext (Aa.refl _).drew).rd (by omega) (by simp) (Bl b9 _) (by intro z hz;simp only [AqW]at hz;omega);rw [AZ b9,show Ag 1000000000 [1]=1 by rfl]at ht
  change Calls Tryz.prog 356 #[_,.slice _ 1 1] _ _ at ht
  have O8:=fun W2 (h:Aa (w5.alloc (.cells #[.int .u64 1] 184)).drew W2)=>TP (pc 1000000000 y.natAbs) (pc 1000000000 m) _ _ W2 (hv4.ext (AD.drew.trans h)).rd (EL.ext (AD.drew.trans h)).rd (by omega) (Bl b9 _) (Bl b9 _) hmn (by rw [AZ b9,AZ b9];exact Nat.le_of_lt CJ);simp only [AZ b9]at O8
  go_region_held3 (fun w'=>w'.cell? ⟨w4.heap.size+1,1,none⟩=some (.slice A4 (pc 1000000000 y.natAbs).length c4))
   (first|go_keep|exact(AD.drew.trans Aw).cellS k4|exact(AD.drew.trans (Aw.trans Bd)).cellS k4)
   (first|((with_reducible refine ht.mono ?_);rintro e w7 ⟨v7,rfl,⟨A7,c7,rfl,Nr⟩,Aw⟩)|((with_reducible refine(O8 _ Aw).mono ?_);rintro e w8 ⟨v8,rfl,⟨A8,c8,rfl,hv8⟩,Bd⟩))
  have k1:=(AD.drew.trans (Aw.trans Bd)).cellS k1;have k3:=(AD.drew.trans (Aw.trans Bd)).cellS k3;have BM:=Bn.trans (AD.drew.trans (Aw.trans Bd));have hc1:=fun W2 (h:Aa w8 W2)=>Fa false (q+1) _ W2 (hw.ext (BM.trans h)) (Nr.ext (Bd.trans h)).rd;have hc2:=fun W2 (h:Aa w8 W2)=>Fa false (y.natAbs-m) _ W2 (hw.ext (BM.trans h)) (hv8.ext h).rd;rw [Ha.out]at hc1;rw [ET.out]at hc2;clear Aw Bd AD Bn O8 ht I5 Nr hv8 k2 k4;(go_wp2_with fail);(with_reducible refine(hc1 _ (Aa.refl _)).mono ?_);rintro e wa ⟨rfl,AD⟩;(go_wp2_with fail);(with_reducible refine(hc2 _ AD).mono ?_);rintro e wb ⟨rfl,hxb⟩;go_wp2;go_ret3;exact⟨rfl,BM.trans (AD.trans hxb)⟩
theorem Aeu(x y:Int)(q m:Nat)(hq:q=x.natAbs/y.natAbs)(hm:m=x.natAbs%y.natAbs)(DJ:x<0)(hm0:m=0)(hx:AE x)(hy:AE y)(Bj:y≠0)(E1:Ey (decide (x<0) != decide (y<0)) q=I (x/y))(E2:Ey false m=I (x%y))(w:World)(hw:Am w) :
  Calls Tryz.prog 349 #[S (I x),S (I y)] w (De (Se x y) w):=by
 have lx:=hx.pc;have ly:=hy.pc;have j9:=Rw Bj;obtain⟨sx,EK⟩:=AqG (decide (x<0));obtain⟨sy,Dz⟩:=AqG (decide (y<0));have o1:=Kt x hx sx EK;have o2:=Kt y hy sy Dz;have CJ:m<y.natAbs:=(by rw [hm];exact Nat.mod_lt _ (by omega));have Ki:(pc 1000000000 q).length<=445:=AqU (LO (by rw [hq];exact Nat.div_le_self _ _)) lx;have hmn:(pc 1000000000 m).length<=(pc 1000000000 y.natAbs).length:=LO (Nat.le_of_lt CJ);have hd:=fun u v W hu hv=>Vs x.natAbs y.natAbs (by omega) (by omega) u v W hu hv;rw [←hq,←hm]at hd;rw [←EK,←Dz]at E1;have Np:=EK;rw [decide_eq_true DJ]at Np;subst Np;have gK:(pc 1000000000 m).length=0:=(by rw [hm0,ID];rfl);have Aqa:decide (0<(pc 1000000000 m).length)=false:=(by rw [gK];rfl);clear gK hm0;clear EK Dz hq hm DJ
 cases sy
 ·change Ey true _=_ at E1
  have Ha:=AqH E1;have ET:=AqH E2;clear E1 E2;go_enter Tryz.func349,Tryz.ntmps349;(go_wp2_with fail);(with_reducible refine(o1 _).mono ?_);rintro e w3 ⟨A3,c3,rfl,hv3,hx3⟩;(go_wp2_with fail);(with_reducible refine(o2 _).mono ?_);rintro e w4 ⟨A4,c4,rfl,hv4,Ai⟩;have hx:=hx3.trans Ai;have hv3:=hv3.ext Ai;clear o1 o2 hx3 Ai
  go_upto_region 4 with fail
  obtain⟨W,hW,hE,hb1,hb2⟩:=Mz w4 (.bool true) (.slice A3 (pc 1000000000 x.natAbs).length c3) (.bool false) (.slice A4 (pc 1000000000 y.natAbs).length c4) 280 280;rw [←hW];have hv3:=hv3.ext hE;have hv4:=hv4.ext hE;have Bn:=hx.trans hE;have k1:W.cell? ⟨w4.heap.size,0,none⟩=some (.bool true):=Ab hb1 rfl;have k2:W.cell? ⟨w4.heap.size,1,none⟩=some (.slice A3 (pc 1000000000 x.natAbs).length c3):=Ab hb1 rfl;have k3:W.cell? ⟨w4.heap.size+1,0,none⟩=some (.bool false):=Ab hb2 rfl;have k4:W.cell? ⟨w4.heap.size+1,1,none⟩=some (.slice A4 (pc 1000000000 y.natAbs).length c4):=Ab hb2 rfl;clear hW hE hx hb1 hb2;have hd:=hd _ _ W hv3.rd hv4.rd;(go_wp2_with fail);(with_reducible refine hd.mono ?_);rintro e w5 ⟨vq,vm,rfl,⟨A5,c5,rfl,hv5⟩,⟨A6,c6,rfl,EL⟩,Ae⟩;have k1:=Ae.cellS k1;have k2:=Ae.cellS k2;have k3:=Ae.cellS k3;have k4:=Ae.cellS k4;have hv4:=hv4.ext Ae;have Bn:=Bn.trans Ae;clear hd Ae hv3;have hc1:=fun W2 (h:Aa w5 W2)=>Fa true q _ W2 (hw.ext (Bn.trans h)) (hv5.ext h).rd;have hc2:=fun W2 (h:Aa w5 W2)=>Fa false m _ W2 (hw.ext (Bn.trans h)) (EL.ext h).rd;rw [Ha.out]at hc1;rw [ET.out]at hc2;clear k2 k4 hv4 hv5 EL;(go_wp2_with fail);(with_reducible refine(hc1 _ (Aa.refl _)).mono ?_);rintro e wa ⟨rfl,AD⟩;(go_wp2_with fail);(with_reducible refine(hc2 _ AD).mono ?_);rintro e wb ⟨rfl,hxb⟩;go_wp2;go_ret3;exact⟨rfl,Bn.trans (AD.trans hxb)⟩
 ·change Ey false _=_ at E1
  have Ha:=AqH E1;have ET:=AqH E2;clear E1 E2;go_enter Tryz.func349,Tryz.ntmps349;(go_wp2_with fail);(with_reducible refine(o1 _).mono ?_);rintro e w3 ⟨A3,c3,rfl,hv3,hx3⟩;(go_wp2_with fail);(with_reducible refine(o2 _).mono ?_);rintro e w4 ⟨A4,c4,rfl,hv4,Ai⟩;have hx:=hx3.trans Ai;have hv3:=hv3.ext Ai;clear o1 o2 hx3 Ai
  go_upto_region 4 with fail
  obtain⟨W,hW,hE,hb1,hb2⟩:=Mz w4 (.bool true) (.slice A3 (pc 1000000000 x.natAbs).length c3) (.bool true) (.slice A4 (pc 1000000000 y.natAbs).length c4) 280 280;rw [←hW];have hv3:=hv3.ext hE;have hv4:=hv4.ext hE;have Bn:=hx.trans hE;have k1:W.cell? ⟨w4.heap.size,0,none⟩=some (.bool true):=Ab hb1 rfl;have k2:W.cell? ⟨w4.heap.size,1,none⟩=some (.slice A3 (pc 1000000000 x.natAbs).length c3):=Ab hb1 rfl;have k3:W.cell? ⟨w4.heap.size+1,0,none⟩=some (.bool true):=Ab hb2 rfl;have k4:W.cell? ⟨w4.heap.size+1,1,none⟩=some (.slice A4 (pc 1000000000 y.natAbs).length c4):=Ab hb2 rfl;clear hW hE hx hb1 hb2;have hd:=hd _ _ W hv3.rd hv4.rd;(go_wp2_with fail);(with_reducible refine hd.mono ?_);rintro e w5 ⟨vq,vm,rfl,⟨A5,c5,rfl,hv5⟩,⟨A6,c6,rfl,EL⟩,Ae⟩;have k1:=Ae.cellS k1;have k2:=Ae.cellS k2;have k3:=Ae.cellS k3;have k4:=Ae.cellS k4;have hv4:=hv4.ext Ae;have Bn:=Bn.trans Ae;clear hd Ae hv3;have hc1:=fun W2 (h:Aa w5 W2)=>Fa false q _ W2 (hw.ext (Bn.trans h)) (hv5.ext h).rd;have hc2:=fun W2 (h:Aa w5 W2)=>Fa false m _ W2 (hw.ext (Bn.trans h)) (EL.ext h).rd;rw [Ha.out]at hc1;rw [ET.out]at hc2;clear k2 k4 hv4 hv5 EL;(go_wp2_with fail);(with_reducible refine(hc1 _ (Aa.refl _)).mono ?_);rintro e wa ⟨rfl,AD⟩;(go_wp2_with fail);(with_reducible refine(hc2 _ AD).mono ?_);rintro e wb ⟨rfl,hxb⟩;go_wp2;go_ret3;exact⟨rfl,Bn.trans (AD.trans hxb)⟩
theorem Aev(x y:Int)(q m:Nat)(hq:q=x.natAbs/y.natAbs)(hm:m=x.natAbs%y.natAbs)(DJ:¬x<0)(hx:AE x)(hy:AE y)(Bj:y≠0)(E1:Ey (decide (x<0) != decide (y<0)) q=I (x/y))(E2:Ey false m=I (x%y))(w:World)(hw:Am w) :
  Calls Tryz.prog 349 #[S (I x),S (I y)] w (De (Se x y) w):=by
 have lx:=hx.pc;have ly:=hy.pc;have j9:=Rw Bj;obtain⟨sx,EK⟩:=AqG (decide (x<0));obtain⟨sy,Dz⟩:=AqG (decide (y<0));have o1:=Kt x hx sx EK;have o2:=Kt y hy sy Dz;have CJ:m<y.natAbs:=(by rw [hm];exact Nat.mod_lt _ (by omega));have Ki:(pc 1000000000 q).length<=445:=AqU (LO (by rw [hq];exact Nat.div_le_self _ _)) lx;have hmn:(pc 1000000000 m).length<=(pc 1000000000 y.natAbs).length:=LO (Nat.le_of_lt CJ);have hd:=fun u v W hu hv=>Vs x.natAbs y.natAbs (by omega) (by omega) u v W hu hv;rw [←hq,←hm]at hd;rw [←EK,←Dz]at E1;have Np:=EK;rw [decide_eq_false DJ]at Np;subst Np;clear EK Dz hq hm DJ
 cases sy
 ·change Ey false _=_ at E1
  have Ha:=AqH E1;have ET:=AqH E2;clear E1 E2;go_enter Tryz.func349,Tryz.ntmps349;(go_wp2_with fail);(with_reducible refine(o1 _).mono ?_);rintro e w3 ⟨A3,c3,rfl,hv3,hx3⟩;(go_wp2_with fail);(with_reducible refine(o2 _).mono ?_);rintro e w4 ⟨A4,c4,rfl,hv4,Ai⟩;have hx:=hx3.trans Ai;have hv3:=hv3.ext Ai;clear o1 o2 hx3 Ai
  go_upto_region 4 with fail
  obtain⟨W,hW,hE,hb1,hb2⟩:=Mz w4 (.bool false) (.slice A3 (pc 1000000000 x.natAbs).length c3) (.bool false) (.slice A4 (pc 1000000000 y.natAbs).length c4) 280 280;rw [←hW];have hv3:=hv3.ext hE;have hv4:=hv4.ext hE;have Bn:=hx.trans hE;have k1:W.cell? ⟨w4.heap.size,0,none⟩=some (.bool false):=Ab hb1 rfl;have k2:W.cell? ⟨w4.heap.size,1,none⟩=some (.slice A3 (pc 1000000000 x.natAbs).length c3):=Ab hb1 rfl;have k3:W.cell? ⟨w4.heap.size+1,0,none⟩=some (.bool false):=Ab hb2 rfl;have k4:W.cell? ⟨w4.heap.size+1,1,none⟩=some (.slice A4 (pc 1000000000 y.natAbs).length c4):=Ab hb2 rfl;clear hW hE hx hb1 hb2;have hd:=hd _ _ W hv3.rd hv4.rd;(go_wp2_with fail);(with_reducible refine hd.mono ?_);rintro e w5 ⟨vq,vm,rfl,⟨A5,c5,rfl,hv5⟩,⟨A6,c6,rfl,EL⟩,Ae⟩;have k1:=Ae.cellS k1;have k2:=Ae.cellS k2;have k3:=Ae.cellS k3;have k4:=Ae.cellS k4;have hv4:=hv4.ext Ae;have Bn:=Bn.trans Ae;clear hd Ae hv3;have hc1:=fun W2 (h:Aa w5 W2)=>Fa false q _ W2 (hw.ext (Bn.trans h)) (hv5.ext h).rd;have hc2:=fun W2 (h:Aa w5 W2)=>Fa false m _ W2 (hw.ext (Bn.trans h)) (EL.ext h).rd;rw [Ha.out]at hc1;rw [ET.out]at hc2;clear k2 k4 hv4 hv5 EL;(go_wp2_with fail);(with_reducible refine(hc1 _ (Aa.refl _)).mono ?_);rintro e wa ⟨rfl,AD⟩;(go_wp2_with fail);(with_reducible refine(hc2 _ AD).mono ?_);rintro e wb ⟨rfl,hxb⟩;go_wp2;go_ret3;exact⟨rfl,Bn.trans (AD.trans hxb)⟩
 ·change Ey true _=_ at E1
  have Ha:=AqH E1;have ET:=AqH E2;clear E1 E2;go_enter Tryz.func349,Tryz.ntmps349;(go_wp2_with fail);(with_reducible refine(o1 _).mono ?_);rintro e w3 ⟨A3,c3,rfl,hv3,hx3⟩;(go_wp2_with fail);(with_reducible refine(o2 _).mono ?_);rintro e w4 ⟨A4,c4,rfl,hv4,Ai⟩;have hx:=hx3.trans Ai;have hv3:=hv3.ext Ai;clear o1 o2 hx3 Ai
  go_upto_region 4 with fail
  obtain⟨W,hW,hE,hb1,hb2⟩:=Mz w4 (.bool false) (.slice A3 (pc 1000000000 x.natAbs).length c3) (.bool true) (.slice A4 (pc 1000000000 y.natAbs).length c4) 280 280;rw [←hW];have hv3:=hv3.ext hE;have hv4:=hv4.ext hE;have Bn:=hx.trans hE;have k1:W.cell? ⟨w4.heap.size,0,none⟩=some (.bool false):=Ab hb1 rfl;have k2:W.cell? ⟨w4.heap.size,1,none⟩=some (.slice A3 (pc 1000000000 x.natAbs).length c3):=Ab hb1 rfl;have k3:W.cell? ⟨w4.heap.size+1,0,none⟩=some (.bool true):=Ab hb2 rfl;have k4:W.cell? ⟨w4.heap.size+1,1,none⟩=some (.slice A4 (pc 1000000000 y.natAbs).length c4):=Ab hb2 rfl;clear hW hE hx hb1 hb2;have hd:=hd _ _ W hv3.rd hv4.rd;(go_wp2_with fail);(with_reducible refine hd.mono ?_);rintro e w5 ⟨vq,vm,rfl,⟨A5,c5,rfl,hv5⟩,⟨A6,c6,rfl,EL⟩,Ae⟩;have k1:=Ae.cellS k1;have k2:=Ae.cellS k2;have k3:=Ae.cellS k3;have k4:=Ae.cellS k4;have hv4:=hv4.ext Ae;have Bn:=Bn.trans Ae;clear hd Ae hv3;have hc1:=fun W2 (h:Aa w5 W2)=>Fa true q _ W2 (hw.ext (Bn.trans h)) (hv5.ext h).rd;have hc2:=fun W2 (h:Aa w5 W2)=>Fa false m _ W2 (hw.ext (Bn.trans h)) (EL.ext h).rd;rw [Ha.out]at hc1;rw [ET.out]at hc2;clear k2 k4 hv4 hv5 EL;(go_wp2_with fail);(with_reducible refine(hc1 _ (Aa.refl _)).mono ?_);rintro e wa ⟨rfl,AD⟩;(go_wp2_with fail);(with_reducible refine(hc2 _ AD).mono ?_);rintro e wb ⟨rfl,hxb⟩;go_wp2;go_ret3;exact⟨rfl,Bn.trans (AD.trans hxb)⟩
theorem kh(x y:Int)(hx:AE x)(hy:AE y)(Bj:y≠0)(w:World)(hw:Am w):Calls Tryz.prog 349 #[S (I x),S (I y)] w (De (Se x y) w):=by
 obtain⟨hB,hA⟩:=Aer x y Bj;by_cases DJ:x<0
 ·rcases Nat.eq_zero_or_pos (x.natAbs%y.natAbs)with h|h
  ·obtain⟨e1,e2⟩:=hA (by omega);exact Aeu x y _ _ rfl rfl DJ h hx hy Bj (by rw [M7,e1]) (by rw [UJ,e2]) w hw
  ·obtain⟨e1,e2⟩:=hB DJ h;exact Aew x y _ _ rfl rfl DJ h hx hy Bj (by rw [M7,e1]) (by rw [UJ,e2]) w hw
 ·obtain⟨e1,e2⟩:=hA (by omega);exact Aev x y _ _ rfl rfl DJ hx hy Bj (by rw [M7,e1]) (by rw [UJ,e2]) w hw
section
theorem Afh(s:Bool)(A:Option Addr)(n c:Nat)(W:World):(Instr.field 280 (.agg #[.bool s,.slice A n c]) 1).run Tryz.prog W=.ok (.slice A n c) W:=by
 simp [Instr.field,run_underlying Tryz.underlying280,asAgg,part]
attribute [local go_sem] Afh
theorem wA(a b:Int):Int.gcd b (a.tmod b)=Int.gcd a b:=by
 unfold Int.gcd;rw [Int.natAbs_tmod,Nat.gcd_comm b.natAbs,←Nat.gcd_rec,Nat.gcd_comm]
theorem om(a:Int){b:Int}(h:b≠0):(a.tmod b).natAbs<b.natAbs:=by
 rw [Int.natAbs_tmod];exact Nat.mod_lt _ (by omega)
theorem Aiw(x y:Int)(hx:(I x).length<=18)(hy:(I y).length<=18)(w:World)(hw:Am w) :
  Calls Tryz.prog 220 #[S (I x),S (I y)] w (Bg (D (Int.gcd x y)) w):=by
 have q1:=NA x;have q2:=NA y;rw [LS hx]at q1;rw [LS hy]at q2;have b1:=Kw hx;have b2:=Kw hy;have e18:(10:Nat)^18=1000000000000000000:=(by decide);rw [e18]at b1 b2;obtain⟨g,hg⟩:=AqG (Int.gcd x y);rw [←hg];have HG:=AqH hg.symm;clear hx hy e18 hg;go_enter Tryz.func220,Tryz.ntmps220;(go_wp2_with fail);(with_reducible refine(q1 _).mono ?_);rintro e w1 ⟨rfl,hx1⟩;(go_wp2_with fail);(with_reducible refine(q2 _).mono ?_);rintro e w2 ⟨rfl,hx2⟩;have hx:=hx1.trans hx2;clear hx1 hx2 q1 q2;go_wp2
 go_loopw [5,7] (fun u v wr=>∃a b:Int,u=.int .i64 a/\v=.int .i64 b/\Int.gcd a b=g/\a.natAbs<1000000000000000000/\b.natAbs<1000000000000000000/\Aa w wr) (fun _ v _=>(intOf v).natAbs)
 case atStart=>exact⟨x,y,rfl,rfl,HG.out,b1,b2,hx⟩
 case round=>
  obtain⟨a,b,rfl,rfl,El,ha,hb,Ac⟩:=hrel;by_cases hb0:b=0
  ·subst hb0;have Qe:a.natAbs=g:=(by rw [←El];simp);have hmx:max a (-a)=(g:Int):=(by omega);have ho:=fun W hW=>iY (g:Int) (by omega) (by omega) W hW;have Br:((0:Int) != 0)=false:=(by rfl);clear Qe El;rw [Ec]at ho;have L1:IntKind.i64.wrap (-a) = -a:=AqQ _ (by omega);(go_wp2_with fail);(with_reducible refine(ho _ (hw.ext Ac)).mono ?_);rintro e w3 ⟨rfl,hx3⟩;go_wp2;go_ret;exact⟨rfl,Ac.trans hx3⟩
  ·have hlt:=om a hb0;have Ql:(a.tmod b).natAbs<1000000000000000000:=Nat.lt_trans hlt hb;have EG:=wA a b;have PW:(b != 0)=true:=(by rw [bne_iff_ne];exact hb0);have CW:(b == 0)=false:=(by rw [beq_eq_false_iff_ne];exact hb0);have JD:=AqH (EG.trans El);clear EG El;(go_wp2_with fail)
   go_quiet (fail)
   go_wp2;go_roundw
   case rel=>exact⟨b,a.tmod b,rfl,rfl,JD.out,hb,Ql,Ac.drewN _⟩
   case measure=>exact hlt
theorem Aiv(x y:Int)(hx:AE x)(hy:AE y)(hn:¬((I x).length<=18/\(I y).length<=18))(w:World)(hw:Am w) :
  Calls Tryz.prog 220 #[S (I x),S (I y)] w (Bg (D (Int.gcd x y)) w):=by
 have q1:=NA x;have q2:=NA y;have lx:=hx.pc;have ly:=hy.pc;have o1:=Kt x hx _ rfl;have o2:=Kt y hy _ rfl;obtain⟨g,hg⟩:=AqG (Int.gcd x y);rw [←hg];have HG:=AqH hg.symm;clear hx hy hg;by_cases h1:(I x).length<=18
 case' pos=>rw [LS h1]at q1;rw [QL fun h=>hn ⟨h1,h⟩]at q2;clear h1 hn;go_enter Tryz.func220,Tryz.ntmps220;(go_wp2_with fail);(with_reducible refine(q1 _).mono ?_);rintro e w1 ⟨rfl,hx1⟩;(go_wp2_with fail);(with_reducible refine(q2 _).mono ?_);rintro e w2 ⟨rfl,hx2⟩;have hx:=hx1.trans hx2;clear hx1 hx2;(go_wp2_with fail)
 case' neg=>rw [QL h1]at q1;clear h1 hn;go_enter Tryz.func220,Tryz.ntmps220;(go_wp2_with fail);(with_reducible refine(q1 _).mono ?_);rintro e w2 ⟨rfl,hx⟩;(go_wp2_with fail)
 all_goals
  clear q1 q2;(with_reducible refine(o1 _).mono ?_);rintro e w3 ⟨A3,c3,rfl,hv3,hx3⟩;(go_wp2_with fail);(with_reducible refine(o2 _).mono ?_);rintro e w4 ⟨A4,c4,rfl,hv4,Ai⟩;have hx:=(hx.trans hx3).trans Ai;have hv3:=hv3.ext Ai;clear o1 o2 hx3 Ai;go_wp2
  go_loopg [9,10] y.natAbs (fun k u v wr=>∃a:Nat,Rd wr u (pc 1000000000 a)/\Rd wr v (pc 1000000000 k)/\Nat.gcd a k=g/\(pc 1000000000 a).length<=445/\(pc 1000000000 k).length<=445/\Aa w wr)
  case atStart=>exact⟨x.natAbs,hv3.rd,hv4.rd,HG.out,lx,ly,hx⟩
  case round=>
   obtain⟨a,ha,⟨B,cb,rfl,hb⟩,hg,Fj,Fl,Ac⟩:=hrel;obtain⟨b,rfl⟩:=AqG gk;have oG:=AqH hg;clear hg hx hv3 hv4 lx ly;by_cases hb0:b=0
   ·subst hb0;have Qe:a=g:=(by rw [←oG.out];simp);subst Qe;have hl0:(pc 1000000000 0).length=0:=(by rw [ID];rfl);have hl:decide (0<(pc 1000000000 0).length)=false:=(by rw [hl0];rfl);have hl':¬0<(pc 1000000000 0).length:=(by omega);obtain⟨A,ca,rfl,ha⟩:=ha;have hc:=Fa false a _ _ (hw.ext Ac) ha.rd;rw [UJ,Ec]at hc;clear hl0;(go_wp2_with fail);(with_reducible refine hc.mono ?_);rintro e w5 ⟨rfl,Ae⟩;go_wp2;go_ret;exact⟨rfl,Ac.trans Ae⟩
   ·have hp:0<(pc 1000000000 b).length:=List.length_pos_iff.2 fun h=>(by have:=(QF b9).1 h;omega);have hd:=Vs a b (by omega) (by omega) _ _ _ ha hb.rd;have hb:=hb;(go_wp2_with fail);(with_reducible refine hd.mono ?_);rintro e w5 ⟨vq,vr,rfl,hq,hr,Ae⟩;go_wp2
    go_roundg (a%b)
    case measure=>exact Nat.mod_lt _ (by omega)
    case rel=>exact⟨b,(hb.ext Ae).rd,hr,by rw [←oG.out,Nat.gcd_comm b,←Nat.gcd_rec,Nat.gcd_comm],Fl,AqU (LO (Nat.le_of_lt (Nat.mod_lt _ (by omega)))) Fl,Ac.trans Ae⟩
theorem Aiu(x y:Int)(hx:AE x)(hy:AE y)(w:World)(hw:Am w):Calls Tryz.prog 220 #[S (I x),S (I y)] w (Bg (D (Int.gcd x y)) w):=by
 by_cases h:(I x).length<=18/\(I y).length<=18
 ·exact Aiw x y h.1 h.2 w hw
 ·exact Aiv x y hx hy h w hw
end
def Eh(x y:Int):Int:=if x<y then -1 else if x=y then 0 else 1
theorem sX{x y:Int}(h:x<y):Eh x y = -1:=by unfold Eh;rw [if_pos h]
theorem ZT{x y:Int}(h:y<x):Eh x y=1:=by unfold Eh;rw [if_neg (by omega),if_neg (by omega)]
theorem AdG{x y:Int}(h:x=y):Eh x y=0:=by unfold Eh;rw [if_neg (by omega),if_pos h]
theorem tB:∀(l k:Bs),BD l→BD k→l.length=k.length→Lib.compareBytes l k=DW (val l) (val k)
 | [],[],_,_,_=>by simp [Lib.compareBytes,DW]
 | [],_::_,_,_,h=>by simp at h
 | _::_,[],_,_,h=>by simp at h
 | a::l,b::k,ha,hb,h=>by
  rw [UV]at ha hb;simp only [List.length_cons,Nat.add_right_cancel_iff]at h;have ih:=tB l k ha.2 hb.2 h;have hl:=GR ha.2;have hk:=GR hb.2;rw [QW,QW,Lib.compareBytes,h];rw [h]at hl;have Fi:=ha.1.1;have eD:=hb.1.1;generalize 10^k.length=p at *
  rcases Nat.lt_trichotomy (dv a) (dv b)with hd|hd|hd
  ·have h1:a<b:=(by rw [UInt8.lt_iff_toNat_lt];unfold dv at hd;omega);have h2:dv a*p+p<=dv b*p:=(by rw [←Nat.succ_mul];exact Nat.mul_le_mul_right _ hd);rw [if_pos h1,M8 (by omega)]
  ·have h1:a=b:=by have:a.toNat=b.toNat:=(by unfold dv at hd;omega);exact UInt8.toNat_inj.1 this
   subst h1;rw [if_neg (by rw [UInt8.lt_iff_toNat_lt];omega),if_neg (by rw [UInt8.lt_iff_toNat_lt];omega),ih];unfold DW;simp only [Nat.add_lt_add_iff_left,Nat.add_left_cancel_iff]
  ·have h1:b<a:=(by rw [UInt8.lt_iff_toNat_lt];unfold dv at hd;omega);have h0:¬a<b:=(by rw [UInt8.lt_iff_toNat_lt]at h1 ⊢;omega);have h2:dv b*p+p<=dv a*p:=(by rw [←Nat.succ_mul];exact Nat.mul_le_mul_right _ hd);rw [if_neg h0,if_pos h1,KV (by omega)]
theorem nI{m n:Nat}(h:(D m).length<(D n).length):m<n:=by
 rcases Nat.eq_zero_or_pos n with rfl|hn
 ·have e:(D 0).length=1:=(by rw [F7 (by omega)];rfl);have:=OZ m;omega
 ·have h1:=nh m;have h2:=uh n hn;have h3:10^(D m).length<=10^((D n).length-1):=Nat.pow_le_pow_right (by omega) (by omega);omega
theorem xw(z:Int):-1<=Fy z/\Fy z<=1:=by unfold Fy;split<;>(try split)<;>omega
theorem xq{x y:Int}(h:Fy x<Fy y):x<y:=by
 unfold Fy at h;split at h<;>split at h<;>(try split at h)<;>(try split at h)<;>omega
theorem xt(z:Int):Fy z*(z.natAbs:Int)=z:=by
 unfold Fy
 split
 ·omega
 ·split<;>omega
theorem iW(x y:Int)(hx:AE x)(hy:AE y)(w:World):Calls Tryz.prog 145 #[S (I x),S (I y)] w (Ax (Eh x y) w):=by
 have s1:=Qw x;have s2:=Qw y;have r1:=xw x;have r2:=xw y;have t1:=zf (I x) [45];have t2:=zf (I y) [45];rw [ze]at t1 t2;have c1:=tC (D x.natAbs) (D y.natAbs);have l1:=hx.len;have l2:=hy.len
 have hcl:(D x.natAbs).length=(D y.natAbs).length→Lib.compareBytes (D x.natAbs) (D y.natAbs)=DW x.natAbs y.natAbs:=fun h=>by
  have:=tB _ _ (C3 x.natAbs) (C3 y.natAbs) h
  rwa [GQ,GQ]at this
 have k1:(D x.natAbs).length<(D y.natAbs).length→x.natAbs<y.natAbs:=nI;have k2:(D y.natAbs).length<(D x.natAbs).length→y.natAbs<x.natAbs:=nI;have a1:=xt x;have a2:=xt y;have G8:=@xq x y;have hlt2:=@xq y x;obtain⟨s,hs⟩:=AqG (Fy x);obtain⟨t,ht⟩:=AqG (Fy y);rw [←hs]at s1 r1 a1 G8 hlt2;rw [←ht]at s2 r2 a2 G8 hlt2;clear hs ht
 rcases Int.lt_trichotomy s t with h|h|h
 ·have HR:=AqH (sX (G8 h));have hne:(s != t)=true:=(by rw [bne_iff_ne];omega);clear a1 a2 G8 hlt2 t1 t2 c1 hcl k1 k2;go_enter Tryz.func145,Tryz.ntmps145;(go_wp2_with fail);(with_reducible refine(s1 _).mono ?_);rintro e w1 ⟨rfl,hx1⟩;(go_wp2_with fail);(with_reducible refine(s2 _).mono ?_);rintro e w2 ⟨rfl,hx2⟩;go_wp2;go_ret;exact⟨Bf HR.out,hx1.trans hx2⟩
 ·subst h;have hne:(s != s)=false:=by simp
  have j8:(D y.natAbs).length<=4001:=by
   rcases DO y with⟨n,rfl,e⟩|⟨n,hn,rfl,e⟩
   ·rw [e]at l2;simpa using l2
   ·rw [e,List.length_cons]at l2;rw [show (-(n:Int)).natAbs=n by omega];omega
  have Xl:(D x.natAbs).length<=4001:=by
   rcases DO x with⟨n,rfl,e⟩|⟨n,hn,rfl,e⟩
   ·rw [e]at l1;simpa using l1
   ·rw [e,List.length_cons]at l1;rw [show (-(n:Int)).natAbs=n by omega];omega
  obtain⟨cb,hcb⟩:=AqG (Lib.compareBytes (D x.natAbs) (D y.natAbs));rw [←hcb]at c1 hcl;have Tz:s=0∨s=1∨s = -1:=by omega
  have hcm:∀{m n:Nat},x=s*m→y=s*n→s*DW m n=Eh x y:=by
   intro m n e1 e2;rw [e1,e2]
   rcases Tz with rfl|rfl|rfl
   ·simp [Eh]
   ·unfold DW Eh;simp only [Int.one_mul];split<;>split<;>(try split)<;>omega
   ·unfold DW Eh;split<;>split<;>(try split)<;>(try split)<;>omega
  have HC:=AqH (@hcm x.natAbs y.natAbs a1.symm a2.symm);obtain⟨A,hA⟩:=AqG (D x.natAbs);obtain⟨B,hB⟩:=AqG (D y.natAbs);rw [←hA]at t1 c1 hcl k1 k2 Xl;rw [←hB]at t2 c1 hcl k1 k2 j8
  rcases Nat.lt_trichotomy A.length B.length with hl|hl|hl
  ·have hk:=k1 hl
   have HR:Hid (Eh x y=IntKind.i64.wrap (-s)):=AqH (by
    rw [←HC.out,M8 hk,AqQ (-s) (by omega)];omega)
   have jn:IntKind.i64.wrap (-s) = -s:=AqQ _ (by omega);have Fp:((A.length:Int) != (B.length:Int))=true:=(by rw [bne_iff_ne];omega);have hR2:Hid (-s=Eh x y):=AqH (by rw [HR.out,jn]);clear a1 a2 G8 hlt2 c1 hcl k1 k2 hcb hA hB HC HR Tz hcm hk l1 l2;go_enter Tryz.func145,Tryz.ntmps145;(go_wp2_with fail);(with_reducible refine(s1 _).mono ?_);rintro e w1 ⟨rfl,hx1⟩;(go_wp2_with fail);(with_reducible refine(s2 _).mono ?_);rintro e w2 ⟨rfl,hx2⟩;(go_wp2_with fail);(with_reducible refine(t1 _).mono ?_);rintro e w3 ⟨rfl,hx3⟩;(go_wp2_with fail);(with_reducible refine(t2 _).mono ?_);rintro e w4 ⟨rfl,Ai⟩;go_wp2;go_ret;exact⟨Bf hR2.out.symm,((hx1.trans hx2).trans hx3).trans Ai⟩
  ·have hq:=hcl hl;have hcr:-1<=cb/\cb<=1:=by rw [hq];unfold DW;split<;>(try split)<;>omega
   have hsc:-1<=s*cb/\s*cb<=1:=by rcases Tz with rfl|rfl|rfl<;>omega
   have hR2:Hid (s*cb=Eh x y):=AqH (by rw [hq];exact HC.out);have jn:IntKind.i64.wrap (s*cb)=s*cb:=AqQ _ (by omega);have Fp:((A.length:Int) != (B.length:Int))=false:=(by rw [hl];simp);clear a1 a2 G8 hlt2 hcl k1 k2 hcb hA hB HC Tz hcm hq l1 l2 hsc;have HL:=AqH hl;clear hl;go_enter Tryz.func145,Tryz.ntmps145;(go_wp2_with fail);(with_reducible refine(s1 _).mono ?_);rintro e w1 ⟨rfl,hx1⟩;(go_wp2_with fail);(with_reducible refine(s2 _).mono ?_);rintro e w2 ⟨rfl,hx2⟩;(go_wp2_with fail);(with_reducible refine(t1 _).mono ?_);rintro e w3 ⟨rfl,hx3⟩;(go_wp2_with fail);(with_reducible refine(t2 _).mono ?_);rintro e w4 ⟨rfl,Ai⟩;(go_wp2_with fail);(with_reducible refine(c1 _).mono ?_);rintro e w5 ⟨rfl,Ae⟩;go_wp2;go_ret;exact⟨Bf hR2.out.symm,(((hx1.trans hx2).trans hx3).trans Ai).trans Ae⟩
  ·have hk:=k2 hl;have hR2:Hid (s=Eh x y):=AqH (by rw [←HC.out,KV hk];omega);have Fp:((A.length:Int) != (B.length:Int))=true:=(by rw [bne_iff_ne];omega);have hnl:¬A.length<B.length:=(by omega);clear a1 a2 G8 hlt2 c1 hcl k1 k2 hcb hA hB HC Tz hcm hk l1 l2;go_enter Tryz.func145,Tryz.ntmps145;(go_wp2_with fail);(with_reducible refine(s1 _).mono ?_);rintro e w1 ⟨rfl,hx1⟩;(go_wp2_with fail);(with_reducible refine(s2 _).mono ?_);rintro e w2 ⟨rfl,hx2⟩;(go_wp2_with fail);(with_reducible refine(t1 _).mono ?_);rintro e w3 ⟨rfl,hx3⟩;(go_wp2_with fail);(with_reducible refine(t2 _).mono ?_);rintro e w4 ⟨rfl,Ai⟩;go_wp2;go_ret;exact⟨Bf hR2.out.symm,((hx1.trans hx2).trans hx3).trans Ai⟩
 ·have HR:=AqH (ZT (hlt2 h));have hne:(s != t)=true:=(by rw [bne_iff_ne];omega);have hnl:¬s<t:=(by omega);clear a1 a2 G8 hlt2 t1 t2 c1 hcl k1 k2;go_enter Tryz.func145,Tryz.ntmps145;(go_wp2_with fail);(with_reducible refine(s1 _).mono ?_);rintro e w1 ⟨rfl,hx1⟩;(go_wp2_with fail);(with_reducible refine(s2 _).mono ?_);rintro e w2 ⟨rfl,hx2⟩;go_wp2;go_ret;exact⟨Bf HR.out,hx1.trans hx2⟩
/-! ### Check -/
theorem Ac7(s:ByteArray):∀(k i:Nat) (r:List UInt8),s.size-i=k→r.length<=(ByteArray.toList.loop s i r).length:=by
 intro k
 induction k with
 | zero=>intro i r h;unfold ByteArray.toList.loop;rw [if_neg (by omega)];simp
 | succ k ih=>
  intro i r h;unfold ByteArray.toList.loop
  split
  ·have:=ih (i+1) (s.get! i::r) (by omega);simp only [List.length_cons]at this;omega
  ·simp
theorem ZF{s:ByteArray}(h:0<s.size):¬s.toList = []:=by
 intro e;unfold ByteArray.toList ByteArray.toList.loop at e;rw [if_pos h]at e;have:=Ac7 s _ 1 [s.get! 0] rfl;rw [show 0+1=1 from rfl]at e;rw [e]at this;simp at this
open Classical in
theorem Ad5(t:Bs)(mn:Bool):¬Y7 t mn↔t = []∨200<t.length∨(∃m,t=48::m/\(m≠[]∨mn=true))∨∃j,∃h:j<t.length,¬FB t[j]:=by
 constructor
 ·intro h;by_cases h1:t = []
  ·exact .inl h1
  ·by_cases h2:200<t.length
   ·exact .inr (.inl h2)
   ·by_cases h3:∃m,t=48::m/\(m≠[]∨mn=true)
    ·exact .inr (.inr (.inl h3))
    ·refine .inr (.inr (.inr (Classical.byContradiction fun h4=>h ⟨h1,by omega,fun m e=>?_,fun c hc=>?_⟩)))
     ·constructor
      ·exact Classical.byContradiction fun h5=>h3 ⟨m,e,.inl h5⟩
      ·cases mn
       ·rfl
       ·exact absurd ⟨m,e,.inr rfl⟩ h3
     ·obtain⟨j,hj,e⟩:=List.mem_iff_getElem.1 hc;exact Classical.byContradiction fun h5=>h4 ⟨j,hj,by rw [e];exact h5⟩
 ·rintro(h|h|⟨m,e,h⟩|⟨j,hj,h⟩) hc
  ·exact hc.ne h
  ·have:=hc.len;omega
  ·have:=hc.zero m e
   rcases h with h|h
   ·exact h this.1
   ·rw [this.2]at h;cases h
  ·exact h (hc.all _ (AqL hj))
def Ga(b:Bool):Int:=if b then 0 else 2
theorem KU:Ga true=0:=rfl
theorem NX:Ga false=2:=rfl
theorem Adq(l:Bs)(ht:Lib.trimPrefix l [45] = [])(w:World):Calls Tryz.prog 219 #[S l] w (Ax 2 w):=by
 have hc:=Sa l [45];rw [ht]at hc;go_enter Tryz.func219,Tryz.ntmps219;(go_wp2_with fail);(with_reducible refine(hc _).mono ?_);rintro e w1 ⟨rfl,hx1⟩;go_wp2;go_ret;exact⟨rfl,hx1⟩
theorem Adr(l t:Bs)(ht:Lib.trimPrefix l [45]=t)(h2:200<t.length)(w:World):Calls Tryz.prog 219 #[S l] w (Ax 2 w):=by
 have hc:=Sa l [45];rw [ht]at hc;have hne:(t == [])=false:=(by rw [beq_eq_false_iff_ne];rintro rfl;simp at h2);have h2i:(200:Int)<(t.length:Int):=(by omega);clear ht;go_enter Tryz.func219,Tryz.ntmps219;(go_wp2_with fail);(with_reducible refine(hc _).mono ?_);rintro e w1 ⟨rfl,hx1⟩;go_wp2;go_ret;exact⟨rfl,hx1⟩
theorem sK(l m:Bs)(mn:Bool)(ht:Lib.trimPrefix l [45]=48::m)(hmn:[45].isPrefixOf l=mn)(h2:(48::m).length<=200)(h3:m≠[]∨mn=true)(w:World):Calls Tryz.prog 219 #[S l] w (Ax 2 w):=by
 have hc:=Sa l [45];rw [ht,hmn]at hc;obtain⟨s,hs⟩:=AqG (⟨(48::m).toArray⟩:ByteArray);have hsz:s.size=m.length+1:=(by rw [hs,Cp];rfl);obtain⟨c,Wn⟩:=AqG (48:UInt8);have hs0:0<s.size:=(by omega);have e0:s[0]=c:=(by rw [Wn];subst hs;rw [NV];rfl);have hce:((c.toNat:Int) == 48)=true:=(by rw [Wn];rfl);have hsm:(s.size:Int)<=200:=(by simp only [List.length_cons]at h2;omega);have Aqm:¬(200:Int)<(s.size:Int):=(by omega);have hc:∀w,Calls Tryz.prog 277 #[S l,S [45]] w (De (.tuple #[.string s,.bool mn]) w):=(by rw [hs];exact hc);have hne:=ZF hs0
 rcases h3 with h3|h3
 ·have h1:(1:Int)<(s.size:Int):=(by have:=List.length_pos_iff.2 h3;omega);clear ht hmn hs hsz Wn h3;go_enter Tryz.func219,Tryz.ntmps219;(go_wp2_with fail);(with_reducible refine(hc _).mono ?_);rintro e w1 ⟨rfl,hx1⟩;go_wp2;go_ret;exact⟨rfl,hx1⟩
 ·subst h3;clear ht hmn hs Wn
  rcases Nat.lt_or_ge 1 s.size with h1|h1
  all_goals
   go_enter Tryz.func219,Tryz.ntmps219;(go_wp2_with fail);(with_reducible refine(hc _).mono ?_);rintro e w1 ⟨rfl,hx1⟩;go_wp2;go_ret;exact⟨rfl,hx1⟩
theorem Ads(l t:Bs)(mn:Bool)(s:ByteArray)(hc:∀w,Calls Tryz.prog 277 #[S l,S [45]] w (De (.tuple #[.string s,.bool mn]) w))(JF:Hid (s.size=t.length))(hs0:0<s.size)(hsm:(s.size:Int)<=200)
  (HG:Hid (∀(j:Nat) (h:j<s.size) (h':j<t.length),s[j]=t[j])) (c:UInt8) (e0:s[0]=c) (b:Bool) (HB:Hid (b=true↔BD t)) (hf:((c.toNat:Int) == 48)=false) (w:World):Calls Tryz.prog 219 #[S l] w (Ax (Ga b) w):=by
 have hne:=ZF hs0
 have Fp:s.toList.isEmpty=false:=by cases h:s.toList with|nil=>exact absurd h hne|cons _ _=>rfl
 have eC:decide ((200:Int)<(s.size:Int))=false:=(by rw [decide_eq_false_iff_not];omega);go_enter Tryz.func219,Tryz.ntmps219;(go_wp2_with fail);(with_reducible refine(hc _).mono ?_);rintro e w1 ⟨rfl,hx1⟩;go_wp2;clear hc hne Fp eC hf e0
 go_loop [33] (fun i=>∃j:Nat,j<=s.size/\i=.int .i64 (j:Nat)/\BD (t.take j)) (fun i=>s.size-(intOf i).toNat)
 case atStart=>exact⟨0,by omega,rfl,by simp [qN]⟩
 case round=>
  obtain⟨j,hj,rfl,hall⟩:=hrel;by_cases hlt:j<s.size
  ·have Nh:j<t.length:=(by rw [←JF.out];exact hlt);obtain⟨d,hd⟩:∃d,s[j]=d:=⟨_,rfl⟩;have Lo:t[j]=d:=(by rw [←hd,HG.out j hlt Nh]);have HD:=AqH Lo;clear Lo;by_cases Jh:FB d
   ·have d1:=Jh.1;have d2:=Jh.2;have c1:¬(d.toNat:Int)<48:=(by omega);have c2:¬(57:Int)<(d.toNat:Int):=(by omega);clear d1 d2;go_wp2
    go_round
    case rel=>exact⟨j+1,by omega,by go_num,by rw [AqN Nh,HD.out];exact Py.2 ⟨hall,by intro x hx;simp only [AqW]at hx;rw [hx];exact Jh⟩⟩
    case measure=>simp [intOf];omega
   ·have Oq:b=false:=by
     cases b
     ·rfl
     ·exact absurd (HB.out.1 rfl _ (AqL Nh)) (by rw [HD.out];exact Jh)
    subst Oq;rw [NX];by_cases c1:(d.toNat:Int)<48
    ·go_wp2;go_ret;exact⟨rfl,hx1⟩
    ·have c2:(57:Int)<(d.toNat:Int):=by refine Classical.byContradiction fun h=>Jh ⟨by omega,by omega⟩
     go_wp2;go_ret;exact⟨rfl,hx1⟩
  ·have Gf:b=true:=HB.out.2 (by rw [AqS (by rw [←JF.out];omega)]at hall;exact hall);subst Gf;rw [KU];have hle:(s.size:Int)<=(j:Int):=(by omega);go_wp2;go_ret;exact⟨rfl,hx1⟩
theorem Adt(l t:Bs)(mn:Bool)(s:ByteArray)(hc:∀w,Calls Tryz.prog 277 #[S l,S [45]] w (De (.tuple #[.string s,.bool mn]) w))(JF:Hid (s.size=t.length))(hs0:0<s.size)(hsm:(s.size:Int)<=200)
  (HG:Hid (∀(j:Nat) (h:j<s.size) (h':j<t.length),s[j]=t[j])) (c:UInt8) (e0:s[0]=c) (b:Bool) (HB:Hid (b=true↔BD t)) (hf:((c.toNat:Int) == 48)=true) (hs1:s.size=1) (hmn:mn=false) (w:World):Calls Tryz.prog 219 #[S l] w (Ax (Ga b) w):=by
 have hne:=ZF hs0
 have Fp:s.toList.isEmpty=false:=by cases h:s.toList with|nil=>exact absurd h hne|cons _ _=>rfl
 have eC:decide ((200:Int)<(s.size:Int))=false:=(by rw [decide_eq_false_iff_not];omega);have h1:decide ((1:Int)<(s.size:Int))=false:=(by rw [decide_eq_false_iff_not];omega);subst hmn;clear hs1;go_enter Tryz.func219,Tryz.ntmps219;(go_wp2_with fail);(with_reducible refine(hc _).mono ?_);rintro e w1 ⟨rfl,hx1⟩;go_wp2;clear hc hne Fp eC hf e0
 go_loop [33] (fun i=>∃j:Nat,j<=s.size/\i=.int .i64 (j:Nat)/\BD (t.take j)) (fun i=>s.size-(intOf i).toNat)
 case atStart=>exact⟨0,by omega,rfl,by simp [qN]⟩
 case round=>
  obtain⟨j,hj,rfl,hall⟩:=hrel;by_cases hlt:j<s.size
  ·have Nh:j<t.length:=(by rw [←JF.out];exact hlt);obtain⟨d,hd⟩:∃d,s[j]=d:=⟨_,rfl⟩;have Lo:t[j]=d:=(by rw [←hd,HG.out j hlt Nh]);have HD:=AqH Lo;clear Lo;by_cases Jh:FB d
   ·have d1:=Jh.1;have d2:=Jh.2;have c1:¬(d.toNat:Int)<48:=(by omega);have c2:¬(57:Int)<(d.toNat:Int):=(by omega);clear d1 d2;go_wp2
    go_round
    case rel=>exact⟨j+1,by omega,by go_num,by rw [AqN Nh,HD.out];exact Py.2 ⟨hall,by intro x hx;simp only [AqW]at hx;rw [hx];exact Jh⟩⟩
    case measure=>simp [intOf];omega
   ·have Oq:b=false:=by
     cases b
     ·rfl
     ·exact absurd (HB.out.1 rfl _ (AqL Nh)) (by rw [HD.out];exact Jh)
    subst Oq;rw [NX];by_cases c1:(d.toNat:Int)<48
    ·go_wp2;go_ret;exact⟨rfl,hx1⟩
    ·have c2:(57:Int)<(d.toNat:Int):=by refine Classical.byContradiction fun h=>Jh ⟨by omega,by omega⟩
     go_wp2;go_ret;exact⟨rfl,hx1⟩
  ·have Gf:b=true:=HB.out.2 (by rw [AqS (by rw [←JF.out];omega)]at hall;exact hall);subst Gf;rw [KU];have hle:(s.size:Int)<=(j:Int):=(by omega);go_wp2;go_ret;exact⟨rfl,hx1⟩
theorem sJ(l t:Bs)(mn:Bool)(ht:Lib.trimPrefix l [45]=t)(hmn:[45].isPrefixOf l=mn)(h0:t≠[])(h2:t.length<=200)(h3:∀m,t=48::m→m = []/\mn=false)
  (b:Bool) (hb:b=true↔BD t) (w:World):Calls Tryz.prog 219 #[S l] w (Ax (Ga b) w):=by
 have hc0:=Sa l [45];rw [ht,hmn]at hc0;obtain⟨s,hs⟩:=AqG (⟨t.toArray⟩:ByteArray);have hsz:s.size=t.length:=(by rw [hs,Cp]);have hs0:0<s.size:=by have:=List.length_pos_iff.2 h0;omega
 have Em:∀(j:Nat) (h:j<s.size) (h':j<t.length),s[j]=t[j]:=by intro j h h';subst hs;rw [NV];simp [List.getD,h']
 have hsm:(s.size:Int)<=200:=(by omega);have hc:∀w,Calls Tryz.prog 277 #[S l,S [45]] w (De (.tuple #[.string s,.bool mn]) w):=(by rw [hs];exact hc0);clear hc0;by_cases h:s[0]=48
 ·match t,h0,Em,h3,hsz,hb with
  | d::m,_,Em,h3,hsz,hb=>have:=Em 0 hs0 (by simp);rw [h]at this;simp only [List.getElem_cons_zero]at this;obtain⟨hm,hf⟩:=h3 m (by rw [this]);exact Adt l _ mn s hc (AqH hsz) hs0 hsm (AqH Em) _ rfl b (AqH hb) (by rw [h];rfl) (by rw [hsz,hm];rfl) hf w
 ·refine Ads l _ mn s hc (AqH hsz) hs0 hsm (AqH Em) _ rfl b (AqH hb) ?_ w;rw [beq_eq_false_iff_ne];intro e;exact h (UInt8.toNat_inj.1 (by simp;omega))
open Classical in
theorem TG(l:Bs)(w:World):Calls Tryz.prog 219 #[S l] w (Ax (if KH l then 0 else 2) w):=by
 by_cases h:Y7 (Lib.trimPrefix l [45]) ([45].isPrefixOf l)
 ·rw [if_pos ((sR l).2 h)];exact sJ l _ _ rfl rfl h.ne h.len h.zero true ⟨fun _=>h.all,fun _=>rfl⟩ w
 ·rw [if_neg (fun k=>h ((sR l).1 k))];by_cases h1:Lib.trimPrefix l [45] = []
  ·exact Adq l h1 w
  ·by_cases h2:200<(Lib.trimPrefix l [45]).length
   ·exact Adr l _ rfl h2 w
   ·rcases(Ad5 _ _).1 h with h3|h3|⟨m,e,h3⟩|⟨j,hj,h3⟩
    ·exact absurd h3 h1
    ·exact absurd h3 h2
    ·exact sK l m _ e rfl (by rw [←e];omega) h3 w
    ·by_cases h4:∀m,Lib.trimPrefix l [45]=48::m→m = []/\[45].isPrefixOf l=false
     ·exact sJ l _ _ rfl rfl h1 (by omega) h4 false (Iff.intro (fun k=>by cases k) (fun k=>absurd (k _ (AqL hj)) h3)) w
     ·obtain⟨m,e⟩:∃m,Lib.trimPrefix l [45]=48::m/\(m≠[]∨[45].isPrefixOf l=true):=by
       refine Classical.byContradiction fun k=>h4 fun m e=>?_;constructor
       ·exact Classical.byContradiction fun q=>k ⟨m,e,.inl q⟩
       ·rcases hq:[45].isPrefixOf l with _|_
        ·rfl
        ·exact absurd ⟨m,e,.inr hq⟩ k
      exact sK l m _ e.1 rfl (by rw [←e.1];omega) e.2 w
section
theorem vg(n:Int)(d:Nat)(hd:0<d)(Nj:-9000000000000000000<=n)(Da:n<=9000000000000000000)(BV:d<=9000000000000000000)(w:World)(hw:Am w) :
  Calls Tryz.prog 306 #[.int .i64 n,.int .i64 (d:Nat)] w (Bg (R (mkRat n d)) w):=by
 obtain⟨g,hg⟩:=AqG (Nat.gcd n.natAbs d);have hg0:0<g:=(by rw [hg];exact Nat.gcd_pos_of_pos_right _ hd);obtain⟨n',hn'⟩:=AqG (n/(g:Nat):Int);obtain⟨d',BP⟩:=AqG (d/g:Nat);have hR:R (mkRat n d)=EB n' d':=(by rw [Zq n hd,←hg,←hn',←BP]);have hgn:((g:Nat):Int)∣n:=Int.natAbs_dvd_natAbs.1 (by rw [AqM,hg];exact Nat.gcd_dvd_left ..);have e1:n.tdiv (g:Int)=n':=(by rw [hn',Int.tdiv_eq_ediv_of_dvd hgn]);have e2:(d:Int)/(g:Int)=(d':Int):=(by rw [BP];simp);have b1:n'.natAbs<=n.natAbs:=(by rw [hn'];exact TR _ _ hgn);have b2:d'<=d:=(by rw [BP];exact Nat.div_le_self _ _);have hgd:g<=d:=(by rw [hg];exact Nat.gcd_le_right _ hd);have ln:(I n').length<=20:=Ms (z:=n') (k:=19) (by omega) (by omega);have ld:(D d').length<=19:=GU (by omega) (by omega);have HR:=AqH hR;have HG:=AqH hg;have H1:=AqH e1;have H2:=AqH e2;have i1:=fun W hW=>Nx n' (by omega) (by omega) W hW;have i2:=fun W hW=>Nx (d':Int) (by omega) (by omega) W hW;clear hR hg e1 e2 hn' BP hgn;go_enter Tryz.func306,Tryz.ntmps306;go_wp2
 go_loopw [5,6] (fun x y wr=>∃a b:Int,x=.int .i64 a/\y=.int .i64 b/\Int.gcd a b=g/\a.natAbs<=9000000000000000000/\b.natAbs<=9000000000000000000/\Aa w wr) (fun _ y _=>(intOf y).natAbs)
 case atStart=>exact⟨n,d,rfl,rfl,by rw [HG.out];rfl,by omega,by omega,Aa.refl _⟩
 case round=>
  obtain⟨a,b,rfl,rfl,El,ha,hb,Ac⟩:=hrel;by_cases hb0:b=0
  ·subst hb0;have Qe:a.natAbs=g:=(by rw [←El];simp);by_cases L1:a<0
   case' pos=>obtain rfl:a = -(g:Int):=by omega
   case' neg=>obtain rfl:a=(g:Int):=by omega
   all_goals
    clear Qe El;have e1:=H1.out;have e2:=H2.out;have Ls:(0:Int)<(g:Int):=(by omega);have av:((g:Int) == 0)=false:=(by rw [beq_eq_false_iff_ne];omega);by_cases Ep:d'=1
    ·subst Ep;have HF:Hid (R (mkRat n d)=I n'):=AqH (by rw [HR.out];rfl);(go_wp2_with fail)
     go_quiet (fail)
     (go_wp2_with fail);(with_reducible refine(i1 _ (hw.ext (Ac.drewN _))).mono ?_);rintro e w3 ⟨rfl,hx3⟩;go_wp2;go_ret;exact⟨Gt (by rw [HF.out]),(Ac.drewN _).trans hx3⟩
    ·have HF:Hid (R (mkRat n d)=I n'++47::D d'):=AqH (by rw [HR.out];exact if_neg Ep);have eD:((d':Int) == 1)=false:=(by rw [beq_eq_false_iff_ne];omega);rw [Ec]at i2;clear Ep;(go_wp2_with fail)
     go_quiet (fail)
     (go_wp2_with fail);(with_reducible refine(i1 _ (hw.ext (Ac.drewN _))).mono ?_);rintro e w3 ⟨rfl,hx3⟩;have hx3:=(Ac.drewN _).trans hx3;(go_wp2_with fail);(with_reducible refine(i2 _ (hw.ext hx3)).mono ?_);rintro e w4 ⟨rfl,Ai⟩;go_wp2;go_ret;exact⟨Gt (by rw [HF.out];apply ByteArray.ext;simp),hx3.trans Ai⟩
  ·have hlt:=om a hb0;have Ql:(a.tmod b).natAbs<=9000000000000000000:=AqU (Nat.le_of_lt hlt) hb;have EG:=wA a b;have PW:(b != 0)=true:=(by rw [bne_iff_ne];exact hb0);have CW:(b == 0)=false:=(by rw [beq_eq_false_iff_ne];exact hb0);have JD:=AqH (EG.trans El);clear EG El;(go_wp2_with fail)
   go_quiet (fail)
   go_wp2;go_roundw
   case rel=>exact⟨b,a.tmod b,rfl,rfl,JD.out,hb,Ql,Ac.drewN _⟩
   case measure=>exact hlt
theorem RJ(l:Bs)(j:Nat)(h:j<(⟨l.toArray⟩:ByteArray).size):(⟨l.toArray⟩:ByteArray)[j]=l[j]'(by rw [Cp]at h;exact h):=by
 rw [ByteArray.getElem_eq_getElem_data];simp
attribute [local go_sem] RJ
def AH(q:Rat):Int:=if q=0 then 0 else if q<0 then -1 else 1
theorem xm{q:Rat}(h:q<0):AH q = -1:=by unfold AH;rw [if_neg (by rintro rfl;exact Rat.lt_irrefl h),if_pos h]
theorem mI{q:Rat}(h:0<q):AH q=1:=by
 unfold AH;rw [if_neg (by rintro rfl;exact Rat.lt_irrefl h),if_neg (by grind)]
theorem DR{q:Rat}(h:q≠0):(R q == [48])=false:=by rw [beq_eq_false_iff_ne];exact fun e=>h (pQ.1 e)
theorem NR{q:Rat}(h:q≠1):(R q == [49])=false:=by rw [beq_eq_false_iff_ne];exact fun e=>h (AbD.1 e)
theorem R7{k:Nat}{q:Rat}(hk:0<k)(h:Sz k q):(R q).length<=2*k+2:=by
 have h1:=Ms hk h.num;have h2:=GU hk h.den;rw [Mt];unfold EB
 split
 ·omega
 ·rw [List.length_append,List.length_cons];omega
theorem QN(q:Rat)(w:World):Calls Tryz.prog 75 #[S (R q)] w (Ax (AH q) w):=by
 by_cases h0:q=0
 ·subst h0;rw [KJ];go_enter Tryz.func75,Tryz.ntmps75;go_wp2;go_ret;exact⟨rfl,Aa.refl _⟩
 ·have h1:=DR h0
  rcases Zp q with⟨hn,e⟩|⟨hp,c,l,e,hd,hc⟩
  ·have HS:=AqH (xm hn);obtain⟨c,hc⟩:=AqG (45:UInt8);have hl:0<(R q).length:=(by rw [e];simp);have hg:(R q)[0]'hl=c:=(by rw [List.getElem_of_eq e hl,hc];rfl);have hcb:((c.toNat:Int) == 45)=true:=(by rw [hc];rfl);clear e hc hn;go_enter Tryz.func75,Tryz.ntmps75;go_wp2;go_ret;exact⟨Bf HS.out,Aa.refl _⟩
  ·have HS:=AqH (mI (q:=q) (by grind));have hl:0<(R q).length:=(by rw [e];simp);have hg:(R q)[0]'hl=c:=(by rw [List.getElem_of_eq e hl];rfl);have hcb:((c.toNat:Int) == 45)=false:=(by rw [beq_eq_false_iff_ne];intro k;exact hc (UInt8.toNat_inj.1 (by simp;omega)));clear e hc hp hd;go_enter Tryz.func75,Tryz.ntmps75;go_wp2;go_ret;exact⟨Bf HS.out,Aa.refl _⟩
theorem AlP(q:Rat){k:Nat}(hk:0<k)(hk2:k<=100000)(hz:Sz k q)(w:World):Calls Tryz.prog 305 #[S (R q)] w (Bg (R (-q)) w):=by
 have hlen:=R7 hk hz;by_cases h0:q=0
 ·subst h0;rw [Rat.neg_zero,KJ];go_enter Tryz.func305,Tryz.ntmps305;go_wp2;go_ret;exact⟨rfl,Aa.refl _⟩
 ·have h1:=DR h0
  rcases Zp q with⟨hn,e⟩|⟨hp,c,l,e,hd,hc⟩
  ·obtain⟨c,hc⟩:=AqG (45:UInt8);have hl:0<(R q).length:=(by rw [e];simp);have hg:(R q)[0]'hl=c:=(by rw [List.getElem_of_eq e hl,hc];rfl);have hcb:((c.toNat:Int) == 45)=true:=(by rw [hc];rfl);have HD:Hid ((R q).drop 1=R (-q)):=AqH (by rw [e];rfl);have Ep:(1:Int)<=((R q).length:Int):=(by omega);clear e hc hn;go_enter Tryz.func305,Tryz.ntmps305;go_wp2;go_ret;exact⟨Gt (by rw [←HD.out];first|exact aP _ _|(rw [So];simp)),Aa.refl _⟩
  ·have HD:Hid (R (-q)=45::R q):=AqH (by
    have:=pR (q:=-q) (by grind)
    rw [this,Rat.neg_neg])
   have hl:0<(R q).length:=(by rw [e];simp);have hg:(R q)[0]'hl=c:=(by rw [List.getElem_of_eq e hl];rfl);have hcb:((c.toNat:Int) == 45)=false:=(by rw [beq_eq_false_iff_ne];intro k;exact hc (UInt8.toNat_inj.1 (by simp;omega)));clear e hc hp hd;go_enter Tryz.func305,Tryz.ntmps305;go_wp2;go_ret;exact⟨Gt (by rw [HD.out];apply ByteArray.ext;simp),Aa.refl _⟩
theorem AlL(n:Int)(d:Nat)(hn:AE n)(hd:d<Big)(w:World):Calls Tryz.prog 304 #[S (I n),S (D d)] w (Bg (EB n d) w):=by
 have ln:=hn.len;have ld:(D d).length<=4000:=GU (k:=Vb) (by decide) hd;by_cases h:d=1
 ·subst h;have HF:Hid (EB n 1=I n):=AqH (if_pos rfl);rw [U2];go_enter Tryz.func304,Tryz.ntmps304;go_wp2;go_ret;exact⟨Gt (by rw [HF.out]),Aa.refl _⟩
 ·have HF:Hid (EB n d=I n++47::D d):=AqH (if_neg h);have hb:(D d == [49])=false:=(by rw [beq_eq_false_iff_ne,←U2];exact fun e=>h (U1 e));clear h;go_enter Tryz.func304,Tryz.ntmps304;go_wp2;go_ret;exact⟨Gt (by rw [HF.out];apply ByteArray.ext;simp),Aa.refl _⟩
def Ud(q:Rat):Value:=.tuple #[S (I q.num),S (D q.den)]
theorem AlQ(q:Rat){k:Nat}(hk:0<k)(hk2:k<=100000)(hz:Sz k q)(w:World)(hw:Am w):Calls Tryz.prog 144 #[S (R q)] w (De (Ud q) w):=by
 have hlen:=R7 hk hz;have hc:=cut_c (R q) [47] w hw (by omega);rw [UN]at hc;by_cases h:q.den=1
 ·rw [if_pos h]at hc;have HP:Hid (Ud q=.tuple #[S (I q.num),S [49]]):=AqH (by unfold Ud;rw [h,U2]);clear h;go_enter Tryz.func144,Tryz.ntmps144;(go_wp2_with fail);(with_reducible refine hc.mono ?_);rintro e w1 ⟨rfl,hx1⟩;go_wp2;go_ret2;exact⟨IF HP.out,hx1⟩
 ·rw [if_neg h]at hc;have HP:Hid (Ud q=.tuple #[S (I q.num),S (D q.den)]):=AqH rfl;clear h;go_enter Tryz.func144,Tryz.ntmps144;(go_wp2_with fail);(with_reducible refine hc.mono ?_);rintro e w1 ⟨rfl,hx1⟩;go_wp2;go_ret2;exact⟨IF HP.out,hx1⟩
end
end Go.Proofs.YtjalkoacphhgdaaGreatDoor
