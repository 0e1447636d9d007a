/- J27: KJ3. -/
import Derived.Test.YtnddllipjippnaaGreatDoorJ26
set_option maxRecDepth 100000
set_option maxHeartbeats 8000000
namespace Go.Proofs.YtnddllipjippnaaGreatDoor
open Go.RowKit Kl
theorem KA(x y:Bs)(W:World):(binOp .neq 24 (.agg #[S x,S y]) (.agg #[S [],S []])).run Tryz.prog W=.ok (.bool (Bi (x,y))) W:=by
 unfold Bi
 cases x<;>cases y<;>simp [go_sem]
theorem Ah8{w:World}{b:Nat}(x:Bs×Bs)(h:w.heap[b]?=some (.cells #[S x.1,S x.2] 24)):Af w (some ⟨b,0,none⟩) (flat [x]):=by
 refine⟨fun _=>⟨b,0,rfl,fun j hj=>?_⟩⟩;have zL:j<2:=hj;obtain rfl|rfl:j=0∨j=1:=by omega
 all_goals exact Aa h rfl
theorem jE{w:World}{b:Nat}(x y:Bs×Bs)(h:w.heap[b]?=some (.cells #[S x.1,S x.2,S y.1,S y.2] 24)):Af w (some ⟨b,0,none⟩) (flat [x,y]):=by
 refine⟨fun _=>⟨b,0,rfl,fun j hj=>?_⟩⟩;have zL:j<4:=hj;obtain rfl|rfl|rfl|rfl:j=0∨j=1∨j=2∨j=3:=by omega
 all_goals exact Aa h rfl
def RS(w:World)(l:List (Bs×Bs))(nm:Bool)(e:Ending)(w':World):Prop:=
 ∃b,e=.returned (.tuple #[.slice (some ⟨b,0,none⟩) l.length l.length,.bool nm])/\Af w' (some ⟨b,0,none⟩) (flat l)/\Ab w w'
theorem AkA(k:Int)(hk:k<1∨5<k)(a b p:Bs×Bs)(u:Bs)(w:World):Calls Tryz.prog 8 #[Bz k a b p u] w (AI (Do k a b p u) w):=by
 rw [rK hk];have hE:=(Ab.refl w).alloc (.cells #[.int .i64 k,S a.1,S a.2,S b.1,S b.2,S p.1,S p.2,S u] 26);have hq:=Ao6 w (.cells #[.int .i64 k,S a.1,S a.2,S b.1,S b.2,S p.1,S p.2,S u] 26);unfold Bz;go_enter Tryz.func8,Tryz.ntmps8
 go_upto_region 1 with fail
 have q0:=Aa (o:=0) hq rfl;by_cases h1:k<1
 ·clear hk;go_wp2;go_ret;exact⟨rfl,hE⟩
 ·have h5:5<k:=(by omega);clear hk;go_wp2;go_ret;exact⟨rfl,hE⟩
theorem Al6(a b p:Bs×Bs)(u:Bs)(w:World):Calls Tryz.prog 31 #[Bz 1 a b p u] w (RS w [a] true):=by
 have hE:=(Ab.refl w).alloc (.cells #[.int .i64 1,S a.1,S a.2,S b.1,S b.2,S p.1,S p.2,S u] 26);have hq:=Ao6 w (.cells #[.int .i64 1,S a.1,S a.2,S b.1,S b.2,S p.1,S p.2,S u] 26);unfold Bz;go_enter Tryz.func31,Tryz.ntmps31
 go_upto_region 1 with fail
 generalize w.alloc (.cells #[.int .i64 1,S a.1,S a.2,S b.1,S b.2,S p.1,S p.2,S u] 26)=V at *;obtain⟨bx,As⟩:=Ao3 w.heap.size;rw [←As]at hq ⊢;clear As;have q0:V.cell? ⟨bx,0,none⟩=some (.int .i64 1):=Aa hq rfl;have q1:V.cell? ⟨bx,1,none⟩=some (S a.1):=Aa hq rfl;have q2:V.cell? ⟨bx,2,none⟩=some (S a.2):=Aa hq rfl;have q3:V.cell? ⟨bx,3,none⟩=some (S b.1):=Aa hq rfl;have q4:V.cell? ⟨bx,4,none⟩=some (S b.2):=Aa hq rfl;have q5:V.cell? ⟨bx,5,none⟩=some (S p.1):=Aa hq rfl;have q6:V.cell? ⟨bx,6,none⟩=some (S p.2):=Aa hq rfl;go_wp2;have hp:=Ao6 V (.cells #[S a.1,S a.2] 24);have hx1:=(Ab.refl V).alloc (.cells #[S a.1,S a.2] 24);go_ret2;exact⟨_,rfl,Ah8 a hp,hE.trans hx1⟩
theorem Al7(a b p:Bs×Bs)(u:Bs)(w:World):Calls Tryz.prog 31 #[Bz 2 a b p u] w (RS w [a,b] true):=by
 have hE:=(Ab.refl w).alloc (.cells #[.int .i64 2,S a.1,S a.2,S b.1,S b.2,S p.1,S p.2,S u] 26);have hq:=Ao6 w (.cells #[.int .i64 2,S a.1,S a.2,S b.1,S b.2,S p.1,S p.2,S u] 26);unfold Bz;go_enter Tryz.func31,Tryz.ntmps31
 go_upto_region 1 with fail
 generalize w.alloc (.cells #[.int .i64 2,S a.1,S a.2,S b.1,S b.2,S p.1,S p.2,S u] 26)=V at *;obtain⟨bx,As⟩:=Ao3 w.heap.size;rw [←As]at hq ⊢;clear As;have q0:V.cell? ⟨bx,0,none⟩=some (.int .i64 2):=Aa hq rfl;have q1:V.cell? ⟨bx,1,none⟩=some (S a.1):=Aa hq rfl;have q2:V.cell? ⟨bx,2,none⟩=some (S a.2):=Aa hq rfl;have q3:V.cell? ⟨bx,3,none⟩=some (S b.1):=Aa hq rfl;have q4:V.cell? ⟨bx,4,none⟩=some (S b.2):=Aa hq rfl;have q5:V.cell? ⟨bx,5,none⟩=some (S p.1):=Aa hq rfl;have q6:V.cell? ⟨bx,6,none⟩=some (S p.2):=Aa hq rfl;go_wp2;have hp:=Ao6 V (.cells #[S a.1,S a.2,S b.1,S b.2] 24);have hx1:=(Ab.refl V).alloc (.cells #[S a.1,S a.2,S b.1,S b.2] 24);go_ret2;exact⟨_,rfl,jE a b hp,hE.trans hx1⟩
theorem Al8(a b p:Bs×Bs)(u:Bs)(w:World):Calls Tryz.prog 31 #[Bz 3 a b p u] w (RS w [a,b] false):=by
 have hE:=(Ab.refl w).alloc (.cells #[.int .i64 3,S a.1,S a.2,S b.1,S b.2,S p.1,S p.2,S u] 26);have hq:=Ao6 w (.cells #[.int .i64 3,S a.1,S a.2,S b.1,S b.2,S p.1,S p.2,S u] 26);unfold Bz;go_enter Tryz.func31,Tryz.ntmps31
 go_upto_region 1 with fail
 generalize w.alloc (.cells #[.int .i64 3,S a.1,S a.2,S b.1,S b.2,S p.1,S p.2,S u] 26)=V at *;obtain⟨bx,As⟩:=Ao3 w.heap.size;rw [←As]at hq ⊢;clear As;have q0:V.cell? ⟨bx,0,none⟩=some (.int .i64 3):=Aa hq rfl;have q1:V.cell? ⟨bx,1,none⟩=some (S a.1):=Aa hq rfl;have q2:V.cell? ⟨bx,2,none⟩=some (S a.2):=Aa hq rfl;have q3:V.cell? ⟨bx,3,none⟩=some (S b.1):=Aa hq rfl;have q4:V.cell? ⟨bx,4,none⟩=some (S b.2):=Aa hq rfl;have q5:V.cell? ⟨bx,5,none⟩=some (S p.1):=Aa hq rfl;have q6:V.cell? ⟨bx,6,none⟩=some (S p.2):=Aa hq rfl;go_wp2;have hp:=Ao6 V (.cells #[S a.1,S a.2,S b.1,S b.2] 24);have hx1:=(Ab.refl V).alloc (.cells #[S a.1,S a.2,S b.1,S b.2] 24);go_ret2;exact⟨_,rfl,jE a b hp,hE.trans hx1⟩
theorem Al9(a b p:Bs×Bs)(u:Bs)(w:World):Calls Tryz.prog 31 #[Bz 4 a b p u] w (RS w [a,b] false):=by
 have hE:=(Ab.refl w).alloc (.cells #[.int .i64 4,S a.1,S a.2,S b.1,S b.2,S p.1,S p.2,S u] 26);have hq:=Ao6 w (.cells #[.int .i64 4,S a.1,S a.2,S b.1,S b.2,S p.1,S p.2,S u] 26);unfold Bz;go_enter Tryz.func31,Tryz.ntmps31
 go_upto_region 1 with fail
 generalize w.alloc (.cells #[.int .i64 4,S a.1,S a.2,S b.1,S b.2,S p.1,S p.2,S u] 26)=V at *;obtain⟨bx,As⟩:=Ao3 w.heap.size;rw [←As]at hq ⊢;clear As;have q0:V.cell? ⟨bx,0,none⟩=some (.int .i64 4):=Aa hq rfl;have q1:V.cell? ⟨bx,1,none⟩=some (S a.1):=Aa hq rfl;have q2:V.cell? ⟨bx,2,none⟩=some (S a.2):=Aa hq rfl;have q3:V.cell? ⟨bx,3,none⟩=some (S b.1):=Aa hq rfl;have q4:V.cell? ⟨bx,4,none⟩=some (S b.2):=Aa hq rfl;have q5:V.cell? ⟨bx,5,none⟩=some (S p.1):=Aa hq rfl;have q6:V.cell? ⟨bx,6,none⟩=some (S p.2):=Aa hq rfl;go_wp2;have hp:=Ao6 V (.cells #[S a.1,S a.2,S b.1,S b.2] 24);have hx1:=(Ab.refl V).alloc (.cells #[S a.1,S a.2,S b.1,S b.2] 24);go_ret2;exact⟨_,rfl,jE a b hp,hE.trans hx1⟩
theorem AlA(a b p:Bs×Bs)(u:Bs)(w:World):Calls Tryz.prog 31 #[Bz 5 a b p u] w (RS w [a,b,p] false):=by
 have hE:=(Ab.refl w).alloc (.cells #[.int .i64 5,S a.1,S a.2,S b.1,S b.2,S p.1,S p.2,S u] 26);have hq:=Ao6 w (.cells #[.int .i64 5,S a.1,S a.2,S b.1,S b.2,S p.1,S p.2,S u] 26);unfold Bz;go_enter Tryz.func31,Tryz.ntmps31
 go_upto_region 1 with fail
 generalize w.alloc (.cells #[.int .i64 5,S a.1,S a.2,S b.1,S b.2,S p.1,S p.2,S u] 26)=V at *;obtain⟨bx,As⟩:=Ao3 w.heap.size;rw [←As]at hq ⊢;clear As;have q0:V.cell? ⟨bx,0,none⟩=some (.int .i64 5):=Aa hq rfl;have q1:V.cell? ⟨bx,1,none⟩=some (S a.1):=Aa hq rfl;have q2:V.cell? ⟨bx,2,none⟩=some (S a.2):=Aa hq rfl;have q3:V.cell? ⟨bx,3,none⟩=some (S b.1):=Aa hq rfl;have q4:V.cell? ⟨bx,4,none⟩=some (S b.2):=Aa hq rfl;have q5:V.cell? ⟨bx,5,none⟩=some (S p.1):=Aa hq rfl;have q6:V.cell? ⟨bx,6,none⟩=some (S p.2):=Aa hq rfl;go_wp2;have hp:=Ao6 V (.cells #[S a.1,S a.2,S b.1,S b.2,S p.1,S p.2] 24);have hx1:=(Ab.refl V).alloc (.cells #[S a.1,S a.2,S b.1,S b.2,S p.1,S p.2] 24);go_ret2;exact⟨_,rfl,QI a b p hp,hE.trans hx1⟩
theorem Ak5(a b p:Bs×Bs)(u:Bs)(hs:FV a b p u)(w:World)(hw:Am w):Calls Tryz.prog 8 #[Bz 1 a b p u] w (AI (Do 1 a b p u) w):=by
 rw [rH];have hsp:=hs.pt;have hsu:=hs.u;obtain⟨z,hz⟩:=Ao3 ((if ([a,b,p].take 1).all AU=false then (2:Int)else if (true && !(u == []) && !nameB u)=true then 8 else if (!true && !(u == [])||([a,b,p].drop 1).any Bi)=true then 7 else 0));rw [←hz];have HZ:=Ao4 hz;clear hz hs;have us:=fun W=>Al6 a b p u W;have hE:=(Ab.refl w).alloc (.cells #[.int .i64 1,S a.1,S a.2,S b.1,S b.2,S p.1,S p.2,S u] 26);have hq:=Ao6 w (.cells #[.int .i64 1,S a.1,S a.2,S b.1,S b.2,S p.1,S p.2,S u] 26);unfold Bz at us ⊢;go_enter Tryz.func8,Tryz.ntmps8
 go_upto_region 1 with fail
 generalize w.alloc (.cells #[.int .i64 1,S a.1,S a.2,S b.1,S b.2,S p.1,S p.2,S u] 26)=V at *;obtain⟨bx,As⟩:=Ao3 w.heap.size;rw [←As]at hq ⊢;clear As;have q0:V.cell? ⟨bx,0,none⟩=some (.int .i64 1):=Aa hq rfl;have q1:V.cell? ⟨bx,1,none⟩=some (S a.1):=Aa hq rfl;have q2:V.cell? ⟨bx,2,none⟩=some (S a.2):=Aa hq rfl;have q3:V.cell? ⟨bx,3,none⟩=some (S b.1):=Aa hq rfl;have q4:V.cell? ⟨bx,4,none⟩=some (S b.2):=Aa hq rfl;have q5:V.cell? ⟨bx,5,none⟩=some (S p.1):=Aa hq rfl;have q6:V.cell? ⟨bx,6,none⟩=some (S p.2):=Aa hq rfl;have q7:V.cell? ⟨bx,7,none⟩=some (S u):=Aa hq rfl;have u1:=us V;(go_wp2_with fail);(with_reducible refine u1.mono ?_);rintro e V2 ⟨bp,rfl,HP,hx1⟩
 dsimp only [List.length_cons,List.length_nil,Nat.zero_add,Nat.reduceAdd]
 replace hq:=(hx1.block _ (Ao5 hq)).trans hq;replace hE:=hE.trans hx1;clear q0 q1 q2 q3 q4 q5 q6 q7 hx1 u1 us
 go_upto_region 5 with fail
 go_loopw [23] (fun i wr=>∃j:Nat,i=.int .i64 (j:Nat)/\j<=1/\(∀q∈[a].take j,AU q=true)/\Ab V2 wr) (fun i _=>1-(intOf i).toNat)
 case atStart=>exact⟨0,rfl,by omega,by simp,Ab.refl _⟩
 case round=>
  obtain⟨j,rfl,hj,Ai,Ac⟩:=hrel;have HO:=Ao4 Ai;clear Ai;by_cases hlt:j<1
  ·have hlt3:j < [a].length:=hlt;obtain⟨bb,o,e,hg1,hg2⟩:=J9 (HP.ext Ac) hlt3;simp only [AoB,Addr.mk.injEq]at e;obtain⟨rfl,rfl,-⟩:=e;rw [Nat.zero_add]at hg1 hg2;obtain⟨q,BC⟩:=Ao3 ([a][j]);have Bp:=hsp q (by rw [BC];exact List.mem_of_mem_take (i:=1) (Ao8 hlt3));rw [←BC]at hg1 hg2;have hj0:(0:Int)<=(j:Int):=(by omega);have Bc:(j:Int)<1:=(by omega);have hnew:=fun O=>(Ab.refl wr).alloc O;have cp:=fun W (h:Ab w W)=>GF q.1 q.2 (AU q) (Hh q) Bp.1 Bp.2 W (hw.ext h);have BM:=hE.trans Ac;have HQ:=Ao4 BC;clear BC Bp
   cases e0:AU q
   ·have HE:=Ao4 e0
    have hall:([a,b,p].take 1).all AU=false:=by rw [List.all_eq_false];exact⟨q,by rw [HQ.out];exact Ao8 hlt3,by rw [e0];simp⟩
    rw [e0,Gm]at cp;clear e0;have hz2:z=2:=(by rw [HZ.out,if_pos hall]);clear hall;subst hz2;have c1:=cp _ (BM.trans (hnew (.cells #[S q.1,S q.2] 24)));(go_wp2_with fail);(with_reducible refine c1.mono ?_);rintro e w2 ⟨rfl,hx2⟩;go_wp2;go_ret;exact⟨rfl,(BM.trans (hnew _)).trans hx2⟩
   ·have HE:=Ao4 e0;rw [e0,Ek]at cp;clear e0;have c1:=cp _ (BM.trans (hnew (.cells #[S q.1,S q.2] 24)));(go_wp2_with fail);(with_reducible refine c1.mono ?_);rintro e w2 ⟨rfl,hx2⟩;go_wp2;go_roundw
    case rel=>
     refine⟨j+1,by go_num,hlt,?_,(Ac.trans (hnew _)).trans hx2⟩;intro x hx;rw [AoA hlt3,←HQ.out]at hx
     rcases List.mem_append.1 hx with h|h
     ·exact HO.out x h
     ·simp only [AoJ]at h;rw [h];exact HE.out
    case measure=>simp [intOf];omega
  ·obtain rfl:j=1:=(by omega);have hall:([a,b,p].take 1).all AU=true:=List.all_eq_true.2 HO.out;have hz1:=HZ.out;rw [hall,if_neg (by simp)]at hz1;have Bt:=Ao4 hz1;clear hall hz1 HZ HO hlt hj HP;replace hq:=(Ac.block _ (Ao5 hq)).trans hq;have hW:=hE.trans Ac;clear Ac hE;have q3:wr.cell? ⟨bx,3,none⟩=some (S b.1):=Aa hq rfl;have q4:wr.cell? ⟨bx,4,none⟩=some (S b.2):=Aa hq rfl;have q5:wr.cell? ⟨bx,5,none⟩=some (S p.1):=Aa hq rfl;have q6:wr.cell? ⟨bx,6,none⟩=some (S p.2):=Aa hq rfl;have q7:wr.cell? ⟨bx,7,none⟩=some (S u):=Aa hq rfl;have hnil:¬u = []→u.isEmpty=false:=fun h=>(by cases u<;>simp_all);have pb:∀W,(binOp .neq 24 (.agg #[S b.1,S b.2]) (.agg #[S [],S []])).run Tryz.prog W=.ok (.bool (Bi b)) W:=KA b.1 b.2;have pp:∀W,(binOp .neq 24 (.agg #[S p.1,S p.2]) (.agg #[S [],S []])).run Tryz.prog W=.ok (.bool (Bi p)) W:=KA p.1 p.2;by_cases hu:u = []
   ·have hz2:=Bt.out;rw [hu]at hz2 q7;rw [if_neg (by simp)]at hz2;clear Bt hnil
    cases e2:Bi b
    ·cases e3:Bi p
     ·have hz3:z=0:=(by rw [hz2];simp [e2,e3]);rw [e2]at pb;rw [e3]at pp;clear hz2 e2 e3;subst hz3;have hzz:=Ao6 wr (.cells #[S [],S []] 24);have Ah:=(Ab.refl wr).alloc (.cells #[S [],S []] 24)
      go_upto_region 13 with fail
      generalize wr.alloc (.cells #[S [],S []] 24)=W9 at *;replace q3:=Ah.cellS q3;replace q4:=Ah.cellS q4;replace q5:=Ah.cellS q5;replace q6:=Ah.cellS q6;replace q7:=Ah.cellS q7;have y0:=Aa (o:=0) hzz rfl;have y1:=Aa (o:=1) hzz rfl;go_wp2;go_ret;exact⟨rfl,hW.trans Ah⟩
     ·have hz3:z=7:=(by rw [hz2];simp [e2,e3]);rw [e2]at pb;rw [e3]at pp;clear hz2 e2 e3;subst hz3;have hzz:=Ao6 wr (.cells #[S [],S []] 24);have Ah:=(Ab.refl wr).alloc (.cells #[S [],S []] 24)
      go_upto_region 13 with fail
      generalize wr.alloc (.cells #[S [],S []] 24)=W9 at *;replace q3:=Ah.cellS q3;replace q4:=Ah.cellS q4;replace q5:=Ah.cellS q5;replace q6:=Ah.cellS q6;replace q7:=Ah.cellS q7;have y0:=Aa (o:=0) hzz rfl;have y1:=Aa (o:=1) hzz rfl;go_wp2;go_ret;exact⟨rfl,hW.trans Ah⟩
    ·have hz3:z=7:=(by rw [hz2];simp [e2]);rw [e2]at pb;clear hz2 e2;subst hz3;have hzz:=Ao6 wr (.cells #[S [],S []] 24);have Ah:=(Ab.refl wr).alloc (.cells #[S [],S []] 24)
     go_upto_region 13 with fail
     generalize wr.alloc (.cells #[S [],S []] 24)=W9 at *;replace q3:=Ah.cellS q3;replace q4:=Ah.cellS q4;replace q5:=Ah.cellS q5;replace q6:=Ah.cellS q6;replace q7:=Ah.cellS q7;have y0:=Aa (o:=0) hzz rfl;have y1:=Aa (o:=1) hzz rfl;go_wp2;go_ret;exact⟨rfl,hW.trans Ah⟩
   ·have hu2:=hnil hu
    have hb:(u == [])=false:=by cases u with|nil=>exact absurd rfl hu|cons x y=>rfl
    have hz2:=Bt.out;rw [hb]at hz2;have nx:=fun W=>jr u (by omega) W;clear Bt hnil
    cases e1:nameB u
    ·rw [e1,if_pos (by simp)]at hz2;have n1:=nx wr;rw [e1]at n1;clear e1;subst hz2;(go_wp2_with fail);(with_reducible refine n1.mono ?_);rintro e w3 ⟨rfl,hx3⟩;go_wp2;go_ret;exact⟨rfl,hW.trans hx3⟩
    ·rw [e1,if_neg (by simp)]at hz2;have n1:=nx wr;rw [e1]at n1;have M9:=Ao4 hz2;clear e1 hz2;(go_wp2_with fail);(with_reducible refine n1.mono ?_);rintro e w3 ⟨rfl,hx3⟩;have hW3:=hW.trans hx3;replace q3:=hx3.cellS q3;replace q4:=hx3.cellS q4;replace q5:=hx3.cellS q5;replace q6:=hx3.cellS q6;replace q7:=hx3.cellS q7;have hz2:=M9.out;clear hx3 hW n1 nx M9
     cases e2:Bi b
     ·cases e3:Bi p
      ·have hz3:z=0:=(by rw [hz2];simp [e2,e3]);rw [e2]at pb;rw [e3]at pp;clear hz2 e2 e3;subst hz3;have hzz:=Ao6 w3 (.cells #[S [],S []] 24);have Ah:=(Ab.refl w3).alloc (.cells #[S [],S []] 24)
       go_upto_region 13 with fail
       generalize w3.alloc (.cells #[S [],S []] 24)=W9 at *;replace q3:=Ah.cellS q3;replace q4:=Ah.cellS q4;replace q5:=Ah.cellS q5;replace q6:=Ah.cellS q6;replace q7:=Ah.cellS q7;have y0:=Aa (o:=0) hzz rfl;have y1:=Aa (o:=1) hzz rfl;go_wp2;go_ret;exact⟨rfl,hW3.trans Ah⟩
      ·have hz3:z=7:=(by rw [hz2];simp [e2,e3]);rw [e2]at pb;rw [e3]at pp;clear hz2 e2 e3;subst hz3;have hzz:=Ao6 w3 (.cells #[S [],S []] 24);have Ah:=(Ab.refl w3).alloc (.cells #[S [],S []] 24)
       go_upto_region 13 with fail
       generalize w3.alloc (.cells #[S [],S []] 24)=W9 at *;replace q3:=Ah.cellS q3;replace q4:=Ah.cellS q4;replace q5:=Ah.cellS q5;replace q6:=Ah.cellS q6;replace q7:=Ah.cellS q7;have y0:=Aa (o:=0) hzz rfl;have y1:=Aa (o:=1) hzz rfl;go_wp2;go_ret;exact⟨rfl,hW3.trans Ah⟩
     ·have hz3:z=7:=(by rw [hz2];simp [e2]);rw [e2]at pb;clear hz2 e2;subst hz3;have hzz:=Ao6 w3 (.cells #[S [],S []] 24);have Ah:=(Ab.refl w3).alloc (.cells #[S [],S []] 24)
      go_upto_region 13 with fail
      generalize w3.alloc (.cells #[S [],S []] 24)=W9 at *;replace q3:=Ah.cellS q3;replace q4:=Ah.cellS q4;replace q5:=Ah.cellS q5;replace q6:=Ah.cellS q6;replace q7:=Ah.cellS q7;have y0:=Aa (o:=0) hzz rfl;have y1:=Aa (o:=1) hzz rfl;go_wp2;go_ret;exact⟨rfl,hW3.trans Ah⟩
theorem Ak6(a b p:Bs×Bs)(u:Bs)(hs:FV a b p u)(w:World)(hw:Am w):Calls Tryz.prog 8 #[Bz 2 a b p u] w (AI (Do 2 a b p u) w):=by
 rw [ZF];have hsp:=hs.pt;have hsu:=hs.u;obtain⟨z,hz⟩:=Ao3 ((if ([a,b,p].take 2).all AU=false then (2:Int)else if (true && !(u == []) && !nameB u)=true then 8 else if (!true && !(u == [])||([a,b,p].drop 2).any Bi)=true then 7 else 0));rw [←hz];have HZ:=Ao4 hz;clear hz hs;have us:=fun W=>Al7 a b p u W;have hE:=(Ab.refl w).alloc (.cells #[.int .i64 2,S a.1,S a.2,S b.1,S b.2,S p.1,S p.2,S u] 26);have hq:=Ao6 w (.cells #[.int .i64 2,S a.1,S a.2,S b.1,S b.2,S p.1,S p.2,S u] 26);unfold Bz at us ⊢;go_enter Tryz.func8,Tryz.ntmps8
 go_upto_region 1 with fail
 generalize w.alloc (.cells #[.int .i64 2,S a.1,S a.2,S b.1,S b.2,S p.1,S p.2,S u] 26)=V at *;obtain⟨bx,As⟩:=Ao3 w.heap.size;rw [←As]at hq ⊢;clear As;have q0:V.cell? ⟨bx,0,none⟩=some (.int .i64 2):=Aa hq rfl;have q1:V.cell? ⟨bx,1,none⟩=some (S a.1):=Aa hq rfl;have q2:V.cell? ⟨bx,2,none⟩=some (S a.2):=Aa hq rfl;have q3:V.cell? ⟨bx,3,none⟩=some (S b.1):=Aa hq rfl;have q4:V.cell? ⟨bx,4,none⟩=some (S b.2):=Aa hq rfl;have q5:V.cell? ⟨bx,5,none⟩=some (S p.1):=Aa hq rfl;have q6:V.cell? ⟨bx,6,none⟩=some (S p.2):=Aa hq rfl;have q7:V.cell? ⟨bx,7,none⟩=some (S u):=Aa hq rfl;have u1:=us V;(go_wp2_with fail);(with_reducible refine u1.mono ?_);rintro e V2 ⟨bp,rfl,HP,hx1⟩
 dsimp only [List.length_cons,List.length_nil,Nat.zero_add,Nat.reduceAdd]
 replace hq:=(hx1.block _ (Ao5 hq)).trans hq;replace hE:=hE.trans hx1;clear q0 q1 q2 q3 q4 q5 q6 q7 hx1 u1 us
 go_upto_region 5 with fail
 go_loopw [23] (fun i wr=>∃j:Nat,i=.int .i64 (j:Nat)/\j<=2/\(∀q∈[a,b].take j,AU q=true)/\Ab V2 wr) (fun i _=>2-(intOf i).toNat)
 case atStart=>exact⟨0,rfl,by omega,by simp,Ab.refl _⟩
 case round=>
  obtain⟨j,rfl,hj,Ai,Ac⟩:=hrel;have HO:=Ao4 Ai;clear Ai;by_cases hlt:j<2
  ·have hlt3:j < [a,b].length:=hlt;obtain⟨bb,o,e,hg1,hg2⟩:=J9 (HP.ext Ac) hlt3;simp only [AoB,Addr.mk.injEq]at e;obtain⟨rfl,rfl,-⟩:=e;rw [Nat.zero_add]at hg1 hg2;obtain⟨q,BC⟩:=Ao3 ([a,b][j]);have Bp:=hsp q (by rw [BC];exact List.mem_of_mem_take (i:=2) (Ao8 hlt3));rw [←BC]at hg1 hg2;have hj0:(0:Int)<=(j:Int):=(by omega);have Bc:(j:Int)<2:=(by omega);have hnew:=fun O=>(Ab.refl wr).alloc O;have cp:=fun W (h:Ab w W)=>GF q.1 q.2 (AU q) (Hh q) Bp.1 Bp.2 W (hw.ext h);have BM:=hE.trans Ac;have HQ:=Ao4 BC;clear BC Bp
   cases e0:AU q
   ·have HE:=Ao4 e0
    have hall:([a,b,p].take 2).all AU=false:=by rw [List.all_eq_false];exact⟨q,by rw [HQ.out];exact Ao8 hlt3,by rw [e0];simp⟩
    rw [e0,Gm]at cp;clear e0;have hz2:z=2:=(by rw [HZ.out,if_pos hall]);clear hall;subst hz2;have c1:=cp _ (BM.trans (hnew (.cells #[S q.1,S q.2] 24)));(go_wp2_with fail);(with_reducible refine c1.mono ?_);rintro e w2 ⟨rfl,hx2⟩;go_wp2;go_ret;exact⟨rfl,(BM.trans (hnew _)).trans hx2⟩
   ·have HE:=Ao4 e0;rw [e0,Ek]at cp;clear e0;have c1:=cp _ (BM.trans (hnew (.cells #[S q.1,S q.2] 24)));(go_wp2_with fail);(with_reducible refine c1.mono ?_);rintro e w2 ⟨rfl,hx2⟩;go_wp2;go_roundw
    case rel=>
     refine⟨j+1,by go_num,hlt,?_,(Ac.trans (hnew _)).trans hx2⟩;intro x hx;rw [AoA hlt3,←HQ.out]at hx
     rcases List.mem_append.1 hx with h|h
     ·exact HO.out x h
     ·simp only [AoJ]at h;rw [h];exact HE.out
    case measure=>simp [intOf];omega
  ·obtain rfl:j=2:=(by omega);have hall:([a,b,p].take 2).all AU=true:=List.all_eq_true.2 HO.out;have hz1:=HZ.out;rw [hall,if_neg (by simp)]at hz1;have Bt:=Ao4 hz1;clear hall hz1 HZ HO hlt hj HP;replace hq:=(Ac.block _ (Ao5 hq)).trans hq;have hW:=hE.trans Ac;clear Ac hE;have q3:wr.cell? ⟨bx,3,none⟩=some (S b.1):=Aa hq rfl;have q4:wr.cell? ⟨bx,4,none⟩=some (S b.2):=Aa hq rfl;have q5:wr.cell? ⟨bx,5,none⟩=some (S p.1):=Aa hq rfl;have q6:wr.cell? ⟨bx,6,none⟩=some (S p.2):=Aa hq rfl;have q7:wr.cell? ⟨bx,7,none⟩=some (S u):=Aa hq rfl;have hnil:¬u = []→u.isEmpty=false:=fun h=>(by cases u<;>simp_all);have pb:∀W,(binOp .neq 24 (.agg #[S b.1,S b.2]) (.agg #[S [],S []])).run Tryz.prog W=.ok (.bool (Bi b)) W:=KA b.1 b.2;have pp:∀W,(binOp .neq 24 (.agg #[S p.1,S p.2]) (.agg #[S [],S []])).run Tryz.prog W=.ok (.bool (Bi p)) W:=KA p.1 p.2;by_cases hu:u = []
   ·have hz2:=Bt.out;rw [hu]at hz2 q7;rw [if_neg (by simp)]at hz2;clear Bt hnil
    cases e3:Bi p
    ·have hz3:z=0:=(by rw [hz2];simp [e3]);rw [e3]at pp;clear hz2 e3;subst hz3;have hzz:=Ao6 wr (.cells #[S [],S []] 24);have Ah:=(Ab.refl wr).alloc (.cells #[S [],S []] 24)
     go_upto_region 13 with fail
     generalize wr.alloc (.cells #[S [],S []] 24)=W9 at *;replace q3:=Ah.cellS q3;replace q4:=Ah.cellS q4;replace q5:=Ah.cellS q5;replace q6:=Ah.cellS q6;replace q7:=Ah.cellS q7;have y0:=Aa (o:=0) hzz rfl;have y1:=Aa (o:=1) hzz rfl;go_wp2;go_ret;exact⟨rfl,hW.trans Ah⟩
    ·have hz3:z=7:=(by rw [hz2];simp [e3]);rw [e3]at pp;clear hz2 e3;subst hz3;have hzz:=Ao6 wr (.cells #[S [],S []] 24);have Ah:=(Ab.refl wr).alloc (.cells #[S [],S []] 24)
     go_upto_region 13 with fail
     generalize wr.alloc (.cells #[S [],S []] 24)=W9 at *;replace q3:=Ah.cellS q3;replace q4:=Ah.cellS q4;replace q5:=Ah.cellS q5;replace q6:=Ah.cellS q6;replace q7:=Ah.cellS q7;have y0:=Aa (o:=0) hzz rfl;have y1:=Aa (o:=1) hzz rfl;go_wp2;go_ret;exact⟨rfl,hW.trans Ah⟩
   ·have hu2:=hnil hu
    have hb:(u == [])=false:=by cases u with|nil=>exact absurd rfl hu|cons x y=>rfl
    have hz2:=Bt.out;rw [hb]at hz2;have nx:=fun W=>jr u (by omega) W;clear Bt hnil
    cases e1:nameB u
    ·rw [e1,if_pos (by simp)]at hz2;have n1:=nx wr;rw [e1]at n1;clear e1;subst hz2;(go_wp2_with fail);(with_reducible refine n1.mono ?_);rintro e w3 ⟨rfl,hx3⟩;go_wp2;go_ret;exact⟨rfl,hW.trans hx3⟩
    ·rw [e1,if_neg (by simp)]at hz2;have n1:=nx wr;rw [e1]at n1;have M9:=Ao4 hz2;clear e1 hz2;(go_wp2_with fail);(with_reducible refine n1.mono ?_);rintro e w3 ⟨rfl,hx3⟩;have hW3:=hW.trans hx3;replace q3:=hx3.cellS q3;replace q4:=hx3.cellS q4;replace q5:=hx3.cellS q5;replace q6:=hx3.cellS q6;replace q7:=hx3.cellS q7;have hz2:=M9.out;clear hx3 hW n1 nx M9
     cases e3:Bi p
     ·have hz3:z=0:=(by rw [hz2];simp [e3]);rw [e3]at pp;clear hz2 e3;subst hz3;have hzz:=Ao6 w3 (.cells #[S [],S []] 24);have Ah:=(Ab.refl w3).alloc (.cells #[S [],S []] 24)
      go_upto_region 13 with fail
      generalize w3.alloc (.cells #[S [],S []] 24)=W9 at *;replace q3:=Ah.cellS q3;replace q4:=Ah.cellS q4;replace q5:=Ah.cellS q5;replace q6:=Ah.cellS q6;replace q7:=Ah.cellS q7;have y0:=Aa (o:=0) hzz rfl;have y1:=Aa (o:=1) hzz rfl;go_wp2;go_ret;exact⟨rfl,hW3.trans Ah⟩
     ·have hz3:z=7:=(by rw [hz2];simp [e3]);rw [e3]at pp;clear hz2 e3;subst hz3;have hzz:=Ao6 w3 (.cells #[S [],S []] 24);have Ah:=(Ab.refl w3).alloc (.cells #[S [],S []] 24)
      go_upto_region 13 with fail
      generalize w3.alloc (.cells #[S [],S []] 24)=W9 at *;replace q3:=Ah.cellS q3;replace q4:=Ah.cellS q4;replace q5:=Ah.cellS q5;replace q6:=Ah.cellS q6;replace q7:=Ah.cellS q7;have y0:=Aa (o:=0) hzz rfl;have y1:=Aa (o:=1) hzz rfl;go_wp2;go_ret;exact⟨rfl,hW3.trans Ah⟩
theorem Ak7(a b p:Bs×Bs)(u:Bs)(hs:FV a b p u)(w:World)(hw:Am w):Calls Tryz.prog 8 #[Bz 3 a b p u] w (AI (Do 3 a b p u) w):=by
 rw [ZG];have hsp:=hs.pt;have hsu:=hs.u;obtain⟨z,hz⟩:=Ao3 ((if ([a,b,p].take 2).all AU=false then (2:Int)else if (false && !(u == []) && !nameB u)=true then 8 else if (!false && !(u == [])||([a,b,p].drop 2).any Bi)=true then 7 else 0));rw [←hz];have HZ:=Ao4 hz;clear hz hs;have us:=fun W=>Al8 a b p u W;have hE:=(Ab.refl w).alloc (.cells #[.int .i64 3,S a.1,S a.2,S b.1,S b.2,S p.1,S p.2,S u] 26);have hq:=Ao6 w (.cells #[.int .i64 3,S a.1,S a.2,S b.1,S b.2,S p.1,S p.2,S u] 26);unfold Bz at us ⊢;go_enter Tryz.func8,Tryz.ntmps8
 go_upto_region 1 with fail
 generalize w.alloc (.cells #[.int .i64 3,S a.1,S a.2,S b.1,S b.2,S p.1,S p.2,S u] 26)=V at *;obtain⟨bx,As⟩:=Ao3 w.heap.size;rw [←As]at hq ⊢;clear As;have q0:V.cell? ⟨bx,0,none⟩=some (.int .i64 3):=Aa hq rfl;have q1:V.cell? ⟨bx,1,none⟩=some (S a.1):=Aa hq rfl;have q2:V.cell? ⟨bx,2,none⟩=some (S a.2):=Aa hq rfl;have q3:V.cell? ⟨bx,3,none⟩=some (S b.1):=Aa hq rfl;have q4:V.cell? ⟨bx,4,none⟩=some (S b.2):=Aa hq rfl;have q5:V.cell? ⟨bx,5,none⟩=some (S p.1):=Aa hq rfl;have q6:V.cell? ⟨bx,6,none⟩=some (S p.2):=Aa hq rfl;have q7:V.cell? ⟨bx,7,none⟩=some (S u):=Aa hq rfl;have u1:=us V;(go_wp2_with fail);(with_reducible refine u1.mono ?_);rintro e V2 ⟨bp,rfl,HP,hx1⟩
 dsimp only [List.length_cons,List.length_nil,Nat.zero_add,Nat.reduceAdd]
 replace hq:=(hx1.block _ (Ao5 hq)).trans hq;replace hE:=hE.trans hx1;clear q0 q1 q2 q3 q4 q5 q6 q7 hx1 u1 us
 go_upto_region 5 with fail
 go_loopw [23] (fun i wr=>∃j:Nat,i=.int .i64 (j:Nat)/\j<=2/\(∀q∈[a,b].take j,AU q=true)/\Ab V2 wr) (fun i _=>2-(intOf i).toNat)
 case atStart=>exact⟨0,rfl,by omega,by simp,Ab.refl _⟩
 case round=>
  obtain⟨j,rfl,hj,Ai,Ac⟩:=hrel;have HO:=Ao4 Ai;clear Ai;by_cases hlt:j<2
  ·have hlt3:j < [a,b].length:=hlt;obtain⟨bb,o,e,hg1,hg2⟩:=J9 (HP.ext Ac) hlt3;simp only [AoB,Addr.mk.injEq]at e;obtain⟨rfl,rfl,-⟩:=e;rw [Nat.zero_add]at hg1 hg2;obtain⟨q,BC⟩:=Ao3 ([a,b][j]);have Bp:=hsp q (by rw [BC];exact List.mem_of_mem_take (i:=2) (Ao8 hlt3));rw [←BC]at hg1 hg2;have hj0:(0:Int)<=(j:Int):=(by omega);have Bc:(j:Int)<2:=(by omega);have hnew:=fun O=>(Ab.refl wr).alloc O;have cp:=fun W (h:Ab w W)=>GF q.1 q.2 (AU q) (Hh q) Bp.1 Bp.2 W (hw.ext h);have BM:=hE.trans Ac;have HQ:=Ao4 BC;clear BC Bp
   cases e0:AU q
   ·have HE:=Ao4 e0
    have hall:([a,b,p].take 2).all AU=false:=by rw [List.all_eq_false];exact⟨q,by rw [HQ.out];exact Ao8 hlt3,by rw [e0];simp⟩
    rw [e0,Gm]at cp;clear e0;have hz2:z=2:=(by rw [HZ.out,if_pos hall]);clear hall;subst hz2;have c1:=cp _ (BM.trans (hnew (.cells #[S q.1,S q.2] 24)));(go_wp2_with fail);(with_reducible refine c1.mono ?_);rintro e w2 ⟨rfl,hx2⟩;go_wp2;go_ret;exact⟨rfl,(BM.trans (hnew _)).trans hx2⟩
   ·have HE:=Ao4 e0;rw [e0,Ek]at cp;clear e0;have c1:=cp _ (BM.trans (hnew (.cells #[S q.1,S q.2] 24)));(go_wp2_with fail);(with_reducible refine c1.mono ?_);rintro e w2 ⟨rfl,hx2⟩;go_wp2;go_roundw
    case rel=>
     refine⟨j+1,by go_num,hlt,?_,(Ac.trans (hnew _)).trans hx2⟩;intro x hx;rw [AoA hlt3,←HQ.out]at hx
     rcases List.mem_append.1 hx with h|h
     ·exact HO.out x h
     ·simp only [AoJ]at h;rw [h];exact HE.out
    case measure=>simp [intOf];omega
  ·obtain rfl:j=2:=(by omega);have hall:([a,b,p].take 2).all AU=true:=List.all_eq_true.2 HO.out;have hz1:=HZ.out;rw [hall,if_neg (by simp)]at hz1;have Bt:=Ao4 hz1;clear hall hz1 HZ HO hlt hj HP;replace hq:=(Ac.block _ (Ao5 hq)).trans hq;have hW:=hE.trans Ac;clear Ac hE;have q3:wr.cell? ⟨bx,3,none⟩=some (S b.1):=Aa hq rfl;have q4:wr.cell? ⟨bx,4,none⟩=some (S b.2):=Aa hq rfl;have q5:wr.cell? ⟨bx,5,none⟩=some (S p.1):=Aa hq rfl;have q6:wr.cell? ⟨bx,6,none⟩=some (S p.2):=Aa hq rfl;have q7:wr.cell? ⟨bx,7,none⟩=some (S u):=Aa hq rfl;have hnil:¬u = []→u.isEmpty=false:=fun h=>(by cases u<;>simp_all);have pb:∀W,(binOp .neq 24 (.agg #[S b.1,S b.2]) (.agg #[S [],S []])).run Tryz.prog W=.ok (.bool (Bi b)) W:=KA b.1 b.2;have pp:∀W,(binOp .neq 24 (.agg #[S p.1,S p.2]) (.agg #[S [],S []])).run Tryz.prog W=.ok (.bool (Bi p)) W:=KA p.1 p.2;by_cases hu:u = []
   ·have hz2:=Bt.out;rw [hu]at hz2 q7;rw [if_neg (by simp)]at hz2;clear Bt hnil
    cases e3:Bi p
    ·have hz3:z=0:=(by rw [hz2];simp [e3]);rw [e3]at pp;clear hz2 e3;subst hz3;have hzz:=Ao6 wr (.cells #[S [],S []] 24);have Ah:=(Ab.refl wr).alloc (.cells #[S [],S []] 24)
     go_upto_region 13 with fail
     generalize wr.alloc (.cells #[S [],S []] 24)=W9 at *;replace q3:=Ah.cellS q3;replace q4:=Ah.cellS q4;replace q5:=Ah.cellS q5;replace q6:=Ah.cellS q6;replace q7:=Ah.cellS q7;have y0:=Aa (o:=0) hzz rfl;have y1:=Aa (o:=1) hzz rfl;go_wp2;go_ret;exact⟨rfl,hW.trans Ah⟩
    ·have hz3:z=7:=(by rw [hz2];simp [e3]);rw [e3]at pp;clear hz2 e3;subst hz3;have hzz:=Ao6 wr (.cells #[S [],S []] 24);have Ah:=(Ab.refl wr).alloc (.cells #[S [],S []] 24)
     go_upto_region 13 with fail
     generalize wr.alloc (.cells #[S [],S []] 24)=W9 at *;replace q3:=Ah.cellS q3;replace q4:=Ah.cellS q4;replace q5:=Ah.cellS q5;replace q6:=Ah.cellS q6;replace q7:=Ah.cellS q7;have y0:=Aa (o:=0) hzz rfl;have y1:=Aa (o:=1) hzz rfl;go_wp2;go_ret;exact⟨rfl,hW.trans Ah⟩
   ·have hu2:=hnil hu
    have hb:(u == [])=false:=by cases u with|nil=>exact absurd rfl hu|cons x y=>rfl
    have hz2:=Bt.out;rw [hb,if_neg (by simp),if_pos (by simp)]at hz2;clear Bt hnil;subst hz2;have hzz:=Ao6 wr (.cells #[S [],S []] 24);have Ah:=(Ab.refl wr).alloc (.cells #[S [],S []] 24)
    go_upto_region 13 with fail
    generalize wr.alloc (.cells #[S [],S []] 24)=W9 at *;replace q3:=Ah.cellS q3;replace q4:=Ah.cellS q4;replace q5:=Ah.cellS q5;replace q6:=Ah.cellS q6;replace q7:=Ah.cellS q7;have y0:=Aa (o:=0) hzz rfl;have y1:=Aa (o:=1) hzz rfl;go_wp2;go_ret;exact⟨rfl,hW.trans Ah⟩
theorem Ak8(a b p:Bs×Bs)(u:Bs)(hs:FV a b p u)(w:World)(hw:Am w):Calls Tryz.prog 8 #[Bz 4 a b p u] w (AI (Do 4 a b p u) w):=by
 rw [rI];have hsp:=hs.pt;have hsu:=hs.u;obtain⟨z,hz⟩:=Ao3 ((if ([a,b,p].take 2).all AU=false then (2:Int)else if (false && !(u == []) && !nameB u)=true then 8 else if (!false && !(u == [])||([a,b,p].drop 2).any Bi)=true then 7 else 0));rw [←hz];have HZ:=Ao4 hz;clear hz hs;have us:=fun W=>Al9 a b p u W;have hE:=(Ab.refl w).alloc (.cells #[.int .i64 4,S a.1,S a.2,S b.1,S b.2,S p.1,S p.2,S u] 26);have hq:=Ao6 w (.cells #[.int .i64 4,S a.1,S a.2,S b.1,S b.2,S p.1,S p.2,S u] 26);unfold Bz at us ⊢;go_enter Tryz.func8,Tryz.ntmps8
 go_upto_region 1 with fail
 generalize w.alloc (.cells #[.int .i64 4,S a.1,S a.2,S b.1,S b.2,S p.1,S p.2,S u] 26)=V at *;obtain⟨bx,As⟩:=Ao3 w.heap.size;rw [←As]at hq ⊢;clear As;have q0:V.cell? ⟨bx,0,none⟩=some (.int .i64 4):=Aa hq rfl;have q1:V.cell? ⟨bx,1,none⟩=some (S a.1):=Aa hq rfl;have q2:V.cell? ⟨bx,2,none⟩=some (S a.2):=Aa hq rfl;have q3:V.cell? ⟨bx,3,none⟩=some (S b.1):=Aa hq rfl;have q4:V.cell? ⟨bx,4,none⟩=some (S b.2):=Aa hq rfl;have q5:V.cell? ⟨bx,5,none⟩=some (S p.1):=Aa hq rfl;have q6:V.cell? ⟨bx,6,none⟩=some (S p.2):=Aa hq rfl;have q7:V.cell? ⟨bx,7,none⟩=some (S u):=Aa hq rfl;have u1:=us V;(go_wp2_with fail);(with_reducible refine u1.mono ?_);rintro e V2 ⟨bp,rfl,HP,hx1⟩
 dsimp only [List.length_cons,List.length_nil,Nat.zero_add,Nat.reduceAdd]
 replace hq:=(hx1.block _ (Ao5 hq)).trans hq;replace hE:=hE.trans hx1;clear q0 q1 q2 q3 q4 q5 q6 q7 hx1 u1 us
 go_upto_region 5 with fail
 go_loopw [23] (fun i wr=>∃j:Nat,i=.int .i64 (j:Nat)/\j<=2/\(∀q∈[a,b].take j,AU q=true)/\Ab V2 wr) (fun i _=>2-(intOf i).toNat)
 case atStart=>exact⟨0,rfl,by omega,by simp,Ab.refl _⟩
 case round=>
  obtain⟨j,rfl,hj,Ai,Ac⟩:=hrel;have HO:=Ao4 Ai;clear Ai;by_cases hlt:j<2
  ·have hlt3:j < [a,b].length:=hlt;obtain⟨bb,o,e,hg1,hg2⟩:=J9 (HP.ext Ac) hlt3;simp only [AoB,Addr.mk.injEq]at e;obtain⟨rfl,rfl,-⟩:=e;rw [Nat.zero_add]at hg1 hg2;obtain⟨q,BC⟩:=Ao3 ([a,b][j]);have Bp:=hsp q (by rw [BC];exact List.mem_of_mem_take (i:=2) (Ao8 hlt3));rw [←BC]at hg1 hg2;have hj0:(0:Int)<=(j:Int):=(by omega);have Bc:(j:Int)<2:=(by omega);have hnew:=fun O=>(Ab.refl wr).alloc O;have cp:=fun W (h:Ab w W)=>GF q.1 q.2 (AU q) (Hh q) Bp.1 Bp.2 W (hw.ext h);have BM:=hE.trans Ac;have HQ:=Ao4 BC;clear BC Bp
   cases e0:AU q
   ·have HE:=Ao4 e0
    have hall:([a,b,p].take 2).all AU=false:=by rw [List.all_eq_false];exact⟨q,by rw [HQ.out];exact Ao8 hlt3,by rw [e0];simp⟩
    rw [e0,Gm]at cp;clear e0;have hz2:z=2:=(by rw [HZ.out,if_pos hall]);clear hall;subst hz2;have c1:=cp _ (BM.trans (hnew (.cells #[S q.1,S q.2] 24)));(go_wp2_with fail);(with_reducible refine c1.mono ?_);rintro e w2 ⟨rfl,hx2⟩;go_wp2;go_ret;exact⟨rfl,(BM.trans (hnew _)).trans hx2⟩
   ·have HE:=Ao4 e0;rw [e0,Ek]at cp;clear e0;have c1:=cp _ (BM.trans (hnew (.cells #[S q.1,S q.2] 24)));(go_wp2_with fail);(with_reducible refine c1.mono ?_);rintro e w2 ⟨rfl,hx2⟩;go_wp2;go_roundw
    case rel=>
     refine⟨j+1,by go_num,hlt,?_,(Ac.trans (hnew _)).trans hx2⟩;intro x hx;rw [AoA hlt3,←HQ.out]at hx
     rcases List.mem_append.1 hx with h|h
     ·exact HO.out x h
     ·simp only [AoJ]at h;rw [h];exact HE.out
    case measure=>simp [intOf];omega
  ·obtain rfl:j=2:=(by omega);have hall:([a,b,p].take 2).all AU=true:=List.all_eq_true.2 HO.out;have hz1:=HZ.out;rw [hall,if_neg (by simp)]at hz1;have Bt:=Ao4 hz1;clear hall hz1 HZ HO hlt hj HP;replace hq:=(Ac.block _ (Ao5 hq)).trans hq;have hW:=hE.trans Ac;clear Ac hE;have q3:wr.cell? ⟨bx,3,none⟩=some (S b.1):=Aa hq rfl;have q4:wr.cell? ⟨bx,4,none⟩=some (S b.2):=Aa hq rfl;have q5:wr.cell? ⟨bx,5,none⟩=some (S p.1):=Aa hq rfl;have q6:wr.cell? ⟨bx,6,none⟩=some (S p.2):=Aa hq rfl;have q7:wr.cell? ⟨bx,7,none⟩=some (S u):=Aa hq rfl;have hnil:¬u = []→u.isEmpty=false:=fun h=>(by cases u<;>simp_all);have pb:∀W,(binOp .neq 24 (.agg #[S b.1,S b.2]) (.agg #[S [],S []])).run Tryz.prog W=.ok (.bool (Bi b)) W:=KA b.1 b.2;have pp:∀W,(binOp .neq 24 (.agg #[S p.1,S p.2]) (.agg #[S [],S []])).run Tryz.prog W=.ok (.bool (Bi p)) W:=KA p.1 p.2;by_cases hu:u = []
   ·have hz2:=Bt.out;rw [hu]at hz2 q7;rw [if_neg (by simp)]at hz2;clear Bt hnil
    cases e3:Bi p
    ·have hz3:z=0:=(by rw [hz2];simp [e3]);rw [e3]at pp;clear hz2 e3;subst hz3;have hzz:=Ao6 wr (.cells #[S [],S []] 24);have Ah:=(Ab.refl wr).alloc (.cells #[S [],S []] 24)
     go_upto_region 13 with fail
     generalize wr.alloc (.cells #[S [],S []] 24)=W9 at *;replace q3:=Ah.cellS q3;replace q4:=Ah.cellS q4;replace q5:=Ah.cellS q5;replace q6:=Ah.cellS q6;replace q7:=Ah.cellS q7;have y0:=Aa (o:=0) hzz rfl;have y1:=Aa (o:=1) hzz rfl;go_wp2;go_ret;exact⟨rfl,hW.trans Ah⟩
    ·have hz3:z=7:=(by rw [hz2];simp [e3]);rw [e3]at pp;clear hz2 e3;subst hz3;have hzz:=Ao6 wr (.cells #[S [],S []] 24);have Ah:=(Ab.refl wr).alloc (.cells #[S [],S []] 24)
     go_upto_region 13 with fail
     generalize wr.alloc (.cells #[S [],S []] 24)=W9 at *;replace q3:=Ah.cellS q3;replace q4:=Ah.cellS q4;replace q5:=Ah.cellS q5;replace q6:=Ah.cellS q6;replace q7:=Ah.cellS q7;have y0:=Aa (o:=0) hzz rfl;have y1:=Aa (o:=1) hzz rfl;go_wp2;go_ret;exact⟨rfl,hW.trans Ah⟩
   ·have hu2:=hnil hu
    have hb:(u == [])=false:=by cases u with|nil=>exact absurd rfl hu|cons x y=>rfl
    have hz2:=Bt.out;rw [hb,if_neg (by simp),if_pos (by simp)]at hz2;clear Bt hnil;subst hz2;have hzz:=Ao6 wr (.cells #[S [],S []] 24);have Ah:=(Ab.refl wr).alloc (.cells #[S [],S []] 24)
    go_upto_region 13 with fail
    generalize wr.alloc (.cells #[S [],S []] 24)=W9 at *;replace q3:=Ah.cellS q3;replace q4:=Ah.cellS q4;replace q5:=Ah.cellS q5;replace q6:=Ah.cellS q6;replace q7:=Ah.cellS q7;have y0:=Aa (o:=0) hzz rfl;have y1:=Aa (o:=1) hzz rfl;go_wp2;go_ret;exact⟨rfl,hW.trans Ah⟩
theorem Ak9(a b p:Bs×Bs)(u:Bs)(hs:FV a b p u)(w:World)(hw:Am w):Calls Tryz.prog 8 #[Bz 5 a b p u] w (AI (Do 5 a b p u) w):=by
 rw [rJ];have hsp:=hs.pt;have hsu:=hs.u;obtain⟨z,hz⟩:=Ao3 ((if ([a,b,p].take 3).all AU=false then (2:Int)else if (false && !(u == []) && !nameB u)=true then 8 else if (!false && !(u == [])||([a,b,p].drop 3).any Bi)=true then 7 else 0));rw [←hz];have HZ:=Ao4 hz;clear hz hs;have us:=fun W=>AlA a b p u W;have hE:=(Ab.refl w).alloc (.cells #[.int .i64 5,S a.1,S a.2,S b.1,S b.2,S p.1,S p.2,S u] 26);have hq:=Ao6 w (.cells #[.int .i64 5,S a.1,S a.2,S b.1,S b.2,S p.1,S p.2,S u] 26);unfold Bz at us ⊢;go_enter Tryz.func8,Tryz.ntmps8
 go_upto_region 1 with fail
 generalize w.alloc (.cells #[.int .i64 5,S a.1,S a.2,S b.1,S b.2,S p.1,S p.2,S u] 26)=V at *;obtain⟨bx,As⟩:=Ao3 w.heap.size;rw [←As]at hq ⊢;clear As;have q0:V.cell? ⟨bx,0,none⟩=some (.int .i64 5):=Aa hq rfl;have q1:V.cell? ⟨bx,1,none⟩=some (S a.1):=Aa hq rfl;have q2:V.cell? ⟨bx,2,none⟩=some (S a.2):=Aa hq rfl;have q3:V.cell? ⟨bx,3,none⟩=some (S b.1):=Aa hq rfl;have q4:V.cell? ⟨bx,4,none⟩=some (S b.2):=Aa hq rfl;have q5:V.cell? ⟨bx,5,none⟩=some (S p.1):=Aa hq rfl;have q6:V.cell? ⟨bx,6,none⟩=some (S p.2):=Aa hq rfl;have q7:V.cell? ⟨bx,7,none⟩=some (S u):=Aa hq rfl;have u1:=us V;(go_wp2_with fail);(with_reducible refine u1.mono ?_);rintro e V2 ⟨bp,rfl,HP,hx1⟩
 dsimp only [List.length_cons,List.length_nil,Nat.zero_add,Nat.reduceAdd]
 replace hq:=(hx1.block _ (Ao5 hq)).trans hq;replace hE:=hE.trans hx1;clear q0 q1 q2 q3 q4 q5 q6 q7 hx1 u1 us
 go_upto_region 5 with fail
 go_loopw [23] (fun i wr=>∃j:Nat,i=.int .i64 (j:Nat)/\j<=3/\(∀q∈[a,b,p].take j,AU q=true)/\Ab V2 wr) (fun i _=>3-(intOf i).toNat)
 case atStart=>exact⟨0,rfl,by omega,by simp,Ab.refl _⟩
 case round=>
  obtain⟨j,rfl,hj,Ai,Ac⟩:=hrel;have HO:=Ao4 Ai;clear Ai;by_cases hlt:j<3
  ·have hlt3:j < [a,b,p].length:=hlt;obtain⟨bb,o,e,hg1,hg2⟩:=J9 (HP.ext Ac) hlt3;simp only [AoB,Addr.mk.injEq]at e;obtain⟨rfl,rfl,-⟩:=e;rw [Nat.zero_add]at hg1 hg2;obtain⟨q,BC⟩:=Ao3 ([a,b,p][j]);have Bp:=hsp q (by rw [BC];exact List.mem_of_mem_take (i:=3) (Ao8 hlt3));rw [←BC]at hg1 hg2;have hj0:(0:Int)<=(j:Int):=(by omega);have Bc:(j:Int)<3:=(by omega);have hnew:=fun O=>(Ab.refl wr).alloc O;have cp:=fun W (h:Ab w W)=>GF q.1 q.2 (AU q) (Hh q) Bp.1 Bp.2 W (hw.ext h);have BM:=hE.trans Ac;have HQ:=Ao4 BC;clear BC Bp
   cases e0:AU q
   ·have HE:=Ao4 e0
    have hall:([a,b,p].take 3).all AU=false:=by rw [List.all_eq_false];exact⟨q,by rw [HQ.out];exact Ao8 hlt3,by rw [e0];simp⟩
    rw [e0,Gm]at cp;clear e0;have hz2:z=2:=(by rw [HZ.out,if_pos hall]);clear hall;subst hz2;have c1:=cp _ (BM.trans (hnew (.cells #[S q.1,S q.2] 24)));(go_wp2_with fail);(with_reducible refine c1.mono ?_);rintro e w2 ⟨rfl,hx2⟩;go_wp2;go_ret;exact⟨rfl,(BM.trans (hnew _)).trans hx2⟩
   ·have HE:=Ao4 e0;rw [e0,Ek]at cp;clear e0;have c1:=cp _ (BM.trans (hnew (.cells #[S q.1,S q.2] 24)));(go_wp2_with fail);(with_reducible refine c1.mono ?_);rintro e w2 ⟨rfl,hx2⟩;go_wp2;go_roundw
    case rel=>
     refine⟨j+1,by go_num,hlt,?_,(Ac.trans (hnew _)).trans hx2⟩;intro x hx;rw [AoA hlt3,←HQ.out]at hx
     rcases List.mem_append.1 hx with h|h
     ·exact HO.out x h
     ·simp only [AoJ]at h;rw [h];exact HE.out
    case measure=>simp [intOf];omega
  ·obtain rfl:j=3:=(by omega);have hall:([a,b,p].take 3).all AU=true:=List.all_eq_true.2 HO.out;have hz1:=HZ.out;rw [hall,if_neg (by simp)]at hz1;have Bt:=Ao4 hz1;clear hall hz1 HZ HO hlt hj HP;replace hq:=(Ac.block _ (Ao5 hq)).trans hq;have hW:=hE.trans Ac;clear Ac hE;have q3:wr.cell? ⟨bx,3,none⟩=some (S b.1):=Aa hq rfl;have q4:wr.cell? ⟨bx,4,none⟩=some (S b.2):=Aa hq rfl;have q5:wr.cell? ⟨bx,5,none⟩=some (S p.1):=Aa hq rfl;have q6:wr.cell? ⟨bx,6,none⟩=some (S p.2):=Aa hq rfl;have q7:wr.cell? ⟨bx,7,none⟩=some (S u):=Aa hq rfl;have hnil:¬u = []→u.isEmpty=false:=fun h=>(by cases u<;>simp_all);have pb:∀W,(binOp .neq 24 (.agg #[S b.1,S b.2]) (.agg #[S [],S []])).run Tryz.prog W=.ok (.bool (Bi b)) W:=KA b.1 b.2;have pp:∀W,(binOp .neq 24 (.agg #[S p.1,S p.2]) (.agg #[S [],S []])).run Tryz.prog W=.ok (.bool (Bi p)) W:=KA p.1 p.2;by_cases hu:u = []
   ·have hz2:=Bt.out;rw [hu]at hz2 q7;rw [if_neg (by simp)]at hz2;clear Bt hnil;have hz3:z=0:=(by rw [hz2];simp);clear hz2;subst hz3;have hzz:=Ao6 wr (.cells #[S [],S []] 24);have Ah:=(Ab.refl wr).alloc (.cells #[S [],S []] 24)
    go_upto_region 13 with fail
    generalize wr.alloc (.cells #[S [],S []] 24)=W9 at *;replace q3:=Ah.cellS q3;replace q4:=Ah.cellS q4;replace q5:=Ah.cellS q5;replace q6:=Ah.cellS q6;replace q7:=Ah.cellS q7;have y0:=Aa (o:=0) hzz rfl;have y1:=Aa (o:=1) hzz rfl;go_wp2;go_ret;exact⟨rfl,hW.trans Ah⟩
   ·have hu2:=hnil hu
    have hb:(u == [])=false:=by cases u with|nil=>exact absurd rfl hu|cons x y=>rfl
    have hz2:=Bt.out;rw [hb,if_neg (by simp),if_pos (by simp)]at hz2;clear Bt hnil;subst hz2;have hzz:=Ao6 wr (.cells #[S [],S []] 24);have Ah:=(Ab.refl wr).alloc (.cells #[S [],S []] 24)
    go_upto_region 13 with fail
    generalize wr.alloc (.cells #[S [],S []] 24)=W9 at *;replace q3:=Ah.cellS q3;replace q4:=Ah.cellS q4;replace q5:=Ah.cellS q5;replace q6:=Ah.cellS q6;replace q7:=Ah.cellS q7;have y0:=Aa (o:=0) hzz rfl;have y1:=Aa (o:=1) hzz rfl;go_wp2;go_ret;exact⟨rfl,hW.trans Ah⟩
theorem Ah1(k:Int)(a b p:Bs×Bs)(u:Bs)(hs:FV a b p u)(w:World)(hw:Am w):Calls Tryz.prog 8 #[Bz k a b p u] w (AI (Do k a b p u) w):=by
 by_cases h:k<1∨5<k
 ·exact AkA k h a b p u w
 ·obtain rfl|rfl|rfl|rfl|rfl:k=1∨k=2∨k=3∨k=4∨k=5:=by omega
  ·exact Ak5 a b p u hs w hw
  ·exact Ak6 a b p u hs w hw
  ·exact Ak7 a b p u hs w hw
  ·exact Ak8 a b p u hs w hw
  ·exact Ak9 a b p u hs w hw
end Go.Proofs.YtnddllipjippnaaGreatDoor
