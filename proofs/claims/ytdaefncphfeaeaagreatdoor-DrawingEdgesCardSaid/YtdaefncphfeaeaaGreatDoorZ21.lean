/- Z21: E10 E11. -/
import Derived.Test.YtdaefncphfeaeaaGreatDoorZ20
set_option maxRecDepth 100000
set_option maxHeartbeats 8000000
namespace Go.Proofs.YtdaefncphfeaeaaGreatDoor
open Go.RowKit Kl
/-! ### the plain law -/
theorem AmM(x y:Int)(h:x%y=0):x.tdiv y=x/y:=Int.tdiv_eq_ediv_of_dvd (Int.dvd_of_emod_eq_zero h)
theorem AmP(x y:Int)(hy:y≠0):(x-x%y).tdiv y=x/y:=by
 have h:=Int.mul_ediv_add_emod x y;rw [show x-x%y=y*(x/y)by omega,Int.mul_tdiv_cancel_left _ hy]
theorem An7(x y:Int)(hx:x<0)(hy:y≠0):(x.tmod y=0/\x%y=0)∨(x.tmod y<0/\x.tmod y+(y.natAbs:Int)=x%y):=by
 have e:=Int.tmod_eq_emod (a:=x) (b:=y);have h0:=Int.emod_nonneg x hy;have h1:x%y<y.natAbs:=Int.emod_lt x hy;by_cases hd:y∣x
 ·rw [if_pos (.inr hd)]at e;have:=Int.emod_eq_zero_of_dvd hd;exact .inl ⟨by rw [e,this];rfl,this⟩
 ·have hn:¬(0<=x∨y∣x):=by
   rintro(h2|h2)
   ·omega
   ·exact hd h2
  rw [if_neg hn]at e
  right
  omega
theorem V6(n:Nat):Dp false n=n:=by unfold Dp;rw [if_neg (by simp)]
theorem oS(n:Nat):Dp true n = -(n:Int):=by unfold Dp;rw [if_pos rfl]
theorem AmN{a b:Int}{m n:Bool}(hm:m=decide (a<0))(hn:n=decide (b<0))(hb:b≠0)(h:m=false∨a.natAbs%b.natAbs=0) :
  Dp (!(m == n)) (a.natAbs/b.natAbs)=a/b/\Dp false (a.natAbs%b.natAbs)=a%b:=by
 have KJ:=Nat.div_add_mod a.natAbs b.natAbs;have De:=Nat.mod_lt a.natAbs (show 0<b.natAbs by omega);generalize hq:a.natAbs/b.natAbs=q at *;generalize hr:a.natAbs%b.natAbs=r at *;have hcast:(b.natAbs:Int)*q+r=a.natAbs:=(by exact_mod_cast KJ);rw [V6];by_cases ha0:a<0
 ·have hm1:m=true:=by rw [hm];exact decide_eq_true ha0
  have hr0:r=0:=by
   rcases h with h|h
   ·rw [hm1]at h;cases h
   ·exact h
  subst hr0;by_cases hb0:b<0
  ·have Df:n=true:=(by rw [hn];exact decide_eq_true hb0);rw [hm1,Df,show (!(true == true))=false from rfl,V6];have BA:(b.natAbs:Int) = -b:=(by omega);rw [BA,Int.neg_mul]at hcast;have:=ud a b q ((0:Nat):Int) hb (by omega) (by omega) (by omega);exact⟨this.1.symm,this.2.symm⟩
  ·have Df:n=false:=(by rw [hn];exact decide_eq_false hb0);rw [hm1,Df,show (!(true == false))=true from rfl,oS];have BA:(b.natAbs:Int)=b:=(by omega);rw [BA]at hcast;have:=ud a b (-(q:Int)) ((0:Nat):Int) hb (by rw [Int.mul_neg];omega) (by omega) (by omega);exact⟨this.1.symm,this.2.symm⟩
 ·have hm1:m=false:=(by rw [hm];exact decide_eq_false ha0);by_cases hb0:b<0
  ·have Df:n=true:=(by rw [hn];exact decide_eq_true hb0);rw [hm1,Df,show (!(false == true))=true from rfl,oS];have BA:(b.natAbs:Int) = -b:=(by omega);rw [BA,Int.neg_mul]at hcast;have:=ud a b (-(q:Int)) (r:Int) hb (by rw [Int.mul_neg];omega) (by omega) (by omega);exact⟨this.1.symm,this.2.symm⟩
  ·have Df:n=false:=(by rw [hn];exact decide_eq_false hb0);rw [hm1,Df,show (!(false == false))=false from rfl,V6];have BA:(b.natAbs:Int)=b:=(by omega);rw [BA]at hcast;have:=ud a b (q:Int) (r:Int) hb (by omega) (by omega) (by omega);exact⟨this.1.symm,this.2.symm⟩
theorem AmO{a b:Int}{m n:Bool}(hm:m=decide (a<0))(hn:n=decide (b<0))(hb:b≠0)(h:m=true)(h0:0<a.natAbs%b.natAbs) :
  Dp (!(m == n)) (a.natAbs/b.natAbs+1)=a/b/\Dp false (b.natAbs-a.natAbs%b.natAbs)=a%b:=by
 have KJ:=Nat.div_add_mod a.natAbs b.natAbs;have De:=Nat.mod_lt a.natAbs (show 0<b.natAbs by omega);generalize hq:a.natAbs/b.natAbs=q at *;generalize hr:a.natAbs%b.natAbs=r at *;have hcast:(b.natAbs:Int)*q+r=a.natAbs:=(by exact_mod_cast KJ);have ha0:a<0:=(by rw [h]at hm;exact of_decide_eq_true hm.symm);rw [V6,h];by_cases hb0:b<0
 ·have Df:n=true:=(by rw [hn];exact decide_eq_true hb0);rw [Df,show (!(true == true))=false from rfl,V6];have BA:(b.natAbs:Int) = -b:=(by omega);rw [BA,Int.neg_mul]at hcast;have:=ud a b ((q+1:Nat):Int) ((b.natAbs-r:Nat):Int) hb (by rw [Int.natCast_add,Int.mul_add];omega) (by omega) (by omega);exact⟨this.1.symm,this.2.symm⟩
 ·have Df:n=false:=(by rw [hn];exact decide_eq_false hb0);rw [Df,show (!(true == false))=true from rfl,oS];have BA:(b.natAbs:Int)=b:=(by omega);rw [BA]at hcast;have:=ud a b (-((q+1:Nat):Int)) ((b.natAbs-r:Nat):Int) hb (by rw [Int.mul_neg,Int.natCast_add,Int.mul_add];omega) (by omega) (by omega);exact⟨this.1.symm,this.2.symm⟩
abbrev Qf(q r:Int)(w:World):Ending→World→Prop:=Bg (.tuple #[S (I q),S (I r)]) w
theorem AmS(a b:Int)(hb0:b≠0)(ha:(D a.natAbs).length<=17)(hb:(D b.natAbs).length<=17)(w:World)(hw:Ai w):Calls Tryz.prog 100 #[S (I a),S (I b)] w (Qf (a/b) (a%b) w):=by
 have ba:=RI a ha;have bb:=RI b hb;obtain⟨a1,a2⟩:=ZW ha;obtain⟨b1,b2⟩:=ZW hb;have hr0:=Int.emod_nonneg a hb0;have hr1:a%b<b.natAbs:=Int.emod_lt a hb0
 have hq:(a/b).natAbs<=a.natAbs+1:=by have h:=Int.natAbs_ediv_le_natAbs a b;omega
 have o1:=RL (a/b) (by omega) (by omega);have o2:=RL (a%b) (by omega) (by omega);have Bu:(b == 0)=false:=(by rw [beq_eq_false_iff_ne];exact hb0);have h3:=AmP a b hb0;have GI:=fun h=>An7 a b h hb0;have hex:=AmM a b;obtain⟨q,Jv⟩:=AcG (a/b);obtain⟨r,BY⟩:=AcG (a%b);rw [←Jv]at o1 hq h3 hex ⊢;rw [←BY]at o2 hr0 hr1 h3 GI hex ⊢;clear ha hb;have hw1:IntKind.i64.wrap (-b) = -b:=Asm _ (by omega);have B8:-200000000000000000<=q:=(by omega);have BR:q<=200000000000000000:=(by omega);by_cases hx0:0<=a
 ·have h1:a.tdiv b=q:=(by rw [Jv];exact Int.tdiv_eq_ediv_of_nonneg hx0);have h2:a.tmod b=r:=(by rw [BY];exact Int.tmod_eq_emod_of_nonneg hx0);have h1':a/b=q:=Jv.symm;have h2':a%b=r:=BY.symm;have hw2:IntKind.i64.wrap q=q:=Asm _ (by omega);have hw3:IntKind.i64.wrap r=r:=Asm _ (by omega);clear Jv BY h3 GI hex hr1 hq;go_enter Tryz.func100,Tryz.ntmps100;(go_wp2_with fail);(with_reducible refine(ba _).mono ?_);rintro e w1 ⟨rfl,hx1⟩;(go_wp2_with fail);(with_reducible refine(bb _).mono ?_);rintro e w2 ⟨rfl,hx2⟩;have hE:=hx1.trans hx2;(go_wp2_with fail)
  go_quiet (fail)
  (go_wp2_with fail);(with_reducible refine(o1 _ (hw.ext (hE.drewN _))).mono ?_);rintro e w3 ⟨rfl,hx3⟩;have DU:=(hE.drewN _).trans hx3;(go_wp2_with fail);(with_reducible refine(o2 _ (hw.ext DU)).mono ?_);rintro e w4 ⟨rfl,Af⟩;go_wp2;go_ret2;exact⟨rfl,DU.trans Af⟩
 ·rcases GI (by omega)with⟨ht,hr⟩|⟨ht,hr⟩
  ·have h1:a.tdiv b=q:=hex hr;subst hr;have hw2:IntKind.i64.wrap q=q:=Asm _ (by omega);clear Jv BY h3 GI hex hr1 hq hr0;go_enter Tryz.func100,Tryz.ntmps100;(go_wp2_with fail);(with_reducible refine(ba _).mono ?_);rintro e w1 ⟨rfl,hx1⟩;(go_wp2_with fail);(with_reducible refine(bb _).mono ?_);rintro e w2 ⟨rfl,hx2⟩;have hE:=hx1.trans hx2;(go_wp2_with fail)
   go_quiet (fail)
   (go_wp2_with fail);(with_reducible refine(o1 _ (hw.ext (hE.drewN _))).mono ?_);rintro e w3 ⟨rfl,hx3⟩;have DU:=(hE.drewN _).trans hx3;(go_wp2_with fail);(with_reducible refine(o2 _ (hw.ext DU)).mono ?_);rintro e w4 ⟨rfl,Af⟩;go_wp2;go_ret2;exact⟨rfl,DU.trans Af⟩
  ·obtain⟨t,htt⟩:∃t,a.tmod b=t:=⟨_,rfl⟩;rw [htt]at ht hr;obtain⟨u,hu⟩:∃u,a.tdiv b=u:=⟨_,rfl⟩;have YS:u.natAbs<=a.natAbs:=(by rw [←hu,Int.natAbs_tdiv];exact Nat.div_le_self _ _);have hw2:IntKind.i64.wrap u=u:=Asm _ (by omega);have hw3:IntKind.i64.wrap t=t:=Asm _ (by omega);have hmx:t+max b (-b)=r:=(by omega);have hw4:IntKind.i64.wrap r=r:=Asm _ (by omega);have Rk:IntKind.i64.wrap (a-r)=a-r:=Asm _ (by omega);have NP:IntKind.i64.wrap q=q:=Asm _ (by omega);clear Jv BY GI hex hq YS;go_enter Tryz.func100,Tryz.ntmps100;(go_wp2_with fail);(with_reducible refine(ba _).mono ?_);rintro e w1 ⟨rfl,hx1⟩;(go_wp2_with fail);(with_reducible refine(bb _).mono ?_);rintro e w2 ⟨rfl,hx2⟩;have hE:=hx1.trans hx2;(go_wp2_with fail)
   go_quiet (fail)
   (go_wp2_with fail);(with_reducible refine(o1 _ (hw.ext (hE.drewN _))).mono ?_);rintro e w3 ⟨rfl,hx3⟩;have DU:=(hE.drewN _).trans hx3;(go_wp2_with fail);(with_reducible refine(o2 _ (hw.ext DU)).mono ?_);rintro e w4 ⟨rfl,Af⟩;go_wp2;go_ret2;exact⟨rfl,DU.trans Af⟩
theorem ZM{a b:ByteArray}{c d:Bs}(h:a=⟨c.toArray⟩)(k:b=⟨d.toArray⟩):Ending.returned (.tuple #[.string a,.string b])=.returned (.tuple #[S c,S d]):=by rw [h,k]
theorem RJ(a b:Int)(hb0:b≠0)(K:Nat)(hK:K<=8000)(C2:0<K)(ha:a.natAbs<10^K)(hb:b.natAbs<10^K)(w:World)(hw:Ai w):Calls Tryz.prog 100 #[S (I a),S (I b)] w (Qf (a/b) (a%b) w):=by
 have la:=Ck C2 ha;have lb:=Ck C2 hb;by_cases Bf:(D a.natAbs).length<=17/\(D b.natAbs).length<=17
 ·exact AmS a b hb0 Bf.1 Bf.2 w hw
 ·obtain⟨x,y,o1,o2,ba,bb,Pn⟩:=tP a b (by omega) (by omega) Bf;obtain⟨m,hm⟩:=AcG (decide (a<0));obtain⟨n,hn⟩:=AcG (decide (b<0));obtain⟨p,hp⟩:=AcG a.natAbs;obtain⟨q,hq⟩:=AcG b.natAbs;have Bn:0<q:=(by omega);have sa:=J5 a m p hm hp (by rw [hp];omega);have sb:=J5 b n q hn hq (by rw [hq];omega);have z0:=AmN hm hn hb0;have z1:=AmO hm hn hb0;rw [←hp,←hq]at z0 z1;rw [←hp]at ha la;rw [←hq]at hb lb;have ta:=RO p (by omega);have tb:=RO q (by omega);have hpl:=Od ha;have EG:=Od hb;have pt:=fun u v W=>Anf p q Bn (by omega) (by omega) u v W;have Eo:p/q<=p:=Nat.div_le_self _ _;have C3:p%q<q:=Nat.mod_lt _ Bn;obtain⟨d,hdd⟩:=AcG (p/q);obtain⟨r,BY⟩:=AcG (p%q);rw [←hdd]at z0 z1 pt Eo;rw [←BY]at z0 z1 pt C3;have FM:(D d).length<=K:=Asq (PU Eo) la;have hrl:(D r).length<=K:=Asq (PU (Nat.le_of_lt C3)) lb;have EF:=xg ha hb;obtain⟨g,hg⟩:∃g,(!(m == n))=g:=⟨_,rfl⟩;rw [hg]at z0 z1;by_cases hm0:m=false
  ·have hgn:g=n:=(by rw [←hg,hm0];cases n<;>rfl);obtain⟨e1,e2⟩:=z0 (.inl hm0);rw [hgn]at e1;have Sx:=Asb e1;have MH:=Asb e2;have UU:=fun v W hW=>Lr n d (by omega) v W hW;have UV:=fun v W hW=>Lr false r (by omega) v W hW;subst hm0;clear z0 z1 e1 e2 hm hn hp hq ha hb la lb hpl EG Eo C3 hdd BY FM hrl EF Bf Bn hb0 hgn hg
   rcases Pn with rfl|⟨rfl,rfl⟩
   all_goals
    go_enter Tryz.func100,Tryz.ntmps100;(go_wp2_with fail);(with_reducible refine(ba _).mono ?_);rintro e w1 ⟨rfl,hx1⟩;(go_wp2_with fail);(with_reducible refine(bb _).mono ?_);rintro e w2 ⟨rfl,hx2⟩;(go_wp2_with fail);(with_reducible refine(sa _).mono ?_);rintro e w3 ⟨rfl,hx3⟩;(go_wp2_with fail);(with_reducible refine(sb _).mono ?_);rintro e w4 ⟨rfl,Af⟩;(go_wp2_with fail);(with_reducible refine(ta _).mono ?_);rintro e w5 ⟨v5,rfl,AV,Ae⟩;(go_wp2_with fail);(with_reducible refine(tb _).mono ?_);rintro e w6 ⟨v6,rfl,Ca,Ao⟩;have hE:=((((hx1.trans hx2).trans hx3).trans Af).trans Ae).trans Ao;(go_wp2_with fail);(with_reducible refine(pt _ _ _ (AV.ext Ao) Ca).mono ?_);rintro e w7 ⟨v7,v8,rfl,EI,Dy,Aj⟩;have Gk:=hE.trans Aj;have Gk:=Gk;clear ba bb sa sb ta tb pt hx1 hx2 hx3 Af Ae Ao Aj AV Ca hE;(go_wp2_with fail);(with_reducible refine(UU _ _ (hw.ext Gk) EI).mono ?_);rintro e w9 ⟨rfl,Az⟩;(go_wp2_with fail);(with_reducible refine(UV _ _ (hw.ext (Gk.trans Az)) (Dy.ext Az)).mono ?_);rintro e wa ⟨rfl,Ay⟩;go_wp2;go_ret2;exact⟨ZM (by rw [Sx.out]) (by rw [MH.out]),(Gk.trans Az).trans Ay⟩
  ·have Yx:m=true:=(by simpa using hm0);have hgn:g = !n:=(by rw [←hg,Yx];cases n<;>rfl);by_cases hr0:r=0
   ·obtain⟨e1,e2⟩:=z0 (.inr hr0);rw [hgn]at e1;have Sx:=Asb e1;have MH:=Asb e2;have qX:Hid (pc 10000 r = []):=Asb (by rw [hr0];exact Fz);have UU:=fun v W hW=>Lr (!n) d (by omega) v W hW;have UV:=fun v W hW=>Lr false r (by omega) v W hW;subst Yx;clear z0 z1 e1 e2 hm hn hp hq ha hb la lb hpl EG Eo C3 hdd BY FM hrl EF Bf Bn hb0 hm0 hr0 hgn hg
    rcases Pn with rfl|⟨rfl,rfl⟩
    all_goals
     go_enter Tryz.func100,Tryz.ntmps100;(go_wp2_with fail);(with_reducible refine(ba _).mono ?_);rintro e w1 ⟨rfl,hx1⟩;(go_wp2_with fail);(with_reducible refine(bb _).mono ?_);rintro e w2 ⟨rfl,hx2⟩;(go_wp2_with fail);(with_reducible refine(sa _).mono ?_);rintro e w3 ⟨rfl,hx3⟩;(go_wp2_with fail);(with_reducible refine(sb _).mono ?_);rintro e w4 ⟨rfl,Af⟩;(go_wp2_with fail);(with_reducible refine(ta _).mono ?_);rintro e w5 ⟨v5,rfl,AV,Ae⟩;(go_wp2_with fail);(with_reducible refine(tb _).mono ?_);rintro e w6 ⟨v6,rfl,Ca,Ao⟩;have hE:=((((hx1.trans hx2).trans hx3).trans Af).trans Ae).trans Ao;(go_wp2_with fail);(with_reducible refine(pt _ _ _ (AV.ext Ao) Ca).mono ?_);rintro e w7 ⟨v7,v8,rfl,EI,Dy,Aj⟩;have Gk:=hE.trans Aj;clear ba bb sa sb ta tb pt hx1 hx2 hx3 Af Ae Ao Aj AV Ca hE;obtain⟨A8,c8,rfl,UM⟩:=Dy;have Dy:RZ w7 (.slice A8 0 c8) (zn (pc 10000 r)):=⟨A8,c8,by rw [qX.out];rfl,UM⟩;have jl:(zn (pc 10000 r)).length=0:=(by rw [qX.out];rfl);rw [jl];clear jl UM;(go_wp2_with fail);(with_reducible refine(UU _ _ (hw.ext Gk) EI).mono ?_);rintro e w9 ⟨rfl,Az⟩;(go_wp2_with fail);(with_reducible refine(UV _ _ (hw.ext (Gk.trans Az)) (Dy.ext Az)).mono ?_);rintro e wa ⟨rfl,Ay⟩;go_wp2;go_ret2;exact⟨ZM (by rw [Sx.out]) (by rw [MH.out]),(Gk.trans Az).trans Ay⟩
   ·obtain⟨e1,e2⟩:=z1 Yx (by omega);rw [hgn]at e1;have Sx:=Asb e1;have MH:=Asb e2;have Be:0<(zn (pc 10000 r)).length:=(by rw [AW];exact List.length_pos_iff.2 (fun e=>hr0 ((Mw (by omega)).1 e)));have Yd:d+1<10000^(K+1):=(by omega);have Ig:q-r<10000^(K+1):=(by omega);have j1:=fun u v W=>PK d 1 1 (d+1) (K+1) (by omega) Yd (by omega) (by omega) (by omega) (by have:=Od (J1 FM);omega) (by rw [Vr (by omega) (by omega) (by omega)];simp) u v W;have j2:=fun u v W=>PK q r (-1) (q-r) (K+1) (by omega) Ig (by omega) (by omega) (by omega) (by omega) (by have:=Od (J1 hrl);omega) u v W;have iT:(D (d+1)).length<=K+1:=Ck (by omega) (by have:=J1 FM;rw [Nat.pow_succ];omega);have UU:=fun v W hW=>Lr (!n) (d+1) (by omega) v W hW;have UV:=fun v W hW=>Lr false (q-r) (Asq (PU (Nat.sub_le _ _)) (by omega)) v W hW;subst Yx;clear z0 z1 e1 e2 hm hn hp hq ha hb la lb hpl EG Eo C3 hdd BY FM hrl EF Bf Bn hb0 hm0 hr0 Yd Ig iT hgn hg
    rcases Pn with rfl|⟨rfl,rfl⟩
    all_goals
     go_enter Tryz.func100,Tryz.ntmps100;(go_wp2_with fail);(with_reducible refine(ba _).mono ?_);rintro e w1 ⟨rfl,hx1⟩;(go_wp2_with fail);(with_reducible refine(bb _).mono ?_);rintro e w2 ⟨rfl,hx2⟩;(go_wp2_with fail);(with_reducible refine(sa _).mono ?_);rintro e w3 ⟨rfl,hx3⟩;(go_wp2_with fail);(with_reducible refine(sb _).mono ?_);rintro e w4 ⟨rfl,Af⟩;(go_wp2_with fail);(with_reducible refine(ta _).mono ?_);rintro e w5 ⟨v5,rfl,AV,Ae⟩;(go_wp2_with fail);(with_reducible refine(tb _).mono ?_);rintro e w6 ⟨v6,rfl,Ca,Ao⟩;have hE:=((((hx1.trans hx2).trans hx3).trans Af).trans Ae).trans Ao;(go_wp2_with fail);(with_reducible refine(pt _ _ _ (AV.ext Ao) Ca).mono ?_);rintro e w7 ⟨v7,v8,rfl,EI,Dy,Aj⟩;have Gk:=hE.trans Aj;clear ba bb sa sb ta pt hx1 hx2 hx3 Af Ae Ao Aj AV Ca hE;obtain⟨A8,c8,rfl,UM⟩:=Dy;have Dy:RZ w7 (.slice A8 (zn (pc 10000 r)).length c8) (zn (pc 10000 r)):=⟨A8,c8,rfl,UM⟩
     have Ih:RZ (w7.alloc (.cells #[.int .i64 1] 3)) (.slice (some ⟨w7.heap.size,0,none⟩) 1 1) (zn (pc 10000 1)):=by rw [Vr (by omega) (by omega) (by omega)];exact RZ.lit w7 [1] 3 (by simp)
     have AE:=(Aa.refl w7).alloc (.cells #[.int .i64 1] 3);(go_wp2_with fail);(with_reducible refine(j1 _ _ _ (EI.ext AE) Ih).mono ?_);rintro e w9 ⟨v9,rfl,Et,Az⟩;have lY:=AE.trans Az;(go_wp2_with fail);(with_reducible refine(tb _).mono ?_);rintro e wa ⟨va,rfl,YU,Ay⟩;(go_wp2_with fail);(with_reducible refine(j2 _ _ _ YU ((Dy.ext lY).ext Ay)).mono ?_);rintro e wb ⟨vb,rfl,Px,hxb⟩;have Gk:=((Gk.trans lY).trans Ay).trans hxb;have EI:=(Et.ext Ay).ext hxb;have Dy:=Px;clear AE Az lY Ay hxb Et YU Px Ih tb j1 j2 UM;(go_wp2_with fail);(with_reducible refine(UU _ _ (hw.ext Gk) EI).mono ?_);rintro e w9 ⟨rfl,Az⟩;(go_wp2_with fail);(with_reducible refine(UV _ _ (hw.ext (Gk.trans Az)) (Dy.ext Az)).mono ?_);rintro e wa ⟨rfl,Ay⟩;go_wp2;go_ret2;exact⟨ZM (by rw [Sx.out]) (by rw [MH.out]),(Gk.trans Az).trans Ay⟩
/-! ### Gcd -/
def eK:Value→Nat
 | .string s=>val s.data.toList
 | _=>0
theorem wV(l:Bs):eK (S l)=val l:=by simp [eK]
theorem Aa4(a b:Int)(K:Nat)(hK:K<=8000)(C2:0<K)(ha:a.natAbs<10^K)(hb:b.natAbs<10^K)(w:World)(hw:Ai w):Calls Tryz.prog 99 #[S (I a),S (I b)] w (A0 (D (Nat.gcd a.natAbs b.natAbs)) w):=by
 have la:=Ck C2 ha;have lb:=Ck C2 hb;have aa:=Aa5 a (by omega);have ab:=Aa5 b (by omega);obtain⟨p,hp⟩:=AcG a.natAbs;obtain⟨q,hq⟩:=AcG b.natAbs;rw [←hp]at aa ha la ⊢;rw [←hq]at ab hb lb ⊢;obtain⟨g,hg⟩:=AcG (Nat.gcd p q);rw [←hg];have HG:=Asb hg;have HA:=Asb ha;have HB:=Asb hb;clear hg hp hq ha hb;go_enter Tryz.func99,Tryz.ntmps99;(go_wp2_with fail);(with_reducible refine(aa _).mono ?_);rintro e w1 ⟨rfl,hx1⟩;(go_wp2_with fail);(with_reducible refine(ab _).mono ?_);rintro e w2 ⟨rfl,hx2⟩;have hE:=hx1.trans hx2;clear aa ab hx1 hx2;go_wp2
 go_loopw [0,1] (fun x y wr=>∃c d:Nat,x=S (D c)/\y=S (D d)/\Nat.gcd c d=g/\c<10^K/\d<10^K/\Aa w wr) (fun _ y _=>eK y)
 case atStart=>exact⟨p,q,rfl,rfl,HG.out.symm,HA.out,HB.out,hE⟩
 case round=>
  clear hE;obtain⟨c,d,rfl,rfl,Yj,hc,hd,Ac⟩:=hrel;by_cases FI:d=0
  ·subst FI;have HC:Hid (c=g):=Asb (by rw [←Yj];simp);rw [Ew (show 0<10 by omega)];clear Yj hc hd;go_wp2;go_ret;exact⟨Ch (by rw [HC.out]),Ac⟩
  ·have hne:(D d == [48])=false:=by rw [beq_eq_false_iff_ne];intro e;exact FI (Ot (e.trans (Ew (show 0<10 by omega)).symm))
   have dm:=RJ (c:Int) (d:Int) (by omega) K hK C2 (by rw [Ash];exact hc) (by rw [Ash];exact hd);unfold Qf at dm;rw [Ci,Ci,←Int.natCast_ediv,←Int.natCast_emod,Ci,Ci]at dm;have JC:Hid (Nat.gcd d (c%d)=g):=Asb (by rw [←Yj,Nat.gcd_comm d,←Nat.gcd_rec,Nat.gcd_comm]);have hlt:c%d<d:=Nat.mod_lt _ (by omega);have HD:=Asb hd;have qS:=Asb hlt;clear Yj hc hd FI hlt;(go_wp2_with fail);(with_reducible refine(dm _ (hw.ext Ac)).mono ?_);rintro e w3 ⟨rfl,hx3⟩;go_wp2;go_roundw
   case rel=>exact⟨d,c%d,rfl,rfl,JC.out,HD.out,Nat.lt_trans qS.out HD.out,Ac.trans hx3⟩
   case measure=>rw [wV,wV,F3,F3];exact qS.out
section
attribute [local go_sem] Tc vY
theorem Ang(n:Int)(d:Nat)(hd:0<d)(Df:-9000000000000000000<=n)(DZ:n<=9000000000000000000)(C3:d<=9000000000000000000)(w:World)(hw:Ai w) :
  Calls Tryz.prog 96 #[S (I (-n)),S (I (-(d:Int)))] w (A0 (R (mkRat n d)) w):=by
 obtain⟨n',d',ND⟩:=mN n hd;obtain⟨g,hg⟩:=AcG (Nat.gcd n.natAbs d);rw [←hg]at ND;obtain⟨hR,e1,e2,hg0,hgd,b1,b2⟩:=ND;have ln:(I n').length<=20:=G3 (z:=n') (k:=19) (by omega) (by omega);have ld:(D d').length<=19:=Ck (by omega) (by omega);obtain⟨n0,FS⟩:=AcG (-n);obtain⟨d0,FI⟩:=AcG (-(d:Int));have FT:-n0=n:=(by omega);have hdd:-d0=(d:Int):=(by omega);have Aqq:d0<0:=(by omega);rw [←FS,←FI];have DL:=O6 n0 (by omega) (by omega);have at2:=O6 d0 (by omega) (by omega);have hdi:(0:Int)<(d:Int):=(by omega);have hw1:IntKind.i64.wrap n=n:=Asm _ (by omega);have hw2:IntKind.i64.wrap (d:Int)=d:=Asm _ (by omega);have HR:=Asb hR;have HG:=Asb hg;have H1:=Asb e1;have H2:=Asb e2;have i1:=fun W hW=>J0 n' (by omega) (by omega) W hW;have i2:=fun W hW=>J0 (d':Int) (by omega) (by omega) W hW;rw [Ci]at i2;obtain⟨na,NF⟩:=AcG (n.natAbs:Nat);have Us:na<=9000000000000000000:=(by omega);have JE:=Asb NF;clear hR hg e1 e2 NF FS FI;by_cases GI:n<0
 case' pos=>have kE:-n=(na:Int):=(by have:=JE.out;omega);go_enter Tryz.func96,Tryz.ntmps96;(go_wp2_with fail);(with_reducible refine(DL _).mono ?_);rintro e w1 ⟨rfl,hx⟩;(go_wp2_with fail);(with_reducible refine(at2 _).mono ?_);rintro e w2 ⟨rfl,hx2⟩;have hE:=hx.trans hx2;go_wp2;clear kE
 case' neg=>obtain⟨m,hm⟩:=Int.eq_ofNat_of_zero_le (show 0<=n by omega);obtain rfl:m=na:=(by have:=JE.out;omega);subst hm;go_enter Tryz.func96,Tryz.ntmps96;(go_wp2_with fail);(with_reducible refine(DL _).mono ?_);rintro e w1 ⟨rfl,hx⟩;(go_wp2_with fail);(with_reducible refine(at2 _).mono ?_);rintro e w2 ⟨rfl,hx2⟩;have hE:=hx.trans hx2;go_wp2
 all_goals
  clear DL at2 hx hx2
  go_loopw [9,10] (fun x y wr=>∃a b:Nat,x=.int .i64 (a:Nat)/\y=.int .i64 (b:Nat)/\Nat.gcd a b=g/\a<=9000000000000000000/\b<=9000000000000000000/\Aa w wr) (fun _ y _=>(intOf y).natAbs)
  case atStart=>exact⟨_,d,rfl,rfl,by rw [HG.out,←JE.out],Us,C3,hE⟩
  case round=>
   obtain⟨a,b,rfl,rfl,DC,ha,hb,Ac⟩:=hrel;by_cases hb0:b=0
   ·subst hb0;obtain rfl:a=g:=(by rw [←DC];simp);clear DC;have e1:=H1.out;have e2:=H2.out;have QM:(0:Int)<(a:Int):=(by omega);have jM:((a:Int) == 0)=false:=(by rw [beq_eq_false_iff_ne];omega);by_cases CU:d'=1
    ·subst CU;have HF:Hid (R (mkRat _ d)=I n'):=Asb (by rw [HR.out];rfl);(go_wp2_with fail)
     go_quiet (fail)
     (go_wp2_with fail);(with_reducible refine(i1 _ (hw.ext (Ac.drewN _))).mono ?_);rintro e w3 ⟨rfl,hx3⟩;go_wp2;go_ret;exact⟨Ch (by rw [HF.out]),(Ac.drewN _).trans hx3⟩
    ·have HF:Hid (R (mkRat _ d)=I n'++47::D d'):=Asb (by rw [HR.out];exact if_neg CU);have TR:((d':Int) == 1)=false:=(by rw [beq_eq_false_iff_ne];omega);clear CU;(go_wp2_with fail)
     go_quiet (fail)
     (go_wp2_with fail);(with_reducible refine(i1 _ (hw.ext (Ac.drewN _))).mono ?_);rintro e w3 ⟨rfl,hx3⟩;have hx3:=(Ac.drewN _).trans hx3;(go_wp2_with fail);(with_reducible refine(i2 _ (hw.ext hx3)).mono ?_);rintro e w4 ⟨rfl,Af⟩;go_wp2;go_ret;exact⟨Ch (by rw [HF.out];apply ByteArray.ext;simp),hx3.trans Af⟩
   ·have hlt:a%b<b:=Nat.mod_lt _ (by omega);have I7:((b:Int) != 0)=true:=(by rw [bne_iff_ne];omega);have Bu:((b:Int) == 0)=false:=(by rw [beq_eq_false_iff_ne];omega);have AS:(0:Int)<(b:Int):=(by omega);have JC:Hid (Nat.gcd b (a%b)=g):=Asb (by rw [←DC,Nat.gcd_comm b,←Nat.gcd_rec,Nat.gcd_comm]);clear DC;(go_wp2_with fail)
    go_quiet (fail)
    go_wp2;go_roundw
    case rel=>exact⟨b,a%b,rfl,by go_num,JC.out,hb,by omega,Ac.drewN _⟩
    case measure=>simp [intOf];omega
theorem Aaz(s:Bs)(hl:9<s.length)(w:World):Calls Tryz.prog 40 #[S s] w (fun e w'=>e=.returned (.tuple #[.int .i64 0,.int .i64 0,.bool false])/\w=w'):=by
 have h:(9:Int)<(s.length:Int):=(by omega);clear hl;go_enter Tryz.func40,Tryz.ntmps40;go_wp2;go_ret3;exact⟨rfl,rfl⟩
theorem RN(q:Rat){k:Nat}(hk:0<k)(hk2:k<=100000)(hz:Sz k q)(w:World):Calls Tryz.prog 42 #[S (R q)] w (Bg (.tuple #[S (I q.num),S (I (q.den:Int))]) w):=by
 have hlen:=Hv hk hz;by_cases h:q.den=1
 ·have ib:=uv (I q.num) 47;rw [show (47:Int).toNat.toUInt8=47 from rfl,mG (S0 q.num)]at ib;rw [MR h,h,show ((1:Nat):Int)=1 from rfl,MK];clear h;go_enter Tryz.func42,Tryz.ntmps42;(go_wp2_with fail);(with_reducible refine(ib _).mono ?_);rintro e w1 ⟨rfl,hx1⟩;go_wp2;go_ret2;exact⟨rfl,hx1⟩
 ·have ib:=uv (R q) 47;rw [show (47:Int).toNat.toUInt8=47 from rfl]at ib;rw [O1 h]at ib hlen ⊢;rw [mF (S0 q.num)]at ib;obtain⟨t,ht⟩:∃t,I q.num++47::D q.den=t:=⟨_,rfl⟩;rw [ht]at ib hlen ⊢;obtain⟨L,hL⟩:∃L,(I q.num).length=L:=⟨_,rfl⟩;rw [hL]at ib;have H1:Hid (t.take L=I q.num):=Asb (by rw [←ht,←hL];simp);have H2:Hid (t.drop (L+1)=D q.den):=Asb (by rw [←ht,←hL,←List.drop_drop];simp);have hlt:L+1<=t.length:=(by rw [←ht,←hL,List.length_append,List.length_cons];omega);rw [Ci];have hl0:(0:Int)<=(L:Int):=(by omega);have CU:(L:Int)<=(t.length:Int):=(by omega);have hl2:(L:Int)+1<=(t.length:Int):=(by omega);have hl3:(0:Int)<=(L:Int)+1:=(by omega);have hw1:IntKind.i64.wrap ((L:Int)+1)=(L:Int)+1:=Asm _ (by omega);have Rc:((L:Int)+1).toNat=L+1:=(by omega);clear h ht hL hlt;go_enter Tryz.func42,Tryz.ntmps42;(go_wp2_with fail);(with_reducible refine(ib _).mono ?_);rintro e w1 ⟨rfl,hx1⟩;(go_wp2_with fail)
  go_quiet (fail)
  go_wp2;go_ret2;refine⟨ZM (d:=D q.den) ?_ ?_,hx1.drewN _⟩
  ·rw [←H1.out]
  ·rw [←H2.out]
/-! ### Fraction -/
theorem wl{n:Int}(h:(I n).length<=9):n.natAbs<1000000000:=by
 have e9:(10:Nat)^9=1000000000:=(by decide);have:=Ko h
 rwa [e9]at this
theorem oC(n:Int)(d:Nat)(hd:0<d)(K:Nat)(hK:K<=8000)(C2:0<K)(h1:n.natAbs<10^K)(h2:d<10^K)(w:World)(hw:Ai w):Calls Tryz.prog 38 #[S (I n),S (I (d:Int))] w (A0 (R (mkRat n d)) w):=by
 have ln:(I n).length<=8001:=Asq (G3 (z:=n) C2 (by exact h1)) (by omega);have ld:(I (d:Int)).length<=8001:=Asq (G3 (z:=(d:Int)) C2 (by rw [Ash];exact h2)) (by omega);by_cases hs:(I n).length<=9/\(I (d:Int)).length<=9
 ·exact Aa3 n d hd hs.1 hs.2 w hw
 ·have gc:=Aa4 n (d:Int) K hK C2 h1 (by rw [Ash];exact h2);rw [Ash]at gc;have hg0:0<Nat.gcd n.natAbs d:=Nat.gcd_pos_of_pos_right _ hd;have hgd:Nat.gcd n.natAbs d<=d:=Nat.gcd_le_right _ hd;have hR:=Qe n hd;have hdd:d/Nat.gcd n.natAbs d<=d:=Nat.div_le_self _ _;obtain⟨g,hg⟩:=AcG (Nat.gcd n.natAbs d);rw [←hg]at gc hg0 hgd hR hdd;have Pe:((g:Int)).natAbs<10^K:=(by rw [Ash];omega);have d1:=RJ n (g:Int) (by omega) K hK C2 h1 Pe;have d2:=RJ (d:Int) (g:Int) (by omega) K hK C2 (by rw [Ash];exact h2) Pe
  have Uu:(n/(g:Int)).natAbs<10^K:=by have hgn:((g:Nat):Int)∣n:=(by rw [hg];exact Int.natAbs_dvd_natAbs.1 (by rw [Ash];exact Nat.gcd_dvd_left ..));exact Nat.lt_of_le_of_lt (P8 _ _ hgn) h1
  unfold Qf at d1 d2;rw [Ci g]at d1 d2;rw [←Int.natCast_ediv,Ci (d/g)]at d2;have lq:(I (n/(g:Int))).length<=8001:=Asq (G3 C2 Uu) (by omega);have le:(D (d/g)).length<=8000:=Asq (Ck C2 (Nat.lt_of_le_of_lt hdd h2)) (by omega);obtain⟨x,hx⟩:=AcG (I (n/(g:Int)));rw [←hx]at d1 lq;obtain⟨z,hz⟩:=AcG (I ((d:Int)%(g:Int)));rw [←hz]at d2;obtain⟨y,hy⟩:=AcG (I (n%(g:Int)));rw [←hy]at d1;obtain⟨f,hf⟩:=AcG (d/g);rw [←hf]at d2 hR le;have sg:=Aa7 (d:Int) (by rw [Ash];have:=Ck C2 h2;omega);rw [RU (show 0<(d:Int)by omega)]at sg;have HR:=Asb hR;have HF:=Asb hf;have HX:=Asb hx;obtain⟨tn,htn⟩:=AcG (I n);obtain⟨td,Gx⟩:=AcG (I (d:Int));rw [←htn,←Gx]at hs;rw [←htn]at ln;rw [←Gx]at ld;rw [←htn,←Gx];rw [←Gx]at sg;rw [←htn]at gc d1;rw [←Gx]at gc d2;clear hR hf hx hz hy hg hdd hgd Pe h1 h2 hd Uu htn Gx
  have TS:(Hid (R (mkRat n d)=x)/\D f = [49])∨(Hid (R (mkRat n d)=x++47::D f)/\(D f == [49])=false):=by
   by_cases Dk:f=1
   ·exact .inl ⟨Asb (by rw [HR.out,Dk,HX.out];exact if_pos rfl),by rw [Dk];exact MD⟩
   ·refine .inr ⟨Asb (by rw [HR.out,HX.out];exact if_neg Dk),?_⟩;rw [beq_eq_false_iff_ne];intro e;exact Dk (Ot (e.trans MD.symm))
  have hlen:((tn.length:Int)<=9/\(9:Int)<(td.length:Int))∨((9:Int)<(tn.length:Int)/\True):=by
   by_cases hs1:tn.length<=9
   ·have:¬td.length<=9:=fun h=>hs ⟨hs1,h⟩;exact .inl ⟨by omega,by omega⟩
   ·exact .inr ⟨by omega,trivial⟩
  clear hs
  rcases hlen with⟨i1,i2⟩|⟨i1,i2⟩<;>rcases TS with⟨HD,eS⟩|⟨HD,eS⟩
  all_goals
   go_enter Tryz.func38,Tryz.ntmps38;(go_wp2_with fail);(with_reducible refine(sg _).mono ?_);rintro e w1 ⟨rfl,hx1⟩;(go_wp2_with fail);(with_reducible refine(gc _ (hw.ext hx1)).mono ?_);rintro e w2 ⟨rfl,hx2⟩;have hx2:=hx1.trans hx2;(go_wp2_with fail);(with_reducible refine(d1 _ (hw.ext hx2)).mono ?_);rintro e w3 ⟨rfl,hx3⟩;have hx3:=hx2.trans hx3;(go_wp2_with fail);(with_reducible refine(d2 _ (hw.ext hx3)).mono ?_);rintro e w4 ⟨rfl,Af⟩;have Af:=hx3.trans Af;clear gc d1 d2 sg;go_wp2;go_ret;exact⟨Ch (by first|(rw [HD.out];done)|(rw [HD.out];apply ByteArray.ext;simp)),Af⟩
theorem AmV(n:Int)(d:Nat)(hd:0<d)(K:Nat)(hK:K<=8000)(C2:0<K)(h1:n.natAbs<10^K)(h2:d<10^K)(w:World)(hw:Ai w):Calls Tryz.prog 38 #[S (I (-n)),S (I (-(d:Int)))] w (A0 (R (mkRat n d)) w):=by
 have ln:(I (-n)).length<=8001:=Asq (G3 (z:=(-n)) C2 (by rw [Int.natAbs_neg];exact h1)) (by omega);have ld:(I (-(d:Int))).length<=8001:=Asq (G3 (z:=(-(d:Int))) C2 (by rw [Int.natAbs_neg];rw [Ash];exact h2)) (by omega);by_cases hs:(I (-n)).length<=9/\(I (-(d:Int))).length<=9
 ·have b1:=wl hs.1;have b2:=wl hs.2;rw [Int.natAbs_neg]at b1 b2;rw [Ash]at b2;have sm:=Ang n d hd (by omega) (by omega) (by omega);have i1:((I (-n)).length:Int)<=9:=(by omega);have i2:((I (-(d:Int))).length:Int)<=9:=(by omega);clear b1 b2 hd hs h1 h2;go_enter Tryz.func38,Tryz.ntmps38;(go_wp2_with fail);(with_reducible refine(sm _ hw).mono ?_);rintro e w3 ⟨rfl,hx3⟩;go_wp2;go_ret;exact⟨rfl,hx3⟩
 ·have gc:=Aa4 n (d:Int) K hK C2 h1 (by rw [Ash];exact h2);rw [Ash]at gc;have hg0:0<Nat.gcd n.natAbs d:=Nat.gcd_pos_of_pos_right _ hd;have hgd:Nat.gcd n.natAbs d<=d:=Nat.gcd_le_right _ hd;have hR:=Qe n hd;have hdd:d/Nat.gcd n.natAbs d<=d:=Nat.div_le_self _ _;obtain⟨g,hg⟩:=AcG (Nat.gcd n.natAbs d);rw [←hg]at gc hg0 hgd hR hdd;have Pe:((g:Int)).natAbs<10^K:=(by rw [Ash];omega);have d1:=RJ n (g:Int) (by omega) K hK C2 h1 Pe;have d2:=RJ (d:Int) (g:Int) (by omega) K hK C2 (by rw [Ash];exact h2) Pe
  have Uu:(n/(g:Int)).natAbs<10^K:=by have hgn:((g:Nat):Int)∣n:=(by rw [hg];exact Int.natAbs_dvd_natAbs.1 (by rw [Ash];exact Nat.gcd_dvd_left ..));exact Nat.lt_of_le_of_lt (P8 _ _ hgn) h1
  unfold Qf at d1 d2;rw [Ci g]at d1 d2;rw [←Int.natCast_ediv,Ci (d/g)]at d2;have lq:(I (n/(g:Int))).length<=8001:=Asq (G3 C2 Uu) (by omega);have le:(D (d/g)).length<=8000:=Asq (Ck C2 (Nat.lt_of_le_of_lt hdd h2)) (by omega);obtain⟨x,hx⟩:=AcG (I (n/(g:Int)));rw [←hx]at d1 lq;obtain⟨z,hz⟩:=AcG (I ((d:Int)%(g:Int)));rw [←hz]at d2;obtain⟨y,hy⟩:=AcG (I (n%(g:Int)));rw [←hy]at d1;obtain⟨f,hf⟩:=AcG (d/g);rw [←hf]at d2 hR le;have sg:=Aa7 (-(d:Int)) (by rw [Int.natAbs_neg,Ash];have:=Ck C2 h2;omega);rw [V8 (show -(d:Int)<0 by omega)]at sg;have n1:=Aa6 (-n) (by rw [Int.natAbs_neg];have:=Ck C2 h1;omega);have n2:=Aa6 (-(d:Int)) (by rw [Int.natAbs_neg,Ash];have:=Ck C2 h2;omega);rw [Int.neg_neg]at n1 n2;rw [Ci]at n2;have HR:=Asb hR;have HF:=Asb hf;have HX:=Asb hx;obtain⟨tn,htn⟩:=AcG (I (-n));obtain⟨td,Gx⟩:=AcG (I (-(d:Int)));rw [←htn,←Gx]at hs;rw [←htn]at ln;rw [←Gx]at ld;rw [←htn,←Gx];rw [←Gx]at sg;rw [←htn]at n1;rw [←Gx]at n2;rw [Ci d]at gc d2;clear hR hf hx hz hy hg hdd hgd Pe h1 h2 hd Uu htn Gx
  have TS:(Hid (R (mkRat n d)=x)/\D f = [49])∨(Hid (R (mkRat n d)=x++47::D f)/\(D f == [49])=false):=by
   by_cases Dk:f=1
   ·exact .inl ⟨Asb (by rw [HR.out,Dk,HX.out];exact if_pos rfl),by rw [Dk];exact MD⟩
   ·refine .inr ⟨Asb (by rw [HR.out,HX.out];exact if_neg Dk),?_⟩;rw [beq_eq_false_iff_ne];intro e;exact Dk (Ot (e.trans MD.symm))
  have hlen:((tn.length:Int)<=9/\(9:Int)<(td.length:Int))∨((9:Int)<(tn.length:Int)/\True):=by
   by_cases hs1:tn.length<=9
   ·have:¬td.length<=9:=fun h=>hs ⟨hs1,h⟩;exact .inl ⟨by omega,by omega⟩
   ·exact .inr ⟨by omega,trivial⟩
  clear hs
  rcases hlen with⟨i1,i2⟩|⟨i1,i2⟩<;>rcases TS with⟨HD,eS⟩|⟨HD,eS⟩
  all_goals
   go_enter Tryz.func38,Tryz.ntmps38;(go_wp2_with fail);(with_reducible refine(sg _).mono ?_);rintro e w1 ⟨rfl,hx1⟩;(go_wp2_with fail);(with_reducible refine(n1 _).mono ?_);rintro e w1n ⟨rfl,hx1n⟩;(go_wp2_with fail);(with_reducible refine(n2 _).mono ?_);rintro e w1m ⟨rfl,hx1m⟩;have hx1:=(hx1.trans hx1n).trans hx1m;(go_wp2_with fail);(with_reducible refine(gc _ (hw.ext hx1)).mono ?_);rintro e w2 ⟨rfl,hx2⟩;have hx2:=hx1.trans hx2;(go_wp2_with fail);(with_reducible refine(d1 _ (hw.ext hx2)).mono ?_);rintro e w3 ⟨rfl,hx3⟩;have hx3:=hx2.trans hx3;(go_wp2_with fail);(with_reducible refine(d2 _ (hw.ext hx3)).mono ?_);rintro e w4 ⟨rfl,Af⟩;have Af:=hx3.trans Af;clear gc d1 d2 sg;go_wp2;go_ret;exact⟨Ch (by first|(rw [HD.out];done)|(rw [HD.out];apply ByteArray.ext;simp)),Af⟩
end
end Go.Proofs.YtdaefncphfeaeaaGreatDoor
