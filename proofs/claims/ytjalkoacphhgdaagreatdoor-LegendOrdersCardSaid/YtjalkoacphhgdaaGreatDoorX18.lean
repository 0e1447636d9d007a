/- X18: Div3 Int8 IntA. -/
import Derived.Test.YtjalkoacphhgdaaGreatDoorX16
import Derived.Deep.DeepCutAuto
set_option maxRecDepth 100000
set_option maxHeartbeats 4000000
namespace Go.Proofs.YtjalkoacphhgdaaGreatDoor
open Go.RowKit Kl Go.Shelf
theorem Rd.setCell{w:World}{v0:Value}{l:List Nat}(h:Rd w v0 l){p:Addr}{v u:Value}(hp:w.cell? p=some v)(hv:∀n,v≠.int .u64 n):Rd (w.setCell p u) v0 l:=by
 obtain⟨A,c,e,h⟩:=h;exact⟨A,c,e,h.setCell hp hv⟩
theorem BI.setOther{w:World}{A:Option Addr}{c:Nat}{l:List Nat}(h:BI w A c l){p:Addr}(u:Value)(hp:∀b o,0<l.length→A=some ⟨b,o,none⟩→b≠p.block):BI (w.setCell p u) A c l:=
 ⟨h.cap,h.max,h.len,fun h0=>by
  obtain⟨b,o,e,hc⟩:=h.ad h0;refine⟨b,o,e,fun j hj=>?_⟩;rw [World.cell?_setCell_other _ _ _ _ (fun e2=>hp b o h0 e (by rw [e2]))]
  exact hc j hj⟩
theorem Ue{a b:Nat}(h:a<=b):(pc 1000000000 a).length<=(pc 1000000000 b).length:=by
 refine OO b9 ?_;have h1:=IA (Bl b9 b);rw [AZ b9]at h1;omega
theorem Ald{x f k:Nat}(h:(pc 1000000000 x).length<k)(hf:f<1000000000):(pc 1000000000 (x*f)).length<=k:=by
 refine OO b9 ?_;have h1:=IA (Bl b9 x);rw [AZ b9]at h1
 have h2:(1000000000:Nat)^(pc 1000000000 x).length*1000000000<=1000000000^k:=by rw [←Nat.pow_succ];exact Nat.pow_le_pow_right (by omega) h
 exact AqT (Nat.mul_lt_mul'' h1 hf) h2
theorem AmJ{l:List Nat}{j y:Nat}(h:Ah l j=y)(hj:j<l.length):l.set j y=l:=by
 rw [←h];apply List.ext_getElem?;intro i;rw [List.getElem?_set]
 split
 ·next e=>subst e;simp [Ah,hj]
 ·rfl
def Ab7(wb:World)(xs:List Nat)(Y Q:Nat)(r i:Value)(wr:World):Prop:=
 ∃(k:Nat) (vs:List Nat) (rn:Nat) (z:Int),i=.int .i64 z/\z=(k:Int)-1/\IR xs vs Y k rn/\(∀j,j<k→Ah vs j=0)/\Rd wr r (pc 1000000000 rn)
  /\wr.ownsRow Q 184 1 (.slice (some ⟨Q,0,none⟩) xs.length xs.length) xs.length (Bi vs)/\Aa wb wr
theorem Aes(x y:Nat)(Xm:y<=x)(TE:1000000000<=y)(hlx:(pc 1000000000 x).length<39000)(u v:Value)(w:World)(hu:Rd w u (pc 1000000000 x))(hv:Rd w v (pc 1000000000 y)) :
  Calls Tryz.prog 278 #[u,v] w (Po (x/y) (x%y) w):=by
 have Jm:=fun W hu hv=>QA (pc 1000000000 x) (pc 1000000000 y) u v W hu hv (Bl b9 x) (Bl b9 y) (Gv b9 x) (Gv b9 y)
 obtain⟨s,hs,hs0⟩:∃s:Int,s=DW x y/\¬s<0:=by
  rcases Nat.lt_or_eq_of_le Xm with h|h
  ·exact⟨_,rfl,by rw [KV h];omega⟩
  ·exact⟨_,rfl,by rw [P5 h.symm];omega⟩
 rw [AZ b9,AZ b9,←hs]at Jm;clear hs;have hx1:=((Aa.refl w).alloc (.cells #[v] 278)).alloc (.cells #[.slice none 0 0] 278);have ho:=Jm _ (hu.ext hx1) (hv.ext hx1);clear Jm;obtain⟨hm0,T0,-,-,-⟩:=aO (y:=y) (t:=y) (AqK _) (by omega) (by omega)
 have Fo:2<=(pc 1000000000 y).length:=by
  rcases Nat.lt_or_ge (pc 1000000000 y).length 2 with h|h
  ·exfalso
   have h1:=IA (Bl b9 y);rw [AZ b9]at h1;have h2:(1000000000:Nat)^(pc 1000000000 y).length<=1000000000^1:=Nat.pow_le_pow_right (by omega) (by omega);omega
  ·exact h
 have Fq:Ah (pc 1000000000 y) ((pc 1000000000 y).length-1)<1000000000:=Cj (Bl b9 y) (by omega);have OF:=hu;have iK:=hv;obtain⟨A,ca,e1,Ct⟩:=OF;obtain⟨B,cb,e2,BX⟩:=iK;have Fl:=BX.len;have hcb:=BX.cap;have Tl:=BX.max;obtain⟨bb,ob,rfl,hcs⟩:=BX.ad (by omega);have Dw:=hcs ((pc 1000000000 y).length-1) (by omega);clear hcs;obtain⟨m,hm⟩:=AqG ((pc 1000000000 y).length);obtain⟨tp,T8⟩:=AqG (Ah (pc 1000000000 y) (m-1));rw [←hm]at Fl hcb Fo hm0 e2 Dw Fq T0;rw [←T8]at T0 Fq Dw;have HM:=AqH hm;have HT:=AqH T8;clear hm T8
 obtain⟨f,eK,hf0,Qb⟩:∃f:Nat,(1000000000:Int)/((tp:Int)+1)=(f:Int)/\0<f/\f<1000000000:=by refine⟨1000000000/(tp+1),by simp,Nat.div_pos (by omega) (by omega),Nat.div_lt_self (by omega) (by omega)⟩
 rw [e1,e2]at ho;rw [e2]at hx1;have hm1:(((m:Nat):Int) == 1)=false:=(by rw [beq_eq_false_iff_ne];omega);subst e1 e2;go_enter Tryz.func278,Tryz.ntmps278;(go_wp2_with fail);(with_reducible refine ho.mono ?_);rintro e w1 ⟨rfl,hx2⟩;obtain⟨hc2,hf2⟩:=hx2.cells;have AgE:=hx2.cellS (hx1.cellS Dw);have hb0:=(hx2.block w.heap.size (by simp;omega)).trans ((Below.heap_alloc _ _ _ (by simp)).trans (AqJ w _));have hb1:=hx2.block (w.heap.size+1) (by simp);have SH:=AqJ (w.alloc (.cells #[.slice (some ⟨bb,ob,none⟩) m cb] 278)) (.cells #[.slice none 0 0] 278);rw [AqR]at SH;have hb1:=hb1.trans SH;clear SH
 go_upto_region 13 with fail
 have LE:Aa w w1.drew:=(hx1.trans hx2).drew;have Gi:(pc 1000000000 y).length<=(pc 1000000000 x).length:=OO b9 (by have:=IA (Bl b9 x);rw [AZ b9]at this;omega);have c1:=mN x f Qb (by omega) _ w1.drew (hu.ext LE);have c2:=fun W (hW:Aa w1.drew W)=>mN y f Qb (by omega) _ W (hv.ext (LE.trans hW));have HLM:=AqH Gi;simp only [←eK]at c1 c2;have HFE:=AqH eK;clear eK Gi
 go_cut [0] (fun v0 wx=>∃vb,Rd wx v0 (pc 1000000000 (x*f))/\Rd wx vb (pc 1000000000 (y*f))/\wx.heap[w.heap.size]?=some (.cells #[vb] 278 (0,0))/\wx.heap[w.heap.size+1]?=some (.cells #[.slice none 0 0] 278 (0,0))/\Aa w wx)
 case first=>
  refine wp_region_noPanic ?_
  go_region_with (go_at_call 335;(first|((with_reducible refine c1.mono ?_);rintro e w2 ⟨va,rfl,hva,hx3,hf3⟩;clear hf3;have hb2:=(hx3.block _ (AqI hb0)).trans hb0;have hg0:=cell_of_one hb2)|((with_reducible refine(c2 _ (by assumption)).mono ?_);rintro e w3 ⟨vb,rfl,⟨B2,RN,rfl,hvb⟩,Ai,zZ⟩;clear zZ;have hb3:=(Ai.block _ (AqI hb2)).trans hb2;have hg3:=cell_of_one hb3;have hg4:=free_of_one hb3)))
  all_goals refine NoPanic.normal ?_
  all_goals go_wp2
  all_goals go_meet
  all_goals exact⟨_,(hva.ext Ai).setCell hg3 (by simp),Rd.setCell ⟨B2,RN,rfl,hvb⟩ hg3 (by simp),one_setCell hb3,by rw [Below.heap_setCell _ _ _ _ (by show w.heap.size+1≠w.heap.size;omega)];exact(Ai.block _ (by have:=hx3.size;have:=AqI hb1;show w.heap.size+1<_;have h9:w1.drew.heap.size=w1.heap.size:=rfl;omega)).trans ((hx3.block _ (AqI hb1)).trans hb1),((LE.trans hx3).trans Ai).setCell (by show w.heap.size<=w.heap.size;omega) _⟩
 case rest=>
  obtain⟨vb,⟨A1,ZN,rfl,WX⟩,⟨B1,RL,rfl,Qp⟩,hkb,Tf,Ns⟩:=hcut;clear c1 c2 hb0 hb1 LE hx2 hc2 hf2 AgE Dw ho hx1 hu hv Ct BX;have fE:(pc 1000000000 (x*f)).length<=39000:=Ald hlx Qb;have MR:0<y*f:=Nat.mul_pos (by omega) hf0;have dh:(pc 1000000000 (y*f)).length<=39000:=AqU (Ue (Nat.mul_le_mul_right f Xm)) fE;obtain⟨X,hX⟩:=AqG (x*f);obtain⟨Y,hY⟩:=AqG (y*f);rw [←hX]at WX fE ⊢;rw [←hY]at Qp dh MR hkb;have HX:=AqH hX;have HY:=AqH hY;clear hX hY;obtain⟨PK,xM,-,-,-⟩:=aO (y:=Y) (t:=Y) (AqK _) (by omega) MR;have xN:Ah (pc 1000000000 Y) ((pc 1000000000 Y).length-1)<1000000000:=Cj (Bl b9 Y) (by omega);obtain⟨b1,o1,rfl,zK⟩:=Qp.ad PK;have Jf:=zK ((pc 1000000000 Y).length-1) (by omega);clear zK;have AgC:=Qp.cap;have ApS:=Qp.max;obtain⟨M,hM⟩:=AqG ((pc 1000000000 Y).length);obtain⟨T,hT⟩:=AqG (Ah (pc 1000000000 Y) (M-1));obtain⟨xs,I9⟩:=AqG (pc 1000000000 X);have ek:∀z∈xs,z<1000000000:=(by rw [I9];exact Bl b9 X);rw [←hM]at dh PK Jf AgC xM xN hkb;rw [←hT]at Jf xM xN;rw [←I9]at WX fE ⊢;have NJ:=AqH hM;have oZ:=AqH hT;have HXS:=AqH I9;clear hM hT I9;have Ta:=cell_of_one Tf;have eP:=free_of_one Tf;have hgb:=cell_of_one hkb;have Tx:=AqI hkb;have Gp:=AqI Tf;have hb1:=World.block_lt_of_cell? wc _ Jf;have hmk:=jS xs.length (by omega) (xs.length:Int) rfl
  go_upto_region 15 with fail
  clear hmk;have AhI:=WX.setCell (u:=.slice (some ⟨wc.heap.size,0,none⟩) xs.length xs.length) Ta (by simp);have gy:=Qp.setCell (u:=.slice (some ⟨wc.heap.size,0,none⟩) xs.length xs.length) Ta (by simp);have WI:=one_setCell (u:=.slice (some ⟨wc.heap.size,0,none⟩) xs.length xs.length) Tf;have Ahg:=(Below.heap_setCell wc ⟨w.heap.size+1,0,none⟩ (.slice (some ⟨wc.heap.size,0,none⟩) xs.length xs.length) w.heap.size (by show w.heap.size≠w.heap.size+1;omega)).trans hkb;have hxb:=Ns.setCell (p:=⟨w.heap.size+1,0,none⟩) (by show w.heap.size<=w.heap.size+1;omega) (.slice (some ⟨wc.heap.size,0,none⟩) xs.length xs.length);have jf:(wc.setCell ⟨w.heap.size+1,0,none⟩ (.slice (some ⟨wc.heap.size,0,none⟩) xs.length xs.length)).heap.size=wc.heap.size:=(by simp);generalize wc.setCell ⟨w.heap.size+1,0,none⟩ (.slice (some ⟨wc.heap.size,0,none⟩) xs.length xs.length)=wb at *;clear WX Qp Tf hkb Ta eP hgb hb1 Jf Ns;rw [←jf]at Tx Gp WI ⊢;clear jf
  have Jf:wb.cell? ⟨b1,o1+(M-1),none⟩=some (.int .u64 (T:Nat)):=by obtain⟨b3,o3,e3,AgD⟩:=gy.ad (by have:=NJ.out;omega);simp only [AqO,Addr.mk.injEq,and_true]at e3;obtain⟨rfl,rfl⟩:=e3;have h:=AgD (M-1) (by have:=NJ.out;omega);rw [←oZ.out]at h;exact h
  have hb1:=World.block_lt_of_cell? wb _ Jf;have hgb:=cell_of_one Ahg;have how:=kW wb wb.heap.size xs.length (AqK _) (by omega);go_wp2
  go_loopw [5,11] (fun r i wr=>Ab7 wb xs Y wb.heap.size r i wr) (fun _ i _=>(intOf i+1).toNat)
  case atStart=>exact⟨xs.length,List.replicate xs.length 0,0,_,rfl,rfl,IR.start MR,fun j hj=>by simp only [Ah,List.getD_eq_getElem?_getD,List.getElem?_replicate];split<;>rfl,⟨none,0,by rw [ID];rfl,by rw [ID];exact⟨by simp,by omega,by simp,fun h=>by simp at h⟩⟩,how,(Aa.refl wb).alloc _⟩
  case round=>
   obtain⟨k,vs,rn,z,rfl,hz,hI,Km,DI,hown,Ac⟩:=hrel;clear how;have hZ:=AqH hz;have Cr:=hI.le;by_cases hk:0<k
   ·have hz0:0<=z:=(by omega);obtain⟨j,rfl⟩:=Int.eq_ofNat_of_zero_le hz0;obtain rfl:k=j+1:=(by omega);clear hz;obtain⟨ba,oa,rfl,zL⟩:=AhI.ad (by omega);have hg:=Ac.cellS (zL j (by omega));clear zL;obtain⟨wo,rfl⟩:=AqG (wr:World);have WF:j<xs.length:=Cr;have BM:=Cj ek WF;have ApQ:(pc 1000000000 rn).length<=M:=by rw [NJ.out];exact Ue (Nat.le_of_lt hI.rl)
    have I5:(wo.alloc (.cells #[.int .u64 (Ah xs j:Nat)] 184)).ownsRow wo.heap.size 184 1 (.slice (some ⟨wo.heap.size,0,none⟩) 1 1) 1 (Bi [Ah xs j]):=by
     have h:=World.ownsRow_lit (w:=wo) (base:=wo.heap.size) (e:=184) (size:=1) #[.int .u64 (Ah xs j:Nat)] 1 (AqK _) (by unfold maxLen;omega) (by simp)
     simpa [Bi]using h
    have iq:=DI.ext ((Aa.refl wo).alloc (.cells #[.int .u64 (Ah xs j:Nat)] 184))
    go_wp2_with (at_builtin;go_loud (refine Acr rfl _ _ rfl _ wo.heap.size (.slice (some ⟨wo.heap.size,0,none⟩) 1 1) 1 [Ah xs j] rfl I5 (pc 1000000000 rn) u5 rfl iq (by omega) (by rw [AqR];omega) ?_);intro v1 w1 hown1 hx1)
    have ic:Rd w1 v1 ([Ah xs j]++pc 1000000000 rn):=Rd.of_own (by simpa [Nat.add_comm]using hown1) (by simp;omega)
    have G8:∀z∈[Ah xs j]++pc 1000000000 rn,z<1000000000:=by
     intro z hz
     rcases List.mem_append.1 hz with h|h
     ·simp only [AqW]at h;omega
     ·exact Bl b9 rn z h
    have e1:Aa wo w1:=hx1 wo ((Aa.refl wo).alloc _) (AqK _);refine(trim_c _ _ _ ic G8).mono ?_;rintro e w2 ⟨v2,rfl,hv2,hx2⟩;have e2:Aa wo w2:=e1.trans hx2;obtain⟨t,ht⟩:=AqG (rn*1000000000+Ah xs j);rw [show Ag 1000000000 ([Ah xs j]++pc 1000000000 rn)=t by simp [Ag,AZ b9];omega]at hv2;have hst:=hI.step MR ek ht;have HTT:=AqH ht
    have Qq:t<Y*1000000000:=by have h1:rn+1<=Y:=hI.rl;have h2:(rn+1)*1000000000<=Y*1000000000:=Nat.mul_le_mul_right _ h1;omega
    clear ht hown1 hx1 I5 iq ic G8 hg DI;have TD:Aa wb w2:=Ac.trans e2;have ak:=TD.cellS hgb;have gU:∀W,Aa wb W→Rd W (.slice (some ⟨b1,o1,none⟩) M RL) (pc 1000000000 Y):=fun W hW=>⟨_,_,by rw [NJ.out],gy.ext hW⟩;have ho:=QA (pc 1000000000 t) (pc 1000000000 Y) v2 _ w2 hv2 (gU w2 TD) (Bl b9 t) (Bl b9 Y) (Gv b9 t) (Gv b9 Y);rw [AZ b9,AZ b9]at ho;have hown2:=AC hown e2;have hlen:=hI.len;have HLEN:=AqH hlen;have LF:=Km j (by omega);have HZJ:=AqH LF;clear hlen LF;by_cases iC:t<Y
    ·rw [M8 iC]at ho;(go_wp2_with fail);(with_reducible refine ho.mono ?_);rintro e w3 ⟨rfl,hx3⟩;go_wp2;go_roundw
     case rel=>rw [Nat.div_eq_of_lt iC,Nat.mod_eq_of_lt iC,AmJ HZJ.out (by rw [HLEN.out];exact WF)]at hst;exact⟨j,vs,t,_,by go_num,rfl,hst,fun i hi=>Km i (by omega),hv2.ext hx3,AC hown2 hx3,TD.trans hx3⟩
     case measure=>simp [intOf]
    ·have yB:Y<=t:=by omega
     obtain⟨s2,hs2,AhM⟩:∃s2:Int,s2=DW t Y/\¬s2<0:=by
      rcases Nat.lt_or_eq_of_le yB with h|h
      ·exact⟨_,rfl,by rw [KV h];omega⟩
      ·exact⟨_,rfl,by rw [P5 h.symm];omega⟩
     rw [←hs2]at ho;clear hs2;obtain⟨-,-,Cq,Fc,Gc⟩:=aO yB Qq MR;have cI:=Bl b9 t;obtain⟨A2,c2,rfl,hr2⟩:=hv2;have zI:=hr2.cap;have ApR:=hr2.max;have hlen2:=hr2.len;have Fe:=NJ.out;rw [←Fe]at Cq Fc Gc;rw [←oZ.out]at Gc;clear Fe;obtain⟨b2,o2,rfl,eA⟩:=hr2.ad (by omega);have Wl:=eA ((pc 1000000000 t).length-1) (by omega);have Wm:=eA ((pc 1000000000 t).length-2) (by omega);clear eA;have AX:=Cj cI (show (pc 1000000000 t).length-1<(pc 1000000000 t).length by omega);have By:=Cj cI (show (pc 1000000000 t).length-2<(pc 1000000000 t).length by omega);obtain⟨N,hN⟩:=AqG ((pc 1000000000 t).length);rw [←hN]at Cq Fc Gc zI hlen2 Wl Wm AX By ho ⊢;obtain⟨q1,fu⟩:=AqG (Ah (pc 1000000000 t) (N-1));obtain⟨q2,gh⟩:=AqG (Ah (pc 1000000000 t) (N-2));rw [←fu]at Gc Wl AX;rw [←gh]at Gc Wm By;have HN:=AqH hN;clear hN fu gh cI
     obtain⟨d0,Wt,Ji,zQ⟩:∃d0:Nat,d0=(if M<N then q1*1000000000+q2 else q1)/\t/Y<=d0/T/\d0<1000000000000000000:=by
      refine⟨_,rfl,Gc,?_⟩
      split<;>omega
     have nT:=AqH Wt;clear Wt Gc;(go_wp2_with fail);(with_reducible refine ho.mono ?_);rintro e w3 ⟨rfl,hx3⟩;have AgX:=hx3.cellS ak;have Ag8:=hx3.cellS Wl;have Ag9:=hx3.cellS Wm;clear Wl Wm ak ho
     go_upto_if 103 with fail
     go_cut [12] (fun d wx=>d=.int .u64 (d0:Nat)/\wx=w3)
     case first=>
      by_cases wY:M<N
      ·have e0:((q1:Int)*1000000000+(q2:Int))=(d0:Int):=(by rw [nT.out,if_pos wY];omega);go_wp2;go_meet
       case rel=>exact⟨by go_num,rfl⟩
      ·have e0:d0=q1:=(by rw [nT.out,if_neg wY]);go_wp2;go_meet
       case rel=>exact⟨by rw [e0],rfl⟩
     case rest=>
      obtain⟨rfl,rfl⟩:=hcut;have hqd:t/Y<1000000000:=by rw [Nat.div_lt_iff_lt_mul MR,Nat.mul_comm];exact Qq
      obtain⟨dm,MY,AgJ,zS⟩:∃dm:Nat,min (IntKind.u64.wrap ((d0:Int)/(T:Int))) 999999999=(dm:Int)/\t/Y<=dm/\dm<1000000000:=by
       have e1:(d0:Int)/(T:Int)=((d0/T:Nat):Int):=(by simp);refine⟨min (d0/T) 999999999,?_,?_,?_⟩
       ·have h1:d0/T<=d0:=Nat.div_le_self _ _;rw [e1,IntKind.wrap_u64];generalize d0/T=q at *;omega
       ·omega
       ·omega
      have Aim:=TD.trans hx3;have Kj:=mN Y dm zS (by rw [←NJ.out];omega) _ _ (gU _ Aim);have gw:∀W,Aa w2 W→Rd W (.slice (some ⟨b2,o2,none⟩) N c2) (pc 1000000000 t):=fun W hW=>⟨_,_,by rw [HN.out],hr2.ext hW⟩;(go_wp2_with fail);(with_reducible refine Kj.mono ?_);rintro e w4 ⟨vp,rfl,hvp,Ai,hfp⟩;clear hfp MY;have AgY:=Ai.cellS AgX;have Xi:=hx3.trans Ai;have jx:=TD.trans Xi;go_wp2
      go_loopw [12,13] (fun d p wr=>∃dn:Nat,d=.int .u64 (dn:Nat)/\t/Y<=dn/\dn<1000000000/\Rd wr p (pc 1000000000 (dn*Y))/\Aa w4 wr) (fun d _ _=>(intOf d).toNat)
      case atStart=>exact⟨dm,rfl,AgJ,zS,by rw [Nat.mul_comm];exact hvp,Aa.refl _⟩
      case round=>
       obtain⟨dn,rfl,Ov,BV,hp,Ae⟩:=hrel;have Cm:=QA (pc 1000000000 (dn*Y)) (pc 1000000000 t) _ _ wr hp (gw wr (Xi.trans Ae)) (Bl b9 _) (Bl b9 t) (Gv b9 _) (Gv b9 t);rw [AZ b9,AZ b9]at Cm;clear Kj Ag8 Ag9;by_cases EG:t<dn*Y
       ·rw [KV EG]at Cm;(go_wp2_with fail);(with_reducible refine Cm.mono ?_);rintro e w5 ⟨rfl,Ay⟩;have Ap7:=(Ae.trans Ay).cellS AgY;have hdY:dn*Y<=1000000000*Y:=Nat.mul_le_mul_right _ (by omega)
        have Wt:0<dn:=by
         rcases Nat.eq_zero_or_pos dn with h|h
         ·rw [h]at EG;omega
         ·exact h
        have yA:Y<=dn*Y:=Nat.le_mul_of_pos_left _ Wt
        have hlp:(pc 1000000000 (dn*Y)).length<=M+1:=by refine OO b9 ?_;have h1:=IA (Bl b9 Y);rw [AZ b9,←NJ.out]at h1;rw [Nat.pow_succ,Nat.mul_comm];exact Nat.mul_lt_mul'' h1 BV
        have Tk:=TP (pc 1000000000 (dn*Y)) (pc 1000000000 Y) _ _ w5 (hp.ext Ay) (gU _ (jx.trans (Ae.trans Ay))) (by omega) (Bl b9 _) (Bl b9 Y) (Ue yA) (by rw [AZ b9,AZ b9];exact yA);rw [AZ b9,AZ b9]at Tk;(go_wp2_with fail);(with_reducible refine Tk.mono ?_);rintro e w6 ⟨p2,rfl,I7,Aw⟩
        have hdq:t/Y<=dn-1:=by have:t/Y<dn:=(by rw [Nat.div_lt_iff_lt_mul MR];exact EG);omega
        go_wp2;go_roundw
        case rel=>exact⟨dn-1,by go_num,hdq,by omega,by rw [Nat.sub_mul,Nat.one_mul];exact I7,Ae.trans (Ay.trans Aw)⟩
        case measure=>simp [intOf];omega
       ·have Hv:dn=t/Y:=by have h:dn<=t/Y:=(by rw [Nat.le_div_iff_mul_le MR];omega);omega
        obtain⟨s5,hs5,Aqj⟩:∃s5:Int,s5=DW (dn*Y) t/\¬s5>0:=by
         rcases Nat.lt_or_eq_of_le (Nat.le_of_not_lt EG)with h|h
         ·exact⟨_,rfl,by rw [M8 h];omega⟩
         ·exact⟨_,rfl,by rw [P5 h];omega⟩
        rw [←hs5]at Cm;have U7:=AqH Hv;clear hs5 Hv;(go_wp2_with fail);(with_reducible refine Cm.mono ?_);rintro e w5 ⟨rfl,Ay⟩;have iP:=Ae.trans Ay;have jy:=jx.trans iP;have Aha:=jy.cellS (cell_of_one WI);have di:dn*Y<=t:=Nat.le_of_not_lt EG;have Tk:=nk (pc 1000000000 t) (pc 1000000000 (dn*Y)) _ _ w5.drew ((gw _ (Xi.trans iP)).ext (Aa.refl w5).drew) ((hp.ext Ay).ext (Aa.refl w5).drew) (by rw [←HN.out];omega) (Bl b9 t) (Bl b9 _) (Ue di) (by rw [AZ b9,AZ b9];exact di);rw [AZ b9,AZ b9]at Tk;have O9:=AC hown2 (Xi.trans iP);have Ju:vs.length=xs.length:=HLEN.out;have pE:=AqH Ju
        go_upto_region 29 with fail
        clear Ju;refine wp_region_noPanic ?_
        go_region_with (go_at_call 336;((with_reducible refine Tk.mono ?_);rintro e w6 ⟨v6,rfl,⟨A6,c6,rfl,EL⟩,Aw,eH⟩;have HF6:=AqH eH;clear eH;have Ap8:=Aw.cellS (show w5.drew.cell? ⟨w.heap.size+1,0,none⟩=_ from Aha);have Qn:=AC (XV O9) Aw;have hgo:w6.cell? ⟨wb.heap.size,j,none⟩=some (.int .u64 (Ah vs j:Nat)):=(by rw [Qn.cellAt j (by omega)];simp [Bi,Ah,pE.out,WF]);have Qc:=Qn.frozenAt j))
        all_goals refine NoPanic.normal ?_
        all_goals go_wp2
        all_goals
         go_roundw
         case rel=>
          have Ahr:wb.heap.size<w5.heap.size:=World.block_lt_of_cell? w5 ⟨wb.heap.size,j,none⟩ (u:=.int .u64 (Ah vs j:Nat)) (by rw [O9.cellAt j (by omega)];simp [Bi,Ah,pE.out,WF]);obtain rfl:=U7.out;have Xa:=(Qn.stored j (.int .u64 ((t/Y:Nat):Int))).1;rw [Y0]at Xa;rw [show t-t/Y*Y=t%Y by rw [Nat.mod_eq_sub_mul_div,Nat.mul_comm]]at EL ⊢;refine⟨j,vs.set j (t/Y),t%Y,_,by go_num,rfl,hst,fun i hi=>?_,⟨A6,c6,rfl,EL.setOther _ (fun b o _ hb=>?_)⟩,Xa,?_⟩
          ·have h:=Km i (by omega);simp only [Ah,List.getD_eq_getElem?_getD,List.getElem?_set_ne (show j≠i by omega)]at h ⊢;exact h
          ·have h:w5.heap.size<=b:=HF6.out b (by rw [hb];rfl);show b≠wb.heap.size;omega
          ·exact((jy.drew).trans Aw).setCell (by show wb.heap.size<=wb.heap.size;omega) _
         case measure=>simp [intOf]
   ·obtain rfl:k=0:=(by omega);obtain rfl:z = -1:=(by omega);obtain⟨hq,hr⟩:=hI.done;rw [HXS.out,AZ b9]at hq hr;rw [HX.out,HY.out,Nat.mul_div_mul_right _ _ hf0]at hq;rw [HX.out,HY.out,Nat.mul_mod_mul_right]at hr;have ik:rn/f=x%y:=(by rw [hr,Nat.mul_div_cancel _ hf0]);have eh:=hI.lt;have HQ:=AqH hq;have NL:=AqH ik;clear hz hq hr ik Km;have Ta:=Ac.cellS (cell_of_one WI)
    have Tu:BI wr (some ⟨wb.heap.size,0,none⟩) xs.length vs:=by obtain⟨A',c',e1,h1⟩:=Rd.of_own (base:=wb.heap.size) (l:=vs) (by rw [hI.len];exact hown) (by rw [hI.len];omega);simp only [Value.slice.injEq]at e1;obtain⟨rfl,_,rfl⟩:=e1;exact h1
    have I5:BI (wr.alloc (.cells #[.int .u64 (f:Nat)] 184)) (some ⟨wr.heap.size,0,none⟩) 1 (pc 1000000000 f):=by
     have h:BI (wr.alloc (.cells #[.int .u64 (f:Nat)] 184)) (some ⟨wr.heap.size,0,none⟩) 1 [f]:=
      ⟨by simp,by omega,by simp,fun _=>⟨wr.heap.size,0,rfl,fun j hj=>by
       obtain rfl:j=0:=by simpa using hj
       rw [World.cell?_alloc_at _ _ _ _ (by rfl)];simp [Ah]⟩⟩
     rw [lA b9 hf0 Qb];exact h
    have SS:=tZ rn f hf0 Qb _ _ _ (DI.ext ((Aa.refl wr).alloc _)) ⟨_,_,rfl,I5⟩;rw [lA b9 hf0 Qb]at SS;simp only [List.length_singleton]at SS;simp only [←HFE.out]at SS;(go_wp2_with fail);(with_reducible refine SS.mono ?_);rintro e w7 ⟨vq,vr,rfl,iM,Xh,Aw⟩;clear Xh SS;have Xj:=((Aa.refl wr).alloc (.cells #[.int .u64 (1000000000/(tp+1))] 184)).trans Aw;have eW:=Xj.cellS Ta;have ip:=Tu.ext Xj;have Ap6:=free_of_one ((Xj.block _ (by have:=Ac.size;omega)).trans ((Ac.block _ Gp).trans WI));have ht:=QV vs _ _ w7 ip eh;rw [hI.len]at ht;(go_wp2_with fail);(with_reducible refine ht.mono ?_);rintro e w8 ⟨rfl,rfl⟩;go_wp2;refine bodyPost_ret (v:=.tuple #[.slice (some ⟨wb.heap.size,0,none⟩) (pc 1000000000 (Ag 1000000000 vs)).length xs.length,vq]) (by simp [results,Tryz.results278,go_sem,eW]) rfl ?_;refine⟨_,_,rfl,⟨_,_,by rw [HQ.out],?_⟩,?_,?_⟩
    ·rw [←HQ.out];exact(ip.pc eh).setCell eW (by simp)
    ·rw [←NL.out];exact iM.setCell eW (by simp)
    ·exact((hxb.trans Ac).trans Xj).setCell (by show w.heap.size<=w.heap.size+1;omega) _
theorem Vs(x y:Nat)(hy:0<y)(hlx:(pc 1000000000 x).length<39000)(u v:Value)(w:World)(hu:Rd w u (pc 1000000000 x))(hv:Rd w v (pc 1000000000 y)) :
  Calls Tryz.prog 278 #[u,v] w (Po (x/y) (x%y) w):=by
 rcases Nat.lt_or_ge x y with h|h
 ·rw [Nat.div_eq_of_lt h,Nat.mod_eq_of_lt h];exact tY x y h u v w hu hv
 ·rcases Nat.lt_or_ge y 1000000000 with h2|h2
  ·exact tZ x y hy h2 u v w hu hv
  ·exact Aes x y h h2 hlx u v w hu hv
end Go.Proofs.YtjalkoacphhgdaaGreatDoor
namespace Go.Proofs.YtjalkoacphhgdaaGreatDoor
open Go.RowKit Kl
theorem Ale{n k:Nat}(h:n<10^(9*k)):(pc 1000000000 n).length<=k:=by
 refine OO b9 ?_;rw [Nat.pow_mul]at h;exact h
theorem Aj4{x a b:Nat}(h:x<10^a)(hab:a<=b):x<10^b:=AqT h (Nat.pow_le_pow_right (by omega) hab)
theorem AE.pc{z:Int}(h:AE z):(pc 1000000000 z.natAbs).length<=445:=by
 obtain⟨m,hm⟩:=AqG (445);rw [←hm];exact Ale (Aj4 h (show Vb<=9*m by rw [hm];decide))
theorem M7(m:Bool)(x:Nat):Ey m x=I (if m then -(x:Int)else x):=by
 unfold Ey;by_cases h:x=0
 ·subst h;rw [if_pos rfl];cases m<;>simp [Ry]
 ·rw [if_neg h]
  cases m
  ·rw [if_neg (by simp),if_neg (by simp),Ec]
  ·rw [if_pos rfl,if_pos rfl,UK x (by omega)]
theorem LS{z:Int}{k:Nat}(h:(I z).length<=k):OP z k=.tuple #[.int .i64 z,.bool true]:=if_pos h
theorem QL{z:Int}{k:Nat}(h:¬(I z).length<=k):OP z k=.tuple #[.int .i64 0,.bool false]:=if_neg h
theorem Yc(z:Int)(w:World):Calls Tryz.prog 223 #[S (I z),.int .i64 9] w (De (OP z 9) w):=vd z 9 (by omega) w
theorem NA(z:Int)(w:World):Calls Tryz.prog 223 #[S (I z),.int .i64 18] w (De (OP z 18) w):=vd z 18 (by omega) w
theorem Kw{z:Int}{k:Nat}(h:(I z).length<=k):z.natAbs<10^k:=by
 rcases DO z with⟨n,rfl,e⟩|⟨n,hn,rfl,e⟩
 ·rw [e]at h;simpa using Ko (n:=n) (k:=k) (by omega)
 ·rw [e,List.length_cons]at h;simpa using Ko (n:=n) (k:=k) (by omega)
theorem J8{x y:Int}(hx:x.natAbs<1000000000)(hy:y.natAbs<1000000000):IntKind.i64.wrap (x*y)=x*y:=by
 have h:=TQ hx hy;rw [←Int.natAbs_mul]at h;exact AqQ _ (by omega)
theorem AjU{x y:Int}(hx:x.natAbs<1000000000)(hy:y.natAbs<1000000000):-9223372036854775808<=x*y/\x*y<=9223372036854775807:=by
 have h:=TQ hx hy;rw [←Int.natAbs_mul]at h;omega
theorem AjV(x y:Int):x*y=if (decide (x<0) != decide (y<0))=true then -((x.natAbs*y.natAbs:Nat):Int)else ((x.natAbs*y.natAbs:Nat):Int):=by
 rw [←Int.natAbs_mul];by_cases hx:x<0<;>by_cases hy:y<0<;>simp [hx,hy]
 ·have:=Int.mul_nonneg_of_nonpos_of_nonpos (Int.le_of_lt hx) (Int.le_of_lt hy);omega
 ·have:=Int.mul_nonpos_of_nonpos_of_nonneg (Int.le_of_lt hx) (show 0<=y by omega);omega
 ·have:=Int.mul_nonpos_of_nonneg_of_nonpos (show 0<=x by omega) (Int.le_of_lt hy);omega
 ·have:=Int.mul_nonneg (show 0<=x by omega) (show 0<=y by omega);omega
theorem Aiy(x y:Int)(hx:(I x).length<=9)(hy:(I y).length<=9)(w:World)(hw:Am w) :
  Calls Tryz.prog 146 #[S (I x),S (I y)] w (Bg (I (x*y)) w):=by
 have q1:=Yc x;have q2:=Yc y;rw [LS hx]at q1;rw [LS hy]at q2;have b1:=Kw hx;have b2:=Kw hy;have hwr:=J8 b1 b2;have hin:=AjU b1 b2;have ho:=fun W hW=>iY (x*y) hin.1 hin.2 W hW;clear hx hy b1 b2 hin;go_enter Tryz.func146,Tryz.ntmps146;(go_wp2_with fail);(with_reducible refine(q1 _).mono ?_);rintro e w1 ⟨rfl,hx1⟩;(go_wp2_with fail);(with_reducible refine(q2 _).mono ?_);rintro e w2 ⟨rfl,hx2⟩;have Ch:=hx1.trans hx2;(go_wp2_with fail);(with_reducible refine(ho _ (hw.ext Ch)).mono ?_);rintro e w3 ⟨rfl,hx3⟩;go_wp2;go_ret;exact⟨rfl,Ch.trans hx3⟩
theorem Ab{W:World}{b o:Nat}{cs:Array Value}{t:TypeId}{fz:Nat×Nat}{v:Value}(h:W.heap[b]?=some (.cells cs t fz))(hv:cs[o]?=some v):W.cell? ⟨b,o,none⟩=some v:=by
 unfold World.cell?;simp [h,hv]
theorem Mz(w:World)(a b c d:Value)(s t:TypeId):∃W,W=(w.alloc (.cells #[a,b] s)).alloc (.cells #[c,d] t)/\Aa w W/\W.heap[w.heap.size]?=some (.cells #[a,b] s)/\W.heap[w.heap.size+1]?=some (.cells #[c,d] t):=by
 refine⟨_,rfl,((Aa.refl _).alloc _).alloc _,(Below.heap_alloc _ _ _ (by simp)).trans (AqJ w _),?_⟩;have h:=AqJ (w.alloc (.cells #[a,b] s)) (.cells #[c,d] t)
 rwa [AqR]at h
theorem Aix(x y:Int)(hx:AE x)(hy:AE y)(hn:¬((I x).length<=9/\(I y).length<=9))(w:World)(hw:Am w) :
  Calls Tryz.prog 146 #[S (I x),S (I y)] w (Bg (I (x*y)) w):=by
 have q1:=Yc x;have q2:=Yc y;have lx:=hx.pc;have ly:=hy.pc;have o1:=kP x hx;have o2:=kP y hy;have HS:Hid (x*y=if (!(decide (x<0) == decide (y<0)))=true then -((x.natAbs*y.natAbs:Nat):Int)else ((x.natAbs*y.natAbs:Nat):Int)):=AqH (AjV x y);clear hx hy;by_cases h1:(I x).length<=9
 case' pos=>rw [LS h1]at q1;rw [QL fun h=>hn ⟨h1,h⟩]at q2;clear h1 hn;go_enter Tryz.func146,Tryz.ntmps146;(go_wp2_with fail);(with_reducible refine(q1 _).mono ?_);rintro e w1 ⟨rfl,hx1⟩;(go_wp2_with fail);(with_reducible refine(q2 _).mono ?_);rintro e w2 ⟨rfl,hx2⟩;have hx:=hx1.trans hx2;clear hx1 hx2;(go_wp2_with fail)
 case' neg=>rw [QL h1]at q1;clear h1 hn;go_enter Tryz.func146,Tryz.ntmps146;(go_wp2_with fail);(with_reducible refine(q1 _).mono ?_);rintro e w2 ⟨rfl,hx⟩;(go_wp2_with fail)
 all_goals
  clear q1 q2;(with_reducible refine(o1 _).mono ?_);rintro e w3 ⟨v3,rfl,⟨A3,c3,rfl,hv3⟩,hx3⟩;(go_wp2_with fail);(with_reducible refine(o2 _).mono ?_);rintro e w4 ⟨v4,rfl,⟨A4,c4,rfl,hv4⟩,Ai⟩;have hx:=(hx.trans hx3).trans Ai;have hv3:=hv3.ext Ai;clear o1 o2 hx3 Ai;(go_wp2_with fail);obtain⟨W,hW,hE,hb1,hb2⟩:=Mz w4 (.bool (decide (x<0))) (.slice A3 (pc 1000000000 x.natAbs).length c3) (.bool (decide (y<0))) (.slice A4 (pc 1000000000 y.natAbs).length c4) 280 280;rw [←hW];have hv3:=hv3.ext hE.drew;have hv4:=hv4.ext hE.drew;have Bn:=hx.trans hE;have k1:W.cell? ⟨w4.heap.size,0,none⟩=some (.bool (decide (x<0))):=Ab hb1 rfl;have k2:W.cell? ⟨w4.heap.size,1,none⟩=some (.slice A3 (pc 1000000000 x.natAbs).length c3):=Ab hb1 rfl;have k3:W.cell? ⟨w4.heap.size+1,0,none⟩=some (.bool (decide (y<0))):=Ab hb2 rfl;have k4:W.cell? ⟨w4.heap.size+1,1,none⟩=some (.slice A4 (pc 1000000000 y.natAbs).length c4):=Ab hb2 rfl;clear hW hb1 hb2 hE hx;have ht:=AnP (pc 1000000000 x.natAbs) (pc 1000000000 y.natAbs) _ _ W.drew ⟨_,_,rfl,hv3⟩ ⟨_,_,rfl,hv4⟩ (by omega) (by omega) (Bl b9 _) (Bl b9 _);rw [AZ b9,AZ b9]at ht;have hc:=fun W2 (A5:Option Addr) (c5:Nat) (h:Aa W.drew W2) (h2:BI W2 A5 c5 (pc 1000000000 (x.natAbs*y.natAbs)))=>Fa (!(decide (x<0) == decide (y<0))) (x.natAbs*y.natAbs) (.slice A5 (pc 1000000000 (x.natAbs*y.natAbs)).length c5) W2 (hw.ext (Bn.drew.trans h)) ⟨A5,c5,rfl,h2⟩;rw [M7,←HS.out]at hc
  go_region_held3 (fun w'=>w'.cell? ⟨w4.heap.size,0,none⟩=some (.bool (decide (x<0)))/\w'.cell? ⟨w4.heap.size,1,none⟩=some (.slice A3 (pc 1000000000 x.natAbs).length c3)/\w'.cell? ⟨w4.heap.size+1,0,none⟩=some (.bool (decide (y<0)))/\w'.cell? ⟨w4.heap.size+1,1,none⟩=some (.slice A4 (pc 1000000000 y.natAbs).length c4))
   (first|go_keep|exact⟨Ae.cellS k1,Ae.cellS k2,Ae.cellS k3,Ae.cellS k4⟩|exact⟨(Ae.trans Ay).cellS k1,(Ae.trans Ay).cellS k2,(Ae.trans Ay).cellS k3,(Ae.trans Ay).cellS k4⟩)
   (first|((with_reducible refine ht.mono ?_);rintro e w5 ⟨v5,rfl,⟨A5,c5,rfl,hv5⟩,Ae⟩)|((with_reducible refine(hc _ _ _ Ae hv5).mono ?_);rintro e w6 ⟨rfl,Ay⟩))
  go_wp2;go_ret;exact⟨rfl,(Bn.drew.trans Ae).trans Ay⟩
theorem GG(x y:Int)(hx:AE x)(hy:AE y)(w:World)(hw:Am w):Calls Tryz.prog 146 #[S (I x),S (I y)] w (Bg (I (x*y)) w):=by
 by_cases h:(I x).length<=9/\(I y).length<=9
 ·exact Aiy x y h.1 h.2 w hw
 ·exact Aix x y hx hy h w hw
def AbO(s:Bool)(n:Nat)(w:World)(e:Ending)(w':World):Prop:=∃A c,e=.returned (.agg #[.bool s,.slice A (pc 1000000000 n).length c])/\BI w' A c (pc 1000000000 n)/\Aa w w'
theorem Kt(z:Int)(hz:AE z)(s:Bool)(hs:s=decide (z<0))(w:World):Calls Tryz.prog 225 #[S (I z)] w (AbO s z.natAbs w):=by
 subst hs;refine(kP z hz w).mono ?_;rintro e w' ⟨v,rfl,⟨A,c,rfl,h⟩,hx⟩;exact⟨A,c,rfl,h,hx⟩
theorem BI.rd{w:World}{A:Option Addr}{c:Nat}{l:List Nat}(h:BI w A c l):Rd w (.slice A l.length c) l:=⟨A,c,rfl,h⟩
theorem LO{a b:Nat}(h:a<=b):(pc 1000000000 a).length<=(pc 1000000000 b).length:=Ue h
structure OW(W:World)(b:Nat)(sx sy:Bool)(v u:Value):Prop where
 k1:W.cell? ⟨b,0,none⟩=some (.bool sx)
 k2:W.cell? ⟨b,1,none⟩=some v
 k3:W.cell? ⟨b+1,0,none⟩=some (.bool sy)
 k4:W.cell? ⟨b+1,1,none⟩=some u
theorem OW.ext{W W':World}{b:Nat}{sx sy:Bool}{v u:Value}(h:OW W b sx sy v u)(hx:Aa W W'):OW W' b sx sy v u:=
 ⟨hx.cellS h.k1,hx.cellS h.k2,hx.cellS h.k3,hx.cellS h.k4⟩
theorem AK{W:World}{b o:Nat}{cs:Array Value}{t:TypeId}(h:W.heap[b]?=some (.cells cs t)):W.frozen? ⟨b,o,none⟩=false:=by unfold World.frozen?;simp [h]
structure Kept(w5 V:World)(b:Nat):Prop where
 ext:∀w0,Aa w0 w5→w0.heap.size<=b→Aa w0 V
 rd:∀A c l,BI w5 A c l→BI V A c l
theorem Kept.refl(w:World)(b:Nat):Kept w w b:=⟨fun _ h _=>h,fun _ _ _ h=>h⟩
theorem Kept.set{w5 V:World}{b k o:Nat}(h:Kept w5 V b)(hk:b<=k){v u:Value}(hv:V.cell? ⟨k,o,none⟩=some v)(hn:∀n,v≠.int .u64 n):Kept w5 (V.setCell ⟨k,o,none⟩ u) b:=
 ⟨fun w0 h0 hb=>(h.ext w0 h0 hb).setCell (by show w0.heap.size<=k;omega) _,fun A c l hr=>(h.rd A c l hr).setCell hv hn⟩
theorem AnD{w:World}{b:Nat}{sx sy:Bool}{A3 A4:Option Addr}{n3 n4 c3 c4:Nat}(h:OW w b sx sy (.slice A3 n3 c3) (.slice A4 n4 c4)) :
  ∃V,V=(((w.setCell ⟨b,0,none⟩ (.bool sy)).setCell ⟨b,1,none⟩ (.slice A4 n4 c4)).setCell ⟨b+1,0,none⟩ (.bool sx)).setCell ⟨b+1,1,none⟩ (.slice A3 n3 c3)/\
   OW V b sy sx (.slice A4 n4 c4) (.slice A3 n3 c3)/\Kept w V b:=by
 obtain⟨k1,k2,k3,k4⟩:=h;have e1:=World.cell?_setCell_same w _ (.bool sy) k1;have e2:(w.setCell ⟨b,0,none⟩ (.bool sy)).cell? ⟨b,1,none⟩=_:=(World.cell?_setCell_other _ _ _ _ (by simp)).trans k2;have e3:(w.setCell ⟨b,0,none⟩ (.bool sy)).cell? ⟨b+1,0,none⟩=_:=(World.cell?_setCell_other _ _ _ _ (by simp)).trans k3;have e4:(w.setCell ⟨b,0,none⟩ (.bool sy)).cell? ⟨b+1,1,none⟩=_:=(World.cell?_setCell_other _ _ _ _ (by simp)).trans k4;have z1:=(Kept.refl w b).set (AqK b) (u:=.bool sy) k1 (by simp);have z2:=z1.set (AqK b) (u:=.slice A4 n4 c4) e2 (by simp);have f1:=(World.cell?_setCell_other (w.setCell ⟨b,0,none⟩ (.bool sy)) ⟨b,1,none⟩ ⟨b,0,none⟩ (.slice A4 n4 c4) (by simp)).trans e1;have f2:=World.cell?_setCell_same (w.setCell ⟨b,0,none⟩ (.bool sy)) _ (.slice A4 n4 c4) e2;have f3:=(World.cell?_setCell_other (w.setCell ⟨b,0,none⟩ (.bool sy)) ⟨b,1,none⟩ ⟨b+1,0,none⟩ (.slice A4 n4 c4) (by simp)).trans e3;have f4:=(World.cell?_setCell_other (w.setCell ⟨b,0,none⟩ (.bool sy)) ⟨b,1,none⟩ ⟨b+1,1,none⟩ (.slice A4 n4 c4) (by simp)).trans e4;generalize (w.setCell ⟨b,0,none⟩ (.bool sy)).setCell ⟨b,1,none⟩ (.slice A4 n4 c4)=W at *;have z3:=z2.set (show b<=b+1 by omega) (u:=.bool sx) f3 (by simp);have g1:=(World.cell?_setCell_other W ⟨b+1,0,none⟩ ⟨b,0,none⟩ (.bool sx) (by simp)).trans f1;have g2:=(World.cell?_setCell_other W ⟨b+1,0,none⟩ ⟨b,1,none⟩ (.bool sx) (by simp)).trans f2;have g3:=World.cell?_setCell_same W _ (.bool sx) f3;have g4:=(World.cell?_setCell_other W ⟨b+1,0,none⟩ ⟨b+1,1,none⟩ (.bool sx) (by simp)).trans f4;generalize W.setCell ⟨b+1,0,none⟩ (.bool sx)=X at *;exact⟨_,rfl,⟨(World.cell?_setCell_other X _ _ _ (by simp)).trans g1,(World.cell?_setCell_other X _ _ _ (by simp)).trans g2,(World.cell?_setCell_other X _ _ _ (by simp)).trans g3,World.cell?_setCell_same X _ _ g4⟩,z3.set (by omega) g4 (by simp)⟩
theorem AbW{x y:Int}(h:decide (x<0)=decide (y<0)):(if decide (x<0)=true then -((x.natAbs+y.natAbs:Nat):Int)else ((x.natAbs+y.natAbs:Nat):Int))=x+y:=by
 by_cases hx:x<0<;>by_cases hy:y<0<;>simp [hx,hy]at h ⊢<;>omega
theorem qG{x y:Int}(h:decide (x<0)≠decide (y<0))(hl:y.natAbs<=x.natAbs):(if decide (x<0)=true then -((x.natAbs-y.natAbs:Nat):Int)else ((x.natAbs-y.natAbs:Nat):Int))=x+y:=by
 by_cases hx:x<0<;>by_cases hy:y<0<;>simp [hx,hy]at h ⊢<;>omega
theorem Ait(x y:Int)(hx:(I x).length<=18)(hy:(I y).length<=18)(w:World)(hw:Am w) :
  Calls Tryz.prog 331 #[S (I x),S (I y)] w (Bg (I (x+y)) w):=by
 have q1:=NA x;have q2:=NA y;rw [LS hx]at q1;rw [LS hy]at q2;have b1:=Kw hx;have b2:=Kw hy;have e18:(10:Nat)^18=1000000000000000000:=(by decide);rw [e18]at b1 b2;have hwr:IntKind.i64.wrap (x+y)=x+y:=AqQ _ (by omega);have ho:=fun W hW=>iY (x+y) (by omega) (by omega) W hW;clear hx hy b1 b2 e18;go_enter Tryz.func331,Tryz.ntmps331;(go_wp2_with fail);(with_reducible refine(q1 _).mono ?_);rintro e w1 ⟨rfl,hx1⟩;(go_wp2_with fail);(with_reducible refine(q2 _).mono ?_);rintro e w2 ⟨rfl,hx2⟩;have Ch:=hx1.trans hx2;(go_wp2_with fail);(with_reducible refine(ho _ (hw.ext Ch)).mono ?_);rintro e w3 ⟨rfl,hx3⟩;go_wp2;go_ret;exact⟨rfl,Ch.trans hx3⟩
theorem Ais(x y:Int)(hx:AE x)(hy:AE y)(hn:¬((I x).length<=18/\(I y).length<=18))(w:World)(hw:Am w) :
  Calls Tryz.prog 331 #[S (I x),S (I y)] w (Bg (I (x+y)) w):=by
 have q1:=NA x;have q2:=NA y;have lx:=hx.pc;have ly:=hy.pc;obtain⟨sx,EK⟩:=AqG (decide (x<0));obtain⟨sy,Dz⟩:=AqG (decide (y<0));have o1:=Kt x hx sx EK;have o2:=Kt y hy sy Dz;have m1:=@AbW x y;have m2:=@qG x y;have m3:=@qG y x;rw [←EK,←Dz]at m1 m2 m3;rw [Int.add_comm y x]at m3;clear hx hy EK Dz;by_cases h1:(I x).length<=18
 case' pos=>rw [LS h1]at q1;rw [QL fun h=>hn ⟨h1,h⟩]at q2;clear h1 hn;have M1:=AqH m1;have M2:=AqH m2;have M3:=AqH m3;clear m1 m2 m3;go_enter Tryz.func331,Tryz.ntmps331;(go_wp2_with fail);(with_reducible refine(q1 _).mono ?_);rintro e w1 ⟨rfl,hx1⟩;(go_wp2_with fail);(with_reducible refine(q2 _).mono ?_);rintro e w2 ⟨rfl,hx2⟩;have hx:=hx1.trans hx2;clear hx1 hx2;(go_wp2_with fail)
 case' neg=>rw [QL h1]at q1;clear h1 hn;have M1:=AqH m1;have M2:=AqH m2;have M3:=AqH m3;clear m1 m2 m3;go_enter Tryz.func331,Tryz.ntmps331;(go_wp2_with fail);(with_reducible refine(q1 _).mono ?_);rintro e w2 ⟨rfl,hx⟩;(go_wp2_with fail)
 all_goals
  clear q1 q2;(with_reducible refine(o1 _).mono ?_);rintro e w3 ⟨A3,c3,rfl,hv3,hx3⟩;(go_wp2_with fail);(with_reducible refine(o2 _).mono ?_);rintro e w4 ⟨A4,c4,rfl,hv4,Ai⟩;have hx:=(hx.trans hx3).trans Ai;have hv3:=hv3.ext Ai;clear o1 o2 hx3 Ai
  go_upto_region 7 with fail
  obtain⟨W,hW,hE,hb1,hb2⟩:=Mz w4 (.bool sx) (.slice A3 (pc 1000000000 x.natAbs).length c3) (.bool sy) (.slice A4 (pc 1000000000 y.natAbs).length c4) 280 280;rw [←hW];have hv3:=hv3.ext hE;have hv4:=hv4.ext hE;have Bn:=hx.trans hE;have k1:W.cell? ⟨w4.heap.size,0,none⟩=some (.bool sx):=Ab hb1 rfl;have k2:W.cell? ⟨w4.heap.size,1,none⟩=some (.slice A3 (pc 1000000000 x.natAbs).length c3):=Ab hb1 rfl;have k3:W.cell? ⟨w4.heap.size+1,0,none⟩=some (.bool sy):=Ab hb2 rfl;have k4:W.cell? ⟨w4.heap.size+1,1,none⟩=some (.slice A4 (pc 1000000000 y.natAbs).length c4):=Ab hb2 rfl;have I9:w.heap.size<=w4.heap.size:=hx.size;clear hW hE hx;by_cases hs:sx=sy
  ·subst hs;have hm:=M1.out rfl;have HM:=AqH hm;clear hm M1 M2 M3;(go_wp2_with fail);have ht:=lC (pc 1000000000 x.natAbs) (pc 1000000000 y.natAbs) _ _ W.drew (hv3.ext (Aa.refl W).drew).rd (hv4.ext (Aa.refl W).drew).rd (by omega) (by omega) (Bl b9 _) (Bl b9 _);rw [AZ b9,AZ b9]at ht;have hc:=fun W2 v2 (h:Aa W.drew W2) (h2:Rd W2 v2 _)=>Fa sx (x.natAbs+y.natAbs) v2 W2 (hw.ext (Bn.drew.trans h)) h2;rw [M7,HM.out]at hc
   go_region_held3 (fun w'=>w'.cell? ⟨w4.heap.size,0,none⟩=some (.bool sx)/\w'.cell? ⟨w4.heap.size,1,none⟩=some (.slice A3 (pc 1000000000 x.natAbs).length c3)/\w'.cell? ⟨w4.heap.size+1,0,none⟩=some (.bool sx)/\w'.cell? ⟨w4.heap.size+1,1,none⟩=some (.slice A4 (pc 1000000000 y.natAbs).length c4))
    (first|go_keep|exact⟨Ae.cellS k1,Ae.cellS k2,Ae.cellS k3,Ae.cellS k4⟩|exact⟨(Ae.trans Ay).cellS k1,(Ae.trans Ay).cellS k2,(Ae.trans Ay).cellS k3,(Ae.trans Ay).cellS k4⟩)
    (first|((with_reducible refine ht.mono ?_);rintro e w5 ⟨v5,rfl,⟨A5,c5,rfl,hv5⟩,Ae⟩)|((with_reducible refine(hc _ _ Ae hv5.rd).mono ?_);rintro e w6 ⟨rfl,Ay⟩))
   go_wp2;go_ret;exact⟨rfl,(Bn.drew.trans Ae).trans Ay⟩
  ·have CO:(sx == sy)=false:=(by rw [beq_eq_false_iff_ne];exact hs);have Zk:=AqH (M2.out hs);have Zl:=AqH (M3.out (Ne.symm hs));clear hs M1 M2 M3;have ho:=QA (pc 1000000000 x.natAbs) (pc 1000000000 y.natAbs) _ _ W hv3.rd hv4.rd (Bl b9 _) (Bl b9 _) (Gv b9 _) (Gv b9 _);rw [AZ b9,AZ b9]at ho;by_cases hl:x.natAbs<y.natAbs
   ·rw [M8 hl]at ho;have HM:=AqH (Zl.out (Nat.le_of_lt hl));clear Zk Zl;(go_wp2_with fail);(with_reducible refine ho.mono ?_);rintro e w5 ⟨rfl,Ae⟩;have g1:=Ae.cellS k1;have g2:=Ae.cellS k2;have g3:=Ae.cellS k3;have g4:=Ae.cellS k4;have j1:=fun o=>AK (o:=o) ((Ae.block _ (AqI hb1)).trans hb1);have j2:=fun o=>AK (o:=o) ((Ae.block _ (AqI hb2)).trans hb2);(go_wp2_with fail);obtain⟨V,hV,hB,hK⟩:=AnD (OW.mk g1 g2 g3 g4);rw [←hV];have LD:Aa w V:=hK.ext w (Bn.trans Ae) I9;have hv3:=hK.rd _ _ _ (hv3.ext Ae);have hv4:=hK.rd _ _ _ (hv4.ext Ae);have g1:=hB.k1;have g2:=hB.k2;have g3:=hB.k3;have g4:=hB.k4;clear hV j1 j2 hB hK Ae Bn k1 k2 k3 k4 hb1 hb2 ho;have ht:=TP (pc 1000000000 y.natAbs) (pc 1000000000 x.natAbs) _ _ V.drew (hv4.ext (Aa.refl V).drew).rd (hv3.ext (Aa.refl V).drew).rd (by omega) (Bl b9 _) (Bl b9 _) (LO (Nat.le_of_lt hl)) (by rw [AZ b9,AZ b9];exact Nat.le_of_lt hl);rw [AZ b9,AZ b9]at ht;have hc:=fun W2 v2 (h:Aa V.drew W2) (h2:Rd W2 v2 _)=>Fa sy (y.natAbs-x.natAbs) v2 W2 (hw.ext (LD.drew.trans h)) h2;rw [M7,HM.out]at hc
    go_region_held3 (fun w'=>w'.cell? ⟨w4.heap.size,0,none⟩=some (.bool sy)/\w'.cell? ⟨w4.heap.size,1,none⟩=some (.slice A4 (pc 1000000000 y.natAbs).length c4)/\w'.cell? ⟨w4.heap.size+1,0,none⟩=some (.bool sx)/\w'.cell? ⟨w4.heap.size+1,1,none⟩=some (.slice A3 (pc 1000000000 x.natAbs).length c3))
     (first|go_keep|exact⟨Ae.cellS g1,Ae.cellS g2,Ae.cellS g3,Ae.cellS g4⟩|exact⟨(Ae.trans Ay).cellS g1,(Ae.trans Ay).cellS g2,(Ae.trans Ay).cellS g3,(Ae.trans Ay).cellS g4⟩)
     (first|((with_reducible refine ht.mono ?_);rintro e w5 ⟨v5,rfl,⟨A5,c5,rfl,hv5⟩,Ae⟩)|((with_reducible refine(hc _ _ Ae hv5.rd).mono ?_);rintro e w6 ⟨rfl,Ay⟩))
    go_wp2;go_ret;exact⟨rfl,(LD.drew.trans Ae).trans Ay⟩
   ·have hge:y.natAbs<=x.natAbs:=Nat.le_of_not_lt hl
    obtain⟨s,hs,hs0⟩:∃s:Int,s=DW x.natAbs y.natAbs/\¬s<0:=by
     rcases Nat.lt_or_eq_of_le hge with h|h
     ·exact⟨_,rfl,by rw [KV h];omega⟩
     ·exact⟨_,rfl,by rw [P5 h.symm];omega⟩
    rw [←hs]at ho;have HM:=AqH (Zk.out hge);clear Zk Zl hs hl;(go_wp2_with fail);(with_reducible refine ho.mono ?_);rintro e w5 ⟨rfl,Ae⟩;have g1:=Ae.cellS k1;have g2:=Ae.cellS k2;have g3:=Ae.cellS k3;have g4:=Ae.cellS k4;(go_wp2_with fail);have LD:=Bn.trans Ae;have hv3:=hv3.ext Ae;have hv4:=hv4.ext Ae;clear Ae Bn k1 k2 k3 k4 hb1 hb2 ho;have ht:=TP (pc 1000000000 x.natAbs) (pc 1000000000 y.natAbs) _ _ w5.drew (hv3.ext (Aa.refl w5).drew).rd (hv4.ext (Aa.refl w5).drew).rd (by omega) (Bl b9 _) (Bl b9 _) (LO hge) (by rw [AZ b9,AZ b9];exact hge);rw [AZ b9,AZ b9]at ht;have hc:=fun W2 v2 (h:Aa w5.drew W2) (h2:Rd W2 v2 _)=>Fa sx (x.natAbs-y.natAbs) v2 W2 (hw.ext (LD.drew.trans h)) h2;rw [M7,HM.out]at hc
    go_region_held3 (fun w'=>w'.cell? ⟨w4.heap.size,0,none⟩=some (.bool sx)/\w'.cell? ⟨w4.heap.size,1,none⟩=some (.slice A3 (pc 1000000000 x.natAbs).length c3)/\w'.cell? ⟨w4.heap.size+1,0,none⟩=some (.bool sy)/\w'.cell? ⟨w4.heap.size+1,1,none⟩=some (.slice A4 (pc 1000000000 y.natAbs).length c4))
     (first|go_keep|exact⟨Aw.cellS g1,Aw.cellS g2,Aw.cellS g3,Aw.cellS g4⟩|exact⟨(Aw.trans Ay).cellS g1,(Aw.trans Ay).cellS g2,(Aw.trans Ay).cellS g3,(Aw.trans Ay).cellS g4⟩)
     (first|((with_reducible refine ht.mono ?_);rintro e w7 ⟨v5,rfl,⟨A5,c5,rfl,hv5⟩,Aw⟩)|((with_reducible refine(hc _ _ Aw hv5.rd).mono ?_);rintro e w6 ⟨rfl,Ay⟩))
    go_wp2;go_ret;exact⟨rfl,(LD.drew.trans Aw).trans Ay⟩
theorem kg(x y:Int)(hx:AE x)(hy:AE y)(w:World)(hw:Am w):Calls Tryz.prog 331 #[S (I x),S (I y)] w (Bg (I (x+y)) w):=by
 by_cases h:(I x).length<=18/\(I y).length<=18
 ·exact Ait x y h.1 h.2 w hw
 ·exact Ais x y hx hy h w hw
end Go.Proofs.YtjalkoacphhgdaaGreatDoor
