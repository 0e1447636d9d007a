/- Z17: Div3 Int8 IntA. -/
import Derived.Test.YtjalkoacphhgdaaGreatDoorZ15
import Derived.Deep.DeepCutAuto
set_option maxRecDepth 100000
set_option maxHeartbeats 4000000
namespace Go.Proofs.YtjalkoacphhgdaaGreatDoor
open Go.RowKit Kl Go.Shelf
theorem Rd.setCell{w:World}{v0:Value}{l:List Nat}(h:Rd w v0 l){p:Addr}{v u:Value}(hp:w.cell? p=some v)(hv:∀n,v≠.int .u64 n):Rd (w.setCell p u) v0 l:=by
 obtain⟨A,c,e,h⟩:=h;exact⟨A,c,e,h.setCell hp hv⟩
theorem BE.setOther{w:World}{A:Option Addr}{c:Nat}{l:List Nat}(h:BE w A c l){p:Addr}(u:Value)(hp:∀b o,0<l.length→A=some ⟨b,o,none⟩→b≠p.block):BE (w.setCell p u) A c l:=
 ⟨h.cap,h.max,h.len,fun h0=>by
  obtain⟨b,o,e,hc⟩:=h.ad h0;refine⟨b,o,e,fun j hj=>?_⟩;rw [World.cell?_setCell_other _ _ _ _ (fun e2=>hp b o h0 e (by rw [e2]))]
  exact hc j hj⟩
theorem Tj{a b:Nat}(h:a<=b):(pc 1000000000 a).length<=(pc 1000000000 b).length:=by
 refine Ob b9 ?_;have h1:=Ic (Bc b9 b);rw [AV b9]at h1;omega
theorem AhX{x f k:Nat}(h:(pc 1000000000 x).length<k)(hf:f<1000000000):(pc 1000000000 (x*f)).length<=k:=by
 refine Ob b9 ?_;have h1:=Ic (Bc b9 x);rw [AV b9]at h1
 have h2:(1000000000:Nat)^(pc 1000000000 x).length*1000000000<=1000000000^k:=by rw [←Nat.pow_succ];exact Nat.pow_le_pow_right (by omega) h
 exact Anx (Nat.mul_lt_mul'' h1 hf) h2
theorem Aj2{l:List Nat}{j y:Nat}(h:Ah l j=y)(hj:j<l.length):l.set j y=l:=by
 rw [←h];apply List.ext_getElem?;intro i;rw [List.getElem?_set]
 split
 ·next e=>subst e;simp [Ah,hj]
 ·rfl
def xx(wb:World)(xs:List Nat)(Y Q:Nat)(r i:Value)(wr:World):Prop:=
 ∃(k:Nat) (vs:List Nat) (rn:Nat) (z:Int),i=.int .i64 z/\z=(k:Int)-1/\It xs vs Y k rn/\(∀j,j<k→Ah vs j=0)/\Rd wr r (pc 1000000000 rn)
  /\wr.ownsRow Q 184 1 (.slice (some ⟨Q,0,none⟩) xs.length xs.length) xs.length (AZ vs)/\Aa wb wr
theorem AbK(x y:Nat)(VZ:y<=x)(SI:1000000000<=y)(hlx:(pc 1000000000 x).length<39000)(u v:Value)(w:World)(hu:Rd w u (pc 1000000000 x))(hv:Rd w v (pc 1000000000 y)) :
  Calls Tryz.prog 278 #[u,v] w (O6 (x/y) (x%y) w):=by
 have IL:=fun W hu hv=>PP (pc 1000000000 x) (pc 1000000000 y) u v W hu hv (Bc b9 x) (Bc b9 y) (FX b9 x) (FX b9 y)
 obtain⟨s,hs,hs0⟩:∃s:Int,s=D7 x y/\¬s<0:=by
  rcases Nat.lt_or_eq_of_le VZ with h|h
  ·exact⟨_,rfl,by rw [Kn h];omega⟩
  ·exact⟨_,rfl,by rw [OI h.symm];omega⟩
 rw [AV b9,AV b9,←hs]at IL;clear hs;have hx1:=((Aa.refl w).alloc (.cells #[v] 278)).alloc (.cells #[.slice none 0 0] 278);have ho:=IL _ (hu.ext hx1) (hv.ext hx1);clear IL;obtain⟨hm0,S9,-,-,-⟩:=Zc (y:=y) (t:=y) (Ano _) (by omega) (by omega)
 have II:2<=(pc 1000000000 y).length:=by
  rcases Nat.lt_or_ge (pc 1000000000 y).length 2 with h|h
  ·exfalso
   have h1:=Ic (Bc b9 y);rw [AV b9]at h1;have h2:(1000000000:Nat)^(pc 1000000000 y).length<=1000000000^1:=Nat.pow_le_pow_right (by omega) (by omega);omega
  ·exact h
 have EN:Ah (pc 1000000000 y) ((pc 1000000000 y).length-1)<1000000000:=Ce (Bc b9 y) (by omega);have NS:=hu;have dP:=hv;obtain⟨A,ca,e1,Cm⟩:=NS;obtain⟨B,cb,e2,BQ⟩:=dP;have FN:=BQ.len;have hcb:=BQ.cap;have Ss:=BQ.max;obtain⟨bb,ob,rfl,hcs⟩:=BQ.ad (by omega);have Dj:=hcs ((pc 1000000000 y).length-1) (by omega);clear hcs;obtain⟨m,hm⟩:=Ank ((pc 1000000000 y).length);obtain⟨tp,SA⟩:=Ank (Ah (pc 1000000000 y) (m-1));rw [←hm]at FN hcb II hm0 e2 Dj EN S9;rw [←SA]at S9 EN Dj;have HM:=Anl hm;have HT:=Anl SA;clear hm SA
 obtain⟨f,aV,hf0,Pm⟩:∃f:Nat,(1000000000:Int)/((tp:Int)+1)=(f:Int)/\0<f/\f<1000000000:=by refine⟨1000000000/(tp+1),by simp,Nat.div_pos (by omega) (by omega),Nat.div_lt_self (by omega) (by omega)⟩
 rw [e1,e2]at ho;rw [e2]at hx1;have hm1:(((m:Nat):Int) == 1)=false:=(by rw [beq_eq_false_iff_ne];omega);subst e1 e2;go_enter Tryz.func278,Tryz.ntmps278;(go_wp2_with fail);(with_reducible refine ho.mono ?_);rintro e w1 ⟨rfl,hx2⟩;obtain⟨hc2,hf2⟩:=hx2.cells;have AdU:=hx2.cellS (hx1.cellS Dj);have hb0:=(hx2.block w.heap.size (by simp;omega)).trans ((Below.heap_alloc _ _ _ (by simp)).trans (Ann w _));have hb1:=hx2.block (w.heap.size+1) (by simp);have RF:=Ann (w.alloc (.cells #[.slice (some ⟨bb,ob,none⟩) m cb] 278)) (.cells #[.slice none 0 0] 278);rw [Anv]at RF;have hb1:=hb1.trans RF;clear RF
 go_upto_region 13 with fail
 have KW:Aa w w1.drew:=(hx1.trans hx2).drew;have DW:(pc 1000000000 y).length<=(pc 1000000000 x).length:=Ob b9 (by have:=Ic (Bc b9 x);rw [AV b9]at this;omega);have c1:=jI x f Pm (by omega) _ w1.drew (hu.ext KW);have c2:=fun W (hW:Aa w1.drew W)=>jI y f Pm (by omega) _ W (hv.ext (KW.trans hW));have HLM:=Anl DW;simp only [←aV]at c1 c2;have tq:=Anl aV;clear aV DW
 go_cut [0] (fun v0 wx=>∃vb,Rd wx v0 (pc 1000000000 (x*f))/\Rd wx vb (pc 1000000000 (y*f))/\wx.heap[w.heap.size]?=some (.cells #[vb] 278 (0,0))/\wx.heap[w.heap.size+1]?=some (.cells #[.slice none 0 0] 278 (0,0))/\Aa w wx)
 case first=>
  refine wp_region_noPanic ?_
  go_region_with (go_at_call 335;(first|((with_reducible refine c1.mono ?_);rintro e w2 ⟨va,rfl,hva,hx3,hf3⟩;clear hf3;have hb2:=(hx3.block _ (Anm hb0)).trans hb0;have hg0:=cell_of_one hb2)|((with_reducible refine(c2 _ (by assumption)).mono ?_);rintro e w3 ⟨vb,rfl,⟨B2,QM,rfl,hvb⟩,Ai,vS⟩;clear vS;have hb3:=(Ai.block _ (Anm hb2)).trans hb2;have hg3:=cell_of_one hb3;have hg4:=free_of_one hb3)))
  all_goals refine NoPanic.normal ?_
  all_goals go_wp2
  all_goals go_meet
  all_goals exact⟨_,(hva.ext Ai).setCell hg3 (by simp),Rd.setCell ⟨B2,QM,rfl,hvb⟩ hg3 (by simp),one_setCell hb3,by rw [Below.heap_setCell _ _ _ _ (by show w.heap.size+1≠w.heap.size;omega)];exact(Ai.block _ (by have:=hx3.size;have:=Anm hb1;show w.heap.size+1<_;have h9:w1.drew.heap.size=w1.heap.size:=rfl;omega)).trans ((hx3.block _ (Anm hb1)).trans hb1),((KW.trans hx3).trans Ai).setCell (by show w.heap.size<=w.heap.size;omega) _⟩
 case rest=>
  obtain⟨vb,⟨A1,YG,rfl,VM⟩,⟨B1,QL,rfl,P2⟩,hkb,Sl,M8⟩:=hcut;clear c1 c2 hb0 hb1 KW hx2 hc2 hf2 AdU Dj ho hx1 hu hv Cm BQ;have bQ:(pc 1000000000 (x*f)).length<=39000:=AhX hlx Pm;have Mi:0<y*f:=Nat.mul_pos (by omega) hf0;have wQ:(pc 1000000000 (y*f)).length<=39000:=Anz (Tj (Nat.mul_le_mul_right f VZ)) bQ;obtain⟨X,hX⟩:=Ank (x*f);obtain⟨Y,hY⟩:=Ank (y*f);rw [←hX]at VM bQ ⊢;rw [←hY]at P2 wQ Mi hkb;have HX:=Anl hX;have HY:=Anl hY;clear hX hY;obtain⟨OU,tD,-,-,-⟩:=Zc (y:=Y) (t:=Y) (Ano _) (by omega) Mi;have tG:Ah (pc 1000000000 Y) ((pc 1000000000 Y).length-1)<1000000000:=Ce (Bc b9 Y) (by omega);obtain⟨b1,o1,rfl,vD⟩:=P2.ad OU;have IC:=vD ((pc 1000000000 Y).length-1) (by omega);clear vD;have AdR:=P2.cap;have Amw:=P2.max;obtain⟨M,hM⟩:=Ank ((pc 1000000000 Y).length);obtain⟨T,hT⟩:=Ank (Ah (pc 1000000000 Y) (M-1));obtain⟨xs,Ib⟩:=Ank (pc 1000000000 X);have wY:∀z∈xs,z<1000000000:=(by rw [Ib];exact Bc b9 X);rw [←hM]at wQ OU IC AdR tD tG hkb;rw [←hT]at IC tD tG;rw [←Ib]at VM bQ ⊢;have MY:=Anl hM;have lF:=Anl hT;have xk:=Anl Ib;clear hM hT Ib;have Sa:=cell_of_one Sl;have bC:=free_of_one Sl;have hgb:=cell_of_one hkb;have S6:=Anm hkb;have FS:=Anm Sl;have hb1:=World.block_lt_of_cell? wc _ IC;have hmk:=eW xs.length (by omega) (xs.length:Int) rfl
  go_upto_region 15 with fail
  clear hmk;have AeP:=VM.setCell (u:=.slice (some ⟨wc.heap.size,0,none⟩) xs.length xs.length) Sa (by simp);have xZ:=P2.setCell (u:=.slice (some ⟨wc.heap.size,0,none⟩) xs.length xs.length) Sa (by simp);have V9:=one_setCell (u:=.slice (some ⟨wc.heap.size,0,none⟩) xs.length xs.length) Sl;have Aes:=(Below.heap_setCell wc ⟨w.heap.size+1,0,none⟩ (.slice (some ⟨wc.heap.size,0,none⟩) xs.length xs.length) w.heap.size (by show w.heap.size≠w.heap.size+1;omega)).trans hkb;have hxb:=M8.setCell (p:=⟨w.heap.size+1,0,none⟩) (by show w.heap.size<=w.heap.size+1;omega) (.slice (some ⟨wc.heap.size,0,none⟩) xs.length xs.length);have yT:(wc.setCell ⟨w.heap.size+1,0,none⟩ (.slice (some ⟨wc.heap.size,0,none⟩) xs.length xs.length)).heap.size=wc.heap.size:=(by simp);generalize wc.setCell ⟨w.heap.size+1,0,none⟩ (.slice (some ⟨wc.heap.size,0,none⟩) xs.length xs.length)=wb at *;clear VM P2 Sl hkb Sa bC hgb hb1 IC M8;rw [←yT]at S6 FS V9 ⊢;clear yT
  have IC:wb.cell? ⟨b1,o1+(M-1),none⟩=some (.int .u64 (T:Nat)):=by obtain⟨b3,o3,e3,AdT⟩:=xZ.ad (by have:=MY.out;omega);simp only [Ans,Addr.mk.injEq,and_true]at e3;obtain⟨rfl,rfl⟩:=e3;have h:=AdT (M-1) (by have:=MY.out;omega);rw [←lF.out]at h;exact h
  have hb1:=World.block_lt_of_cell? wb _ IC;have hgb:=cell_of_one Aes;have how:=gG wb wb.heap.size xs.length (Ano _) (by omega);go_wp2
  go_loopw [5,11] (fun r i wr=>xx wb xs Y wb.heap.size r i wr) (fun _ i _=>(intOf i+1).toNat)
  case atStart=>exact⟨xs.length,List.replicate xs.length 0,0,_,rfl,rfl,It.start Mi,fun j hj=>by simp only [Ah,List.getD_eq_getElem?_getD,List.getElem?_replicate];split<;>rfl,⟨none,0,by rw [If];rfl,by rw [If];exact⟨by simp,by omega,by simp,fun h=>by simp at h⟩⟩,how,(Aa.refl wb).alloc _⟩
  case round=>
   obtain⟨k,vs,rn,z,rfl,hz,hI,JC,Dx,hown,Ac⟩:=hrel;clear how;have hZ:=Anl hz;have Cl:=hI.le;by_cases hk:0<k
   ·have hz0:0<=z:=(by omega);obtain⟨j,rfl⟩:=Int.eq_ofNat_of_zero_le hz0;obtain rfl:k=j+1:=(by omega);clear hz;obtain⟨ba,oa,rfl,vE⟩:=AeP.ad (by omega);have hg:=Ac.cellS (vE j (by omega));clear vE;obtain⟨wo,rfl⟩:=Ank (wr:World);have Vy:j<xs.length:=Cl;have BM:=Ce wY Vy;have Amu:(pc 1000000000 rn).length<=M:=by rw [MY.out];exact Tj (Nat.le_of_lt hI.rl)
    have H8:(wo.alloc (.cells #[.int .u64 (Ah xs j:Nat)] 184)).ownsRow wo.heap.size 184 1 (.slice (some ⟨wo.heap.size,0,none⟩) 1 1) 1 (AZ [Ah xs j]):=by
     have h:=World.ownsRow_lit (w:=wo) (base:=wo.heap.size) (e:=184) (size:=1) #[.int .u64 (Ah xs j:Nat)] 1 (Ano _) (by unfold maxLen;omega) (by simp)
     simpa [AZ]using h
    have yI:=Dx.ext ((Aa.refl wo).alloc (.cells #[.int .u64 (Ah xs j:Nat)] 184))
    go_wp2_with (at_builtin;go_loud (refine zv rfl _ _ rfl _ wo.heap.size (.slice (some ⟨wo.heap.size,0,none⟩) 1 1) 1 [Ah xs j] rfl H8 (pc 1000000000 rn) u5 rfl yI (by omega) (by rw [Anv];omega) ?_);intro v1 w1 hown1 hx1)
    have yB:Rd w1 v1 ([Ah xs j]++pc 1000000000 rn):=Rd.of_own (by simpa [Nat.add_comm]using hown1) (by simp;omega)
    have Gm:∀z∈[Ah xs j]++pc 1000000000 rn,z<1000000000:=by
     intro z hz
     rcases List.mem_append.1 hz with h|h
     ·simp only [An1]at h;omega
     ·exact Bc b9 rn z h
    have e1:Aa wo w1:=hx1 wo ((Aa.refl wo).alloc _) (Ano _);refine(trim_c _ _ _ yB Gm).mono ?_;rintro e w2 ⟨v2,rfl,hv2,hx2⟩;have e2:Aa wo w2:=e1.trans hx2;obtain⟨t,ht⟩:=Ank (rn*1000000000+Ah xs j);rw [show Ag 1000000000 ([Ah xs j]++pc 1000000000 rn)=t by simp [Ag,AV b9];omega]at hv2;have hst:=hI.step Mi wY ht;have HTT:=Anl ht
    have P3:t<Y*1000000000:=by have h1:rn+1<=Y:=hI.rl;have h2:(rn+1)*1000000000<=Y*1000000000:=Nat.mul_le_mul_right _ h1;omega
    clear ht hown1 hx1 H8 yI yB Gm hg Dx;have SH:Aa wb w2:=Ac.trans e2;have vZ:=SH.cellS hgb;have dB:∀W,Aa wb W→Rd W (.slice (some ⟨b1,o1,none⟩) M QL) (pc 1000000000 Y):=fun W hW=>⟨_,_,by rw [MY.out],xZ.ext hW⟩;have ho:=PP (pc 1000000000 t) (pc 1000000000 Y) v2 _ w2 hv2 (dB w2 SH) (Bc b9 t) (Bc b9 Y) (FX b9 t) (FX b9 Y);rw [AV b9,AV b9]at ho;have hown2:=Az hown e2;have hlen:=hI.len;have HLEN:=Anl hlen;have KX:=JC j (by omega);have xl:=Anl KX;clear hlen KX;by_cases dI:t<Y
    ·rw [LR dI]at ho;(go_wp2_with fail);(with_reducible refine ho.mono ?_);rintro e w3 ⟨rfl,hx3⟩;go_wp2;go_roundw
     case rel=>rw [Nat.div_eq_of_lt dI,Nat.mod_eq_of_lt dI,Aj2 xl.out (by rw [HLEN.out];exact Vy)]at hst;exact⟨j,vs,t,_,by go_num,rfl,hst,fun i hi=>JC i (by omega),hv2.ext hx3,Az hown2 hx3,SH.trans hx3⟩
     case measure=>simp [intOf]
    ·have tU:Y<=t:=by omega
     obtain⟨s2,hs2,AeU⟩:∃s2:Int,s2=D7 t Y/\¬s2<0:=by
      rcases Nat.lt_or_eq_of_le tU with h|h
      ·exact⟨_,rfl,by rw [Kn h];omega⟩
      ·exact⟨_,rfl,by rw [OI h.symm];omega⟩
     rw [←hs2]at ho;clear hs2;obtain⟨-,-,EG,EH,F7⟩:=Zc tU P3 Mi;have ZA:=Bc b9 t;obtain⟨A2,c2,rfl,hr2⟩:=hv2;have vB:=hr2.cap;have Amv:=hr2.max;have hlen2:=hr2.len;have EJ:=MY.out;rw [←EJ]at EG EH F7;rw [←lF.out]at F7;clear EJ;obtain⟨b2,o2,rfl,aN⟩:=hr2.ad (by omega);have Vh:=aN ((pc 1000000000 t).length-1) (by omega);have Vi:=aN ((pc 1000000000 t).length-2) (by omega);clear aN;have AU:=Ce ZA (show (pc 1000000000 t).length-1<(pc 1000000000 t).length by omega);have Bp:=Ce ZA (show (pc 1000000000 t).length-2<(pc 1000000000 t).length by omega);obtain⟨N,hN⟩:=Ank ((pc 1000000000 t).length);rw [←hN]at EG EH F7 vB hlen2 Vh Vi AU Bp ho ⊢;obtain⟨q1,xP⟩:=Ank (Ah (pc 1000000000 t) (N-1));obtain⟨q2,xQ⟩:=Ank (Ah (pc 1000000000 t) (N-2));rw [←xP]at F7 Vh AU;rw [←xQ]at F7 Vi Bp;have HN:=Anl hN;clear hN xP xQ ZA
     obtain⟨d0,Vm,IE,vH⟩:∃d0:Nat,d0=(if M<N then q1*1000000000+q2 else q1)/\t/Y<=d0/T/\d0<1000000000000000000:=by
      refine⟨_,rfl,F7,?_⟩
      split<;>omega
     have kL:=Anl Vm;clear Vm F7;(go_wp2_with fail);(with_reducible refine ho.mono ?_);rintro e w3 ⟨rfl,hx3⟩;have Aej:=hx3.cellS vZ;have AdM:=hx3.cellS Vh;have AdN:=hx3.cellS Vi;clear Vh Vi vZ ho
     go_upto_if 103 with fail
     go_cut [12] (fun d wx=>d=.int .u64 (d0:Nat)/\wx=w3)
     case first=>
      by_cases sR:M<N
      ·have e0:((q1:Int)*1000000000+(q2:Int))=(d0:Int):=(by rw [kL.out,if_pos sR];omega);go_wp2;go_meet
       case rel=>exact⟨by go_num,rfl⟩
      ·have e0:d0=q1:=(by rw [kL.out,if_neg sR]);go_wp2;go_meet
       case rel=>exact⟨by rw [e0],rfl⟩
     case rest=>
      obtain⟨rfl,rfl⟩:=hcut;have hqd:t/Y<1000000000:=by rw [Nat.div_lt_iff_lt_mul Mi,Nat.mul_comm];exact P3
      obtain⟨dm,Pj,AdZ,vK⟩:∃dm:Nat,min (IntKind.u64.wrap ((d0:Int)/(T:Int))) 999999999=(dm:Int)/\t/Y<=dm/\dm<1000000000:=by
       have e1:(d0:Int)/(T:Int)=((d0/T:Nat):Int):=(by simp);refine⟨min (d0/T) 999999999,?_,?_,?_⟩
       ·have h1:d0/T<=d0:=Nat.div_le_self _ _;rw [e1,IntKind.wrap_u64];generalize d0/T=q at *;omega
       ·omega
       ·omega
      have Afv:=SH.trans hx3;have J9:=jI Y dm vK (by rw [←MY.out];omega) _ _ (dB _ Afv);have xY:∀W,Aa w2 W→Rd W (.slice (some ⟨b2,o2,none⟩) N c2) (pc 1000000000 t):=fun W hW=>⟨_,_,by rw [HN.out],hr2.ext hW⟩;(go_wp2_with fail);(with_reducible refine J9.mono ?_);rintro e w4 ⟨vp,rfl,hvp,Ai,hfp⟩;clear hfp Pj;have Aek:=Ai.cellS Aej;have VW:=hx3.trans Ai;have zE:=SH.trans VW;go_wp2
      go_loopw [12,13] (fun d p wr=>∃dn:Nat,d=.int .u64 (dn:Nat)/\t/Y<=dn/\dn<1000000000/\Rd wr p (pc 1000000000 (dn*Y))/\Aa w4 wr) (fun d _ _=>(intOf d).toNat)
      case atStart=>exact⟨dm,rfl,AdZ,vK,by rw [Nat.mul_comm];exact hvp,Aa.refl _⟩
      case round=>
       obtain⟨dn,rfl,Vn,El,hp,Ad⟩:=hrel;have Ch:=PP (pc 1000000000 (dn*Y)) (pc 1000000000 t) _ _ wr hp (xY wr (VW.trans Ad)) (Bc b9 _) (Bc b9 t) (FX b9 _) (FX b9 t);rw [AV b9,AV b9]at Ch;clear J9 AdM AdN;by_cases Em:t<dn*Y
       ·rw [Kn Em]at Ch;(go_wp2_with fail);(with_reducible refine Ch.mono ?_);rintro e w5 ⟨rfl,AI⟩;have Ame:=(Ad.trans AI).cellS Aek;have hdY:dn*Y<=1000000000*Y:=Nat.mul_le_mul_right _ (by omega)
        have Vm:0<dn:=by
         rcases Nat.eq_zero_or_pos dn with h|h
         ·rw [h]at Em;omega
         ·exact h
        have tR:Y<=dn*Y:=Nat.le_mul_of_pos_left _ Vm
        have hlp:(pc 1000000000 (dn*Y)).length<=M+1:=by refine Ob b9 ?_;have h1:=Ic (Bc b9 Y);rw [AV b9,←MY.out]at h1;rw [Nat.pow_succ,Nat.mul_comm];exact Nat.mul_lt_mul'' h1 El
        have Sr:=SU (pc 1000000000 (dn*Y)) (pc 1000000000 Y) _ _ w5 (hp.ext AI) (dB _ (zE.trans (Ad.trans AI))) (by omega) (Bc b9 _) (Bc b9 Y) (Tj tR) (by rw [AV b9,AV b9];exact tR);rw [AV b9,AV b9]at Sr;(go_wp2_with fail);(with_reducible refine Sr.mono ?_);rintro e w6 ⟨p2,rfl,KQ,AG⟩
        have hdq:t/Y<=dn-1:=by have:t/Y<dn:=(by rw [Nat.div_lt_iff_lt_mul Mi];exact Em);omega
        go_wp2;go_roundw
        case rel=>exact⟨dn-1,by go_num,hdq,by omega,by rw [Nat.sub_mul,Nat.one_mul];exact KQ,Ad.trans (AI.trans AG)⟩
        case measure=>simp [intOf];omega
       ·have GM:dn=t/Y:=by have h:dn<=t/Y:=(by rw [Nat.le_div_iff_mul_le Mi];omega);omega
        obtain⟨s5,hs5,AmB⟩:∃s5:Int,s5=D7 (dn*Y) t/\¬s5>0:=by
         rcases Nat.lt_or_eq_of_le (Nat.le_of_not_lt Em)with h|h
         ·exact⟨_,rfl,by rw [LR h];omega⟩
         ·exact⟨_,rfl,by rw [OI h];omega⟩
        rw [←hs5]at Ch;have TI:=Anl GM;clear hs5 GM;(go_wp2_with fail);(with_reducible refine Ch.mono ?_);rintro e w5 ⟨rfl,AI⟩;have dT:=Ad.trans AI;have zF:=zE.trans dT;have Aem:=zF.cellS (cell_of_one V9);have wR:dn*Y<=t:=Nat.le_of_not_lt Em;have Sr:=eh (pc 1000000000 t) (pc 1000000000 (dn*Y)) _ _ w5.drew ((xY _ (VW.trans dT)).ext (Aa.refl w5).drew) ((hp.ext AI).ext (Aa.refl w5).drew) (by rw [←HN.out];omega) (Bc b9 t) (Bc b9 _) (Tj wR) (by rw [AV b9,AV b9];exact wR);rw [AV b9,AV b9]at Sr;have xJ:=Az hown2 (VW.trans dT);have IR:vs.length=xs.length:=HLEN.out;have lI:=Anl IR
        go_upto_region 29 with fail
        clear IR;refine wp_region_noPanic ?_
        go_region_with (go_at_call 336;((with_reducible refine Sr.mono ?_);rintro e w6 ⟨v6,rfl,⟨A6,c6,rfl,Er⟩,AG,aS⟩;have td:=Anl aS;clear aS;have Amf:=AG.cellS (show w5.drew.cell? ⟨w.heap.size+1,0,none⟩=_ from Aem);have cQ:=Az (WL xJ) AG;have hgo:w6.cell? ⟨wb.heap.size,j,none⟩=some (.int .u64 (Ah vs j:Nat)):=(by rw [cQ.cellAt j (by omega)];simp [AZ,Ah,lI.out,Vy]);have Vt:=cQ.frozenAt j))
        all_goals refine NoPanic.normal ?_
        all_goals go_wp2
        all_goals
         go_roundw
         case rel=>
          have Ae1:wb.heap.size<w5.heap.size:=World.block_lt_of_cell? w5 ⟨wb.heap.size,j,none⟩ (u:=.int .u64 (Ah vs j:Nat)) (by rw [xJ.cellAt j (by omega)];simp [AZ,Ah,lI.out,Vy]);obtain rfl:=TI.out;have VN:=(cQ.stored j (.int .u64 ((t/Y:Nat):Int))).1;rw [Xp]at VN;rw [show t-t/Y*Y=t%Y by rw [Nat.mod_eq_sub_mul_div,Nat.mul_comm]]at Er ⊢;refine⟨j,vs.set j (t/Y),t%Y,_,by go_num,rfl,hst,fun i hi=>?_,⟨A6,c6,rfl,Er.setOther _ (fun b o _ hb=>?_)⟩,VN,?_⟩
          ·have h:=JC i (by omega);simp only [Ah,List.getD_eq_getElem?_getD,List.getElem?_set_ne (show j≠i by omega)]at h ⊢;exact h
          ·have h:w5.heap.size<=b:=td.out b (by rw [hb];rfl);show b≠wb.heap.size;omega
          ·exact((zF.drew).trans AG).setCell (by show wb.heap.size<=wb.heap.size;omega) _
         case measure=>simp [intOf]
   ·obtain rfl:k=0:=(by omega);obtain rfl:z = -1:=(by omega);obtain⟨hq,hr⟩:=hI.done;rw [xk.out,AV b9]at hq hr;rw [HX.out,HY.out,Nat.mul_div_mul_right _ _ hf0]at hq;rw [HX.out,HY.out,Nat.mul_mod_mul_right]at hr;have yE:rn/f=x%y:=(by rw [hr,Nat.mul_div_cancel _ hf0]);have wV:=hI.lt;have HQ:=Anl hq;have Na:=Anl yE;clear hz hq hr yE JC;have Sa:=Ac.cellS (cell_of_one V9)
    have S2:BE wr (some ⟨wb.heap.size,0,none⟩) xs.length vs:=by obtain⟨A',c',e1,h1⟩:=Rd.of_own (base:=wb.heap.size) (l:=vs) (by rw [hI.len];exact hown) (by rw [hI.len];omega);simp only [Value.slice.injEq]at e1;obtain⟨rfl,_,rfl⟩:=e1;exact h1
    have H8:BE (wr.alloc (.cells #[.int .u64 (f:Nat)] 184)) (some ⟨wr.heap.size,0,none⟩) 1 (pc 1000000000 f):=by
     have h:BE (wr.alloc (.cells #[.int .u64 (f:Nat)] 184)) (some ⟨wr.heap.size,0,none⟩) 1 [f]:=
      ⟨by simp,by omega,by simp,fun _=>⟨wr.heap.size,0,rfl,fun j hj=>by
       obtain rfl:j=0:=by simpa using hj
       rw [World.cell?_alloc_at _ _ _ _ (by rfl)];simp [Ah]⟩⟩
     rw [gP b9 hf0 Pm];exact h
    have RQ:=pS rn f hf0 Pm _ _ _ (Dx.ext ((Aa.refl wr).alloc _)) ⟨_,_,rfl,H8⟩;rw [gP b9 hf0 Pm]at RQ;simp only [List.length_singleton]at RQ;simp only [←tq.out]at RQ;(go_wp2_with fail);(with_reducible refine RQ.mono ?_);rintro e w7 ⟨vq,vr,rfl,dR,VV,AG⟩;clear VV RQ;have VX:=((Aa.refl wr).alloc (.cells #[.int .u64 (1000000000/(tp+1))] 184)).trans AG;have bJ:=VX.cellS Sa;have yH:=S2.ext VX;have Amd:=free_of_one ((VX.block _ (by have:=Ac.size;omega)).trans ((Ac.block _ FS).trans V9));have ht:=Qj vs _ _ w7 yH wV;rw [hI.len]at ht;(go_wp2_with fail);(with_reducible refine ht.mono ?_);rintro e w8 ⟨rfl,rfl⟩;go_wp2;refine bodyPost_ret (v:=.tuple #[.slice (some ⟨wb.heap.size,0,none⟩) (pc 1000000000 (Ag 1000000000 vs)).length xs.length,vq]) (by simp [results,Tryz.results278,go_sem,bJ]) rfl ?_;refine⟨_,_,rfl,⟨_,_,by rw [HQ.out],?_⟩,?_,?_⟩
    ·rw [←HQ.out];exact(yH.pc wV).setCell bJ (by simp)
    ·rw [←Na.out];exact dR.setCell bJ (by simp)
    ·exact((hxb.trans Ac).trans VX).setCell (by show w.heap.size<=w.heap.size+1;omega) _
theorem U3(x y:Nat)(hy:0<y)(hlx:(pc 1000000000 x).length<39000)(u v:Value)(w:World)(hu:Rd w u (pc 1000000000 x))(hv:Rd w v (pc 1000000000 y)) :
  Calls Tryz.prog 278 #[u,v] w (O6 (x/y) (x%y) w):=by
 rcases Nat.lt_or_ge x y with h|h
 ·rw [Nat.div_eq_of_lt h,Nat.mod_eq_of_lt h];exact pR x y h u v w hu hv
 ·rcases Nat.lt_or_ge y 1000000000 with h2|h2
  ·exact pS x y hy h2 u v w hu hv
  ·exact AbK x y h h2 hlx u v w hu hv
end Go.Proofs.YtjalkoacphhgdaaGreatDoor
namespace Go.Proofs.YtjalkoacphhgdaaGreatDoor
open Go.RowKit Kl
theorem AhY{n k:Nat}(h:n<10^(9*k)):(pc 1000000000 n).length<=k:=by
 refine Ob b9 ?_;rw [Nat.pow_mul]at h;exact h
theorem Ag8{x a b:Nat}(h:x<10^a)(hab:a<=b):x<10^b:=Anx h (Nat.pow_le_pow_right (by omega) hab)
theorem AC.pc{z:Int}(h:AC z):(pc 1000000000 z.natAbs).length<=445:=by
 obtain⟨m,hm⟩:=Ank (445);rw [←hm];exact AhY (Ag8 h (show Un<=9*m by rw [hm];decide))
theorem LQ(m:Bool)(x:Nat):Ef m x=I (if m then -(x:Int)else x):=by
 unfold Ef;by_cases h:x=0
 ·subst h;rw [if_pos rfl];cases m<;>simp [Q5]
 ·rw [if_neg h]
  cases m
  ·rw [if_neg (by simp),if_neg (by simp),Eb]
  ·rw [if_pos rfl,if_pos rfl,TU x (by omega)]
theorem Lm{z:Int}{k:Nat}(h:(I z).length<=k):Oc z k=.tuple #[.int .i64 z,.bool true]:=if_pos h
theorem PY{z:Int}{k:Nat}(h:¬(I z).length<=k):Oc z k=.tuple #[.int .i64 0,.bool false]:=if_neg h
theorem WS(z:Int)(w:World):Calls Tryz.prog 223 #[S (I z),.int .i64 9] w (CC (Oc z 9) w):=j9 z 9 (by omega) w
theorem MN(z:Int)(w:World):Calls Tryz.prog 223 #[S (I z),.int .i64 18] w (CC (Oc z 18) w):=j9 z 18 (by omega) w
theorem MR{z:Int}{k:Nat}(h:(I z).length<=k):z.natAbs<10^k:=by
 rcases DI z with⟨n,rfl,e⟩|⟨n,hn,rfl,e⟩
 ·rw [e]at h;simpa using Lf (n:=n) (k:=k) (by omega)
 ·rw [e,List.length_cons]at h;simpa using Lf (n:=n) (k:=k) (by omega)
theorem MS{x y:Int}(hx:x.natAbs<1000000000)(hy:y.natAbs<1000000000):IntKind.i64.wrap (x*y)=x*y:=by
 have h:=SV hx hy;rw [←Int.natAbs_mul]at h;exact Anu _ (by omega)
theorem AgU{x y:Int}(hx:x.natAbs<1000000000)(hy:y.natAbs<1000000000):-9223372036854775808<=x*y/\x*y<=9223372036854775807:=by
 have h:=SV hx hy;rw [←Int.natAbs_mul]at h;omega
theorem AgV(x y:Int):x*y=if (decide (x<0) != decide (y<0))=true then -((x.natAbs*y.natAbs:Nat):Int)else ((x.natAbs*y.natAbs:Nat):Int):=by
 rw [←Int.natAbs_mul];by_cases hx:x<0<;>by_cases hy:y<0<;>simp [hx,hy]
 ·have:=Int.mul_nonneg_of_nonpos_of_nonpos (Int.le_of_lt hx) (Int.le_of_lt hy);omega
 ·have:=Int.mul_nonpos_of_nonpos_of_nonneg (Int.le_of_lt hx) (show 0<=y by omega);omega
 ·have:=Int.mul_nonpos_of_nonneg_of_nonpos (show 0<=x by omega) (Int.le_of_lt hy);omega
 ·have:=Int.mul_nonneg (show 0<=x by omega) (show 0<=y by omega);omega
theorem Af8(x y:Int)(hx:(I x).length<=9)(hy:(I y).length<=9)(w:World)(hw:An w) :
  Calls Tryz.prog 146 #[S (I x),S (I y)] w (Be (I (x*y)) w):=by
 have q1:=WS x;have q2:=WS y;rw [Lm hx]at q1;rw [Lm hy]at q2;have b1:=MR hx;have b2:=MR hy;have hwr:=MS b1 b2;have hin:=AgU b1 b2;have ho:=fun W hW=>eA (x*y) hin.1 hin.2 W hW;clear hx hy b1 b2 hin;go_enter Tryz.func146,Tryz.ntmps146;(go_wp2_with fail);(with_reducible refine(q1 _).mono ?_);rintro e w1 ⟨rfl,hx1⟩;(go_wp2_with fail);(with_reducible refine(q2 _).mono ?_);rintro e w2 ⟨rfl,hx2⟩;have Cc:=hx1.trans hx2;(go_wp2_with fail);(with_reducible refine(ho _ (hw.ext Cc)).mono ?_);rintro e w3 ⟨rfl,hx3⟩;go_wp2;go_ret;exact⟨rfl,Cc.trans hx3⟩
theorem Ab{W:World}{b o:Nat}{cs:Array Value}{t:TypeId}{fz:Nat×Nat}{v:Value}(h:W.heap[b]?=some (.cells cs t fz))(hv:cs[o]?=some v):W.cell? ⟨b,o,none⟩=some v:=by
 unfold World.cell?;simp [h,hv]
theorem LM(w:World)(a b c d:Value)(s t:TypeId):∃W,W=(w.alloc (.cells #[a,b] s)).alloc (.cells #[c,d] t)/\Aa w W/\W.heap[w.heap.size]?=some (.cells #[a,b] s)/\W.heap[w.heap.size+1]?=some (.cells #[c,d] t):=by
 refine⟨_,rfl,((Aa.refl _).alloc _).alloc _,(Below.heap_alloc _ _ _ (by simp)).trans (Ann w _),?_⟩;have h:=Ann (w.alloc (.cells #[a,b] s)) (.cells #[c,d] t)
 rwa [Anv]at h
theorem Af7(x y:Int)(hx:AC x)(hy:AC y)(hn:¬((I x).length<=9/\(I y).length<=9))(w:World)(hw:An w) :
  Calls Tryz.prog 146 #[S (I x),S (I y)] w (Be (I (x*y)) w):=by
 have q1:=WS x;have q2:=WS y;have lx:=hx.pc;have ly:=hy.pc;have o1:=fX x hx;have o2:=fX y hy;have HS:Hid (x*y=if (!(decide (x<0) == decide (y<0)))=true then -((x.natAbs*y.natAbs:Nat):Int)else ((x.natAbs*y.natAbs:Nat):Int)):=Anl (AgV x y);clear hx hy;by_cases h1:(I x).length<=9
 case' pos=>rw [Lm h1]at q1;rw [PY fun h=>hn ⟨h1,h⟩]at q2;clear h1 hn;go_enter Tryz.func146,Tryz.ntmps146;(go_wp2_with fail);(with_reducible refine(q1 _).mono ?_);rintro e w1 ⟨rfl,hx1⟩;(go_wp2_with fail);(with_reducible refine(q2 _).mono ?_);rintro e w2 ⟨rfl,hx2⟩;have hx:=hx1.trans hx2;clear hx1 hx2;(go_wp2_with fail)
 case' neg=>rw [PY h1]at q1;clear h1 hn;go_enter Tryz.func146,Tryz.ntmps146;(go_wp2_with fail);(with_reducible refine(q1 _).mono ?_);rintro e w2 ⟨rfl,hx⟩;(go_wp2_with fail)
 all_goals
  clear q1 q2;(with_reducible refine(o1 _).mono ?_);rintro e w3 ⟨v3,rfl,⟨A3,c3,rfl,hv3⟩,hx3⟩;(go_wp2_with fail);(with_reducible refine(o2 _).mono ?_);rintro e w4 ⟨v4,rfl,⟨A4,c4,rfl,hv4⟩,Ai⟩;have hx:=(hx.trans hx3).trans Ai;have hv3:=hv3.ext Ai;clear o1 o2 hx3 Ai;(go_wp2_with fail);obtain⟨W,hW,hE,hb1,hb2⟩:=LM w4 (.bool (decide (x<0))) (.slice A3 (pc 1000000000 x.natAbs).length c3) (.bool (decide (y<0))) (.slice A4 (pc 1000000000 y.natAbs).length c4) 280 280;rw [←hW];have hv3:=hv3.ext hE.drew;have hv4:=hv4.ext hE.drew;have Bg:=hx.trans hE;have k1:W.cell? ⟨w4.heap.size,0,none⟩=some (.bool (decide (x<0))):=Ab hb1 rfl;have k2:W.cell? ⟨w4.heap.size,1,none⟩=some (.slice A3 (pc 1000000000 x.natAbs).length c3):=Ab hb1 rfl;have k3:W.cell? ⟨w4.heap.size+1,0,none⟩=some (.bool (decide (y<0))):=Ab hb2 rfl;have k4:W.cell? ⟨w4.heap.size+1,1,none⟩=some (.slice A4 (pc 1000000000 y.natAbs).length c4):=Ab hb2 rfl;clear hW hb1 hb2 hE hx;have ht:=Akx (pc 1000000000 x.natAbs) (pc 1000000000 y.natAbs) _ _ W.drew ⟨_,_,rfl,hv3⟩ ⟨_,_,rfl,hv4⟩ (by omega) (by omega) (Bc b9 _) (Bc b9 _);rw [AV b9,AV b9]at ht;have hc:=fun W2 (A5:Option Addr) (c5:Nat) (h:Aa W.drew W2) (h2:BE W2 A5 c5 (pc 1000000000 (x.natAbs*y.natAbs)))=>ED (!(decide (x<0) == decide (y<0))) (x.natAbs*y.natAbs) (.slice A5 (pc 1000000000 (x.natAbs*y.natAbs)).length c5) W2 (hw.ext (Bg.drew.trans h)) ⟨A5,c5,rfl,h2⟩;rw [LQ,←HS.out]at hc
  go_region_held3 (fun w'=>w'.cell? ⟨w4.heap.size,0,none⟩=some (.bool (decide (x<0)))/\w'.cell? ⟨w4.heap.size,1,none⟩=some (.slice A3 (pc 1000000000 x.natAbs).length c3)/\w'.cell? ⟨w4.heap.size+1,0,none⟩=some (.bool (decide (y<0)))/\w'.cell? ⟨w4.heap.size+1,1,none⟩=some (.slice A4 (pc 1000000000 y.natAbs).length c4))
   (first|go_keep|exact⟨Ad.cellS k1,Ad.cellS k2,Ad.cellS k3,Ad.cellS k4⟩|exact⟨(Ad.trans AI).cellS k1,(Ad.trans AI).cellS k2,(Ad.trans AI).cellS k3,(Ad.trans AI).cellS k4⟩)
   (first|((with_reducible refine ht.mono ?_);rintro e w5 ⟨v5,rfl,⟨A5,c5,rfl,hv5⟩,Ad⟩)|((with_reducible refine(hc _ _ _ Ad hv5).mono ?_);rintro e w6 ⟨rfl,AI⟩))
  go_wp2;go_ret;exact⟨rfl,(Bg.drew.trans Ad).trans AI⟩
theorem Gr(x y:Int)(hx:AC x)(hy:AC y)(w:World)(hw:An w):Calls Tryz.prog 146 #[S (I x),S (I y)] w (Be (I (x*y)) w):=by
 by_cases h:(I x).length<=9/\(I y).length<=9
 ·exact Af8 x y h.1 h.2 w hw
 ·exact Af7 x y hx hy h w hw
def yl(s:Bool)(n:Nat)(w:World)(e:Ending)(w':World):Prop:=∃A c,e=.returned (.agg #[.bool s,.slice A (pc 1000000000 n).length c])/\BE w' A c (pc 1000000000 n)/\Aa w w'
theorem JI(z:Int)(hz:AC z)(s:Bool)(hs:s=decide (z<0))(w:World):Calls Tryz.prog 225 #[S (I z)] w (yl s z.natAbs w):=by
 subst hs;refine(fX z hz w).mono ?_;rintro e w' ⟨v,rfl,⟨A,c,rfl,h⟩,hx⟩;exact⟨A,c,rfl,h,hx⟩
theorem BE.rd{w:World}{A:Option Addr}{c:Nat}{l:List Nat}(h:BE w A c l):Rd w (.slice A l.length c) l:=⟨A,c,rfl,h⟩
theorem Li{a b:Nat}(h:a<=b):(pc 1000000000 a).length<=(pc 1000000000 b).length:=Tj h
structure Om(W:World)(b:Nat)(sx sy:Bool)(v u:Value):Prop where
 k1:W.cell? ⟨b,0,none⟩=some (.bool sx)
 k2:W.cell? ⟨b,1,none⟩=some v
 k3:W.cell? ⟨b+1,0,none⟩=some (.bool sy)
 k4:W.cell? ⟨b+1,1,none⟩=some u
theorem Om.ext{W W':World}{b:Nat}{sx sy:Bool}{v u:Value}(h:Om W b sx sy v u)(hx:Aa W W'):Om W' b sx sy v u:=
 ⟨hx.cellS h.k1,hx.cellS h.k2,hx.cellS h.k3,hx.cellS h.k4⟩
theorem AO{W:World}{b o:Nat}{cs:Array Value}{t:TypeId}(h:W.heap[b]?=some (.cells cs t)):W.frozen? ⟨b,o,none⟩=false:=by unfold World.frozen?;simp [h]
structure Kept(w5 V:World)(b:Nat):Prop where
 ext:∀w0,Aa w0 w5→w0.heap.size<=b→Aa w0 V
 rd:∀A c l,BE w5 A c l→BE V A c l
theorem Kept.refl(w:World)(b:Nat):Kept w w b:=⟨fun _ h _=>h,fun _ _ _ h=>h⟩
theorem Kept.set{w5 V:World}{b k o:Nat}(h:Kept w5 V b)(hk:b<=k){v u:Value}(hv:V.cell? ⟨k,o,none⟩=some v)(hn:∀n,v≠.int .u64 n):Kept w5 (V.setCell ⟨k,o,none⟩ u) b:=
 ⟨fun w0 h0 hb=>(h.ext w0 h0 hb).setCell (by show w0.heap.size<=k;omega) _,fun A c l hr=>(h.rd A c l hr).setCell hv hn⟩
theorem Akl{w:World}{b:Nat}{sx sy:Bool}{A3 A4:Option Addr}{n3 n4 c3 c4:Nat}(h:Om w b sx sy (.slice A3 n3 c3) (.slice A4 n4 c4)) :
  ∃V,V=(((w.setCell ⟨b,0,none⟩ (.bool sy)).setCell ⟨b,1,none⟩ (.slice A4 n4 c4)).setCell ⟨b+1,0,none⟩ (.bool sx)).setCell ⟨b+1,1,none⟩ (.slice A3 n3 c3)/\
   Om V b sy sx (.slice A4 n4 c4) (.slice A3 n3 c3)/\Kept w V b:=by
 obtain⟨k1,k2,k3,k4⟩:=h;have e1:=World.cell?_setCell_same w _ (.bool sy) k1;have e2:(w.setCell ⟨b,0,none⟩ (.bool sy)).cell? ⟨b,1,none⟩=_:=(World.cell?_setCell_other _ _ _ _ (by simp)).trans k2;have e3:(w.setCell ⟨b,0,none⟩ (.bool sy)).cell? ⟨b+1,0,none⟩=_:=(World.cell?_setCell_other _ _ _ _ (by simp)).trans k3;have e4:(w.setCell ⟨b,0,none⟩ (.bool sy)).cell? ⟨b+1,1,none⟩=_:=(World.cell?_setCell_other _ _ _ _ (by simp)).trans k4;have z1:=(Kept.refl w b).set (Ano b) (u:=.bool sy) k1 (by simp);have z2:=z1.set (Ano b) (u:=.slice A4 n4 c4) e2 (by simp);have f1:=(World.cell?_setCell_other (w.setCell ⟨b,0,none⟩ (.bool sy)) ⟨b,1,none⟩ ⟨b,0,none⟩ (.slice A4 n4 c4) (by simp)).trans e1;have f2:=World.cell?_setCell_same (w.setCell ⟨b,0,none⟩ (.bool sy)) _ (.slice A4 n4 c4) e2;have f3:=(World.cell?_setCell_other (w.setCell ⟨b,0,none⟩ (.bool sy)) ⟨b,1,none⟩ ⟨b+1,0,none⟩ (.slice A4 n4 c4) (by simp)).trans e3;have f4:=(World.cell?_setCell_other (w.setCell ⟨b,0,none⟩ (.bool sy)) ⟨b,1,none⟩ ⟨b+1,1,none⟩ (.slice A4 n4 c4) (by simp)).trans e4;generalize (w.setCell ⟨b,0,none⟩ (.bool sy)).setCell ⟨b,1,none⟩ (.slice A4 n4 c4)=W at *;have z3:=z2.set (show b<=b+1 by omega) (u:=.bool sx) f3 (by simp);have g1:=(World.cell?_setCell_other W ⟨b+1,0,none⟩ ⟨b,0,none⟩ (.bool sx) (by simp)).trans f1;have g2:=(World.cell?_setCell_other W ⟨b+1,0,none⟩ ⟨b,1,none⟩ (.bool sx) (by simp)).trans f2;have g3:=World.cell?_setCell_same W _ (.bool sx) f3;have g4:=(World.cell?_setCell_other W ⟨b+1,0,none⟩ ⟨b+1,1,none⟩ (.bool sx) (by simp)).trans f4;generalize W.setCell ⟨b+1,0,none⟩ (.bool sx)=X at *;exact⟨_,rfl,⟨(World.cell?_setCell_other X _ _ _ (by simp)).trans g1,(World.cell?_setCell_other X _ _ _ (by simp)).trans g2,(World.cell?_setCell_other X _ _ _ (by simp)).trans g3,World.cell?_setCell_same X _ _ g4⟩,z3.set (by omega) g4 (by simp)⟩
theorem yu{x y:Int}(h:decide (x<0)=decide (y<0)):(if decide (x<0)=true then -((x.natAbs+y.natAbs:Nat):Int)else ((x.natAbs+y.natAbs:Nat):Int))=x+y:=by
 by_cases hx:x<0<;>by_cases hy:y<0<;>simp [hx,hy]at h ⊢<;>omega
theorem mF{x y:Int}(h:decide (x<0)≠decide (y<0))(hl:y.natAbs<=x.natAbs):(if decide (x<0)=true then -((x.natAbs-y.natAbs:Nat):Int)else ((x.natAbs-y.natAbs:Nat):Int))=x+y:=by
 by_cases hx:x<0<;>by_cases hy:y<0<;>simp [hx,hy]at h ⊢<;>omega
theorem Af3(x y:Int)(hx:(I x).length<=18)(hy:(I y).length<=18)(w:World)(hw:An w) :
  Calls Tryz.prog 331 #[S (I x),S (I y)] w (Be (I (x+y)) w):=by
 have q1:=MN x;have q2:=MN y;rw [Lm hx]at q1;rw [Lm hy]at q2;have b1:=MR hx;have b2:=MR hy;have e18:(10:Nat)^18=1000000000000000000:=(by decide);rw [e18]at b1 b2;have hwr:IntKind.i64.wrap (x+y)=x+y:=Anu _ (by omega);have ho:=fun W hW=>eA (x+y) (by omega) (by omega) W hW;clear hx hy b1 b2 e18;go_enter Tryz.func331,Tryz.ntmps331;(go_wp2_with fail);(with_reducible refine(q1 _).mono ?_);rintro e w1 ⟨rfl,hx1⟩;(go_wp2_with fail);(with_reducible refine(q2 _).mono ?_);rintro e w2 ⟨rfl,hx2⟩;have Cc:=hx1.trans hx2;(go_wp2_with fail);(with_reducible refine(ho _ (hw.ext Cc)).mono ?_);rintro e w3 ⟨rfl,hx3⟩;go_wp2;go_ret;exact⟨rfl,Cc.trans hx3⟩
theorem Af2(x y:Int)(hx:AC x)(hy:AC y)(hn:¬((I x).length<=18/\(I y).length<=18))(w:World)(hw:An w) :
  Calls Tryz.prog 331 #[S (I x),S (I y)] w (Be (I (x+y)) w):=by
 have q1:=MN x;have q2:=MN y;have lx:=hx.pc;have ly:=hy.pc;obtain⟨sx,Ep⟩:=Ank (decide (x<0));obtain⟨sy,Dm⟩:=Ank (decide (y<0));have o1:=JI x hx sx Ep;have o2:=JI y hy sy Dm;have m1:=@yu x y;have m2:=@mF x y;have m3:=@mF y x;rw [←Ep,←Dm]at m1 m2 m3;rw [Int.add_comm y x]at m3;clear hx hy Ep Dm;by_cases h1:(I x).length<=18
 case' pos=>rw [Lm h1]at q1;rw [PY fun h=>hn ⟨h1,h⟩]at q2;clear h1 hn;have M1:=Anl m1;have M2:=Anl m2;have M3:=Anl m3;clear m1 m2 m3;go_enter Tryz.func331,Tryz.ntmps331;(go_wp2_with fail);(with_reducible refine(q1 _).mono ?_);rintro e w1 ⟨rfl,hx1⟩;(go_wp2_with fail);(with_reducible refine(q2 _).mono ?_);rintro e w2 ⟨rfl,hx2⟩;have hx:=hx1.trans hx2;clear hx1 hx2;(go_wp2_with fail)
 case' neg=>rw [PY h1]at q1;clear h1 hn;have M1:=Anl m1;have M2:=Anl m2;have M3:=Anl m3;clear m1 m2 m3;go_enter Tryz.func331,Tryz.ntmps331;(go_wp2_with fail);(with_reducible refine(q1 _).mono ?_);rintro e w2 ⟨rfl,hx⟩;(go_wp2_with fail)
 all_goals
  clear q1 q2;(with_reducible refine(o1 _).mono ?_);rintro e w3 ⟨A3,c3,rfl,hv3,hx3⟩;(go_wp2_with fail);(with_reducible refine(o2 _).mono ?_);rintro e w4 ⟨A4,c4,rfl,hv4,Ai⟩;have hx:=(hx.trans hx3).trans Ai;have hv3:=hv3.ext Ai;clear o1 o2 hx3 Ai
  go_upto_region 7 with fail
  obtain⟨W,hW,hE,hb1,hb2⟩:=LM w4 (.bool sx) (.slice A3 (pc 1000000000 x.natAbs).length c3) (.bool sy) (.slice A4 (pc 1000000000 y.natAbs).length c4) 280 280;rw [←hW];have hv3:=hv3.ext hE;have hv4:=hv4.ext hE;have Bg:=hx.trans hE;have k1:W.cell? ⟨w4.heap.size,0,none⟩=some (.bool sx):=Ab hb1 rfl;have k2:W.cell? ⟨w4.heap.size,1,none⟩=some (.slice A3 (pc 1000000000 x.natAbs).length c3):=Ab hb1 rfl;have k3:W.cell? ⟨w4.heap.size+1,0,none⟩=some (.bool sy):=Ab hb2 rfl;have k4:W.cell? ⟨w4.heap.size+1,1,none⟩=some (.slice A4 (pc 1000000000 y.natAbs).length c4):=Ab hb2 rfl;have Ib:w.heap.size<=w4.heap.size:=hx.size;clear hW hE hx;by_cases hs:sx=sy
  ·subst hs;have hm:=M1.out rfl;have HM:=Anl hm;clear hm M1 M2 M3;(go_wp2_with fail);have ht:=gR (pc 1000000000 x.natAbs) (pc 1000000000 y.natAbs) _ _ W.drew (hv3.ext (Aa.refl W).drew).rd (hv4.ext (Aa.refl W).drew).rd (by omega) (by omega) (Bc b9 _) (Bc b9 _);rw [AV b9,AV b9]at ht;have hc:=fun W2 v2 (h:Aa W.drew W2) (h2:Rd W2 v2 _)=>ED sx (x.natAbs+y.natAbs) v2 W2 (hw.ext (Bg.drew.trans h)) h2;rw [LQ,HM.out]at hc
   go_region_held3 (fun w'=>w'.cell? ⟨w4.heap.size,0,none⟩=some (.bool sx)/\w'.cell? ⟨w4.heap.size,1,none⟩=some (.slice A3 (pc 1000000000 x.natAbs).length c3)/\w'.cell? ⟨w4.heap.size+1,0,none⟩=some (.bool sx)/\w'.cell? ⟨w4.heap.size+1,1,none⟩=some (.slice A4 (pc 1000000000 y.natAbs).length c4))
    (first|go_keep|exact⟨Ad.cellS k1,Ad.cellS k2,Ad.cellS k3,Ad.cellS k4⟩|exact⟨(Ad.trans AI).cellS k1,(Ad.trans AI).cellS k2,(Ad.trans AI).cellS k3,(Ad.trans AI).cellS k4⟩)
    (first|((with_reducible refine ht.mono ?_);rintro e w5 ⟨v5,rfl,⟨A5,c5,rfl,hv5⟩,Ad⟩)|((with_reducible refine(hc _ _ Ad hv5.rd).mono ?_);rintro e w6 ⟨rfl,AI⟩))
   go_wp2;go_ret;exact⟨rfl,(Bg.drew.trans Ad).trans AI⟩
  ·have C6:(sx == sy)=false:=(by rw [beq_eq_false_iff_ne];exact hs);have Yb:=Anl (M2.out hs);have Yc:=Anl (M3.out (Ne.symm hs));clear hs M1 M2 M3;have ho:=PP (pc 1000000000 x.natAbs) (pc 1000000000 y.natAbs) _ _ W hv3.rd hv4.rd (Bc b9 _) (Bc b9 _) (FX b9 _) (FX b9 _);rw [AV b9,AV b9]at ho;by_cases hl:x.natAbs<y.natAbs
   ·rw [LR hl]at ho;have HM:=Anl (Yc.out (Nat.le_of_lt hl));clear Yb Yc;(go_wp2_with fail);(with_reducible refine ho.mono ?_);rintro e w5 ⟨rfl,Ad⟩;have g1:=Ad.cellS k1;have g2:=Ad.cellS k2;have g3:=Ad.cellS k3;have g4:=Ad.cellS k4;have j1:=fun o=>AO (o:=o) ((Ad.block _ (Anm hb1)).trans hb1);have j2:=fun o=>AO (o:=o) ((Ad.block _ (Anm hb2)).trans hb2);(go_wp2_with fail);obtain⟨V,hV,hB,hK⟩:=Akl (Om.mk g1 g2 g3 g4);rw [←hV];have SE:Aa w V:=hK.ext w (Bg.trans Ad) Ib;have hv3:=hK.rd _ _ _ (hv3.ext Ad);have hv4:=hK.rd _ _ _ (hv4.ext Ad);have g1:=hB.k1;have g2:=hB.k2;have g3:=hB.k3;have g4:=hB.k4;clear hV j1 j2 hB hK Ad Bg k1 k2 k3 k4 hb1 hb2 ho;have ht:=SU (pc 1000000000 y.natAbs) (pc 1000000000 x.natAbs) _ _ V.drew (hv4.ext (Aa.refl V).drew).rd (hv3.ext (Aa.refl V).drew).rd (by omega) (Bc b9 _) (Bc b9 _) (Li (Nat.le_of_lt hl)) (by rw [AV b9,AV b9];exact Nat.le_of_lt hl);rw [AV b9,AV b9]at ht;have hc:=fun W2 v2 (h:Aa V.drew W2) (h2:Rd W2 v2 _)=>ED sy (y.natAbs-x.natAbs) v2 W2 (hw.ext (SE.drew.trans h)) h2;rw [LQ,HM.out]at hc
    go_region_held3 (fun w'=>w'.cell? ⟨w4.heap.size,0,none⟩=some (.bool sy)/\w'.cell? ⟨w4.heap.size,1,none⟩=some (.slice A4 (pc 1000000000 y.natAbs).length c4)/\w'.cell? ⟨w4.heap.size+1,0,none⟩=some (.bool sx)/\w'.cell? ⟨w4.heap.size+1,1,none⟩=some (.slice A3 (pc 1000000000 x.natAbs).length c3))
     (first|go_keep|exact⟨Ad.cellS g1,Ad.cellS g2,Ad.cellS g3,Ad.cellS g4⟩|exact⟨(Ad.trans AI).cellS g1,(Ad.trans AI).cellS g2,(Ad.trans AI).cellS g3,(Ad.trans AI).cellS g4⟩)
     (first|((with_reducible refine ht.mono ?_);rintro e w5 ⟨v5,rfl,⟨A5,c5,rfl,hv5⟩,Ad⟩)|((with_reducible refine(hc _ _ Ad hv5.rd).mono ?_);rintro e w6 ⟨rfl,AI⟩))
    go_wp2;go_ret;exact⟨rfl,(SE.drew.trans Ad).trans AI⟩
   ·have hge:y.natAbs<=x.natAbs:=Nat.le_of_not_lt hl
    obtain⟨s,hs,hs0⟩:∃s:Int,s=D7 x.natAbs y.natAbs/\¬s<0:=by
     rcases Nat.lt_or_eq_of_le hge with h|h
     ·exact⟨_,rfl,by rw [Kn h];omega⟩
     ·exact⟨_,rfl,by rw [OI h.symm];omega⟩
    rw [←hs]at ho;have HM:=Anl (Yb.out hge);clear Yb Yc hs hl;(go_wp2_with fail);(with_reducible refine ho.mono ?_);rintro e w5 ⟨rfl,Ad⟩;have g1:=Ad.cellS k1;have g2:=Ad.cellS k2;have g3:=Ad.cellS k3;have g4:=Ad.cellS k4;(go_wp2_with fail);have SE:=Bg.trans Ad;have hv3:=hv3.ext Ad;have hv4:=hv4.ext Ad;clear Ad Bg k1 k2 k3 k4 hb1 hb2 ho;have ht:=SU (pc 1000000000 x.natAbs) (pc 1000000000 y.natAbs) _ _ w5.drew (hv3.ext (Aa.refl w5).drew).rd (hv4.ext (Aa.refl w5).drew).rd (by omega) (Bc b9 _) (Bc b9 _) (Li hge) (by rw [AV b9,AV b9];exact hge);rw [AV b9,AV b9]at ht;have hc:=fun W2 v2 (h:Aa w5.drew W2) (h2:Rd W2 v2 _)=>ED sx (x.natAbs-y.natAbs) v2 W2 (hw.ext (SE.drew.trans h)) h2;rw [LQ,HM.out]at hc
    go_region_held3 (fun w'=>w'.cell? ⟨w4.heap.size,0,none⟩=some (.bool sx)/\w'.cell? ⟨w4.heap.size,1,none⟩=some (.slice A3 (pc 1000000000 x.natAbs).length c3)/\w'.cell? ⟨w4.heap.size+1,0,none⟩=some (.bool sy)/\w'.cell? ⟨w4.heap.size+1,1,none⟩=some (.slice A4 (pc 1000000000 y.natAbs).length c4))
     (first|go_keep|exact⟨AG.cellS g1,AG.cellS g2,AG.cellS g3,AG.cellS g4⟩|exact⟨(AG.trans AI).cellS g1,(AG.trans AI).cellS g2,(AG.trans AI).cellS g3,(AG.trans AI).cellS g4⟩)
     (first|((with_reducible refine ht.mono ?_);rintro e w7 ⟨v5,rfl,⟨A5,c5,rfl,hv5⟩,AG⟩)|((with_reducible refine(hc _ _ AG hv5.rd).mono ?_);rintro e w6 ⟨rfl,AI⟩))
    go_wp2;go_ret;exact⟨rfl,(SE.drew.trans AG).trans AI⟩
theorem zL(x y:Int)(hx:AC x)(hy:AC y)(w:World)(hw:An w):Calls Tryz.prog 331 #[S (I x),S (I y)] w (Be (I (x+y)) w):=by
 by_cases h:(I x).length<=18/\(I y).length<=18
 ·exact Af3 x y h.1 h.2 w hw
 ·exact Af2 x y hx hy h w hw
end Go.Proofs.YtjalkoacphhgdaaGreatDoor
