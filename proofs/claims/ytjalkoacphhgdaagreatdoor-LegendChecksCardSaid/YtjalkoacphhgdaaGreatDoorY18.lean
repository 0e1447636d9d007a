/- Y18: Div3 Int8 IntA. -/
import Derived.Test.YtjalkoacphhgdaaGreatDoorY16
import Derived.Deep.DeepCutAuto
set_option maxRecDepth 100000
set_option maxHeartbeats 4000000
namespace Go.Proofs.YtjalkoacphhgdaaGreatDoor
open Go.RowKit Kl Go.Shelf
theorem Rd.setCell{w:World}{v0:Value}{l:List Nat}(h:Rd w v0 l){p:Addr}{v u:Value}(hp:w.cell? p=some v)(hv:∀n,v≠.int .u64 n):Rd (w.setCell p u) v0 l:=by
 obtain⟨A,c,e,h⟩:=h;exact⟨A,c,e,h.setCell hp hv⟩
theorem BE.setOther{w:World}{A:Option Addr}{c:Nat}{l:List Nat}(h:BE w A c l){p:Addr}(u:Value)(hp:∀b o,0<l.length→A=some ⟨b,o,none⟩→b≠p.block):BE (w.setCell p u) A c l:=
 ⟨h.cap,h.max,h.len,fun h0=>by
  obtain⟨b,o,e,hc⟩:=h.ad h0;refine⟨b,o,e,fun j hj=>?_⟩;rw [World.cell?_setCell_other _ _ _ _ (fun e2=>hp b o h0 e (by rw [e2]))]
  exact hc j hj⟩
theorem Tg{a b:Nat}(h:a<=b):(pc 1000000000 a).length<=(pc 1000000000 b).length:=by
 refine Oe b9 ?_;have h1:=Ig (Be b9 b);rw [AU b9]at h1;omega
theorem Ahv{x f k:Nat}(h:(pc 1000000000 x).length<k)(hf:f<1000000000):(pc 1000000000 (x*f)).length<=k:=by
 refine Oe b9 ?_;have h1:=Ig (Be b9 x);rw [AU b9]at h1
 have h2:(1000000000:Nat)^(pc 1000000000 x).length*1000000000<=1000000000^k:=by rw [←Nat.pow_succ];exact Nat.pow_le_pow_right (by omega) h
 exact AmL (Nat.mul_lt_mul'' h1 hf) h2
theorem AiM{l:List Nat}{j y:Nat}(h:Ah l j=y)(hj:j<l.length):l.set j y=l:=by
 rw [←h];apply List.ext_getElem?;intro i;rw [List.getElem?_set]
 split
 ·next e=>subst e;simp [Ah,hj]
 ·rfl
def vv(wb:World)(xs:List Nat)(Y Q:Nat)(r i:Value)(wr:World):Prop:=
 ∃(k:Nat) (vs:List Nat) (rn:Nat) (z:Int),i=.int .i64 z/\z=(k:Int)-1/\Iv xs vs Y k rn/\(∀j,j<k→Ah vs j=0)/\Rd wr r (pc 1000000000 rn)
  /\wr.ownsRow Q 184 1 (.slice (some ⟨Q,0,none⟩) xs.length xs.length) xs.length (Bd vs)/\Aa wb wr
theorem Abl(x y:Nat)(VN:y<=x)(SD:1000000000<=y)(hlx:(pc 1000000000 x).length<39000)(u v:Value)(w:World)(hu:Rd w u (pc 1000000000 x))(hv:Rd w v (pc 1000000000 y)) :
  Calls Tryz.prog 278 #[u,v] w (O6 (x/y) (x%y) w):=by
 have IQ:=fun W hu hv=>PR (pc 1000000000 x) (pc 1000000000 y) u v W hu hv (Be b9 x) (Be b9 y) (FY b9 x) (FY b9 y)
 obtain⟨s,hs,hs0⟩:∃s:Int,s=D6 x y/\¬s<0:=by
  rcases Nat.lt_or_eq_of_le VN with h|h
  ·exact⟨_,rfl,by rw [Kq h];omega⟩
  ·exact⟨_,rfl,by rw [OI h.symm];omega⟩
 rw [AU b9,AU b9,←hs]at IQ;clear hs;have hx1:=((Aa.refl w).alloc (.cells #[v] 278)).alloc (.cells #[.slice none 0 0] 278);have ho:=IQ _ (hu.ext hx1) (hv.ext hx1);clear IQ;obtain⟨hm0,S6,-,-,-⟩:=YL (y:=y) (t:=y) (AmC _) (by omega) (by omega)
 have IM:2<=(pc 1000000000 y).length:=by
  rcases Nat.lt_or_ge (pc 1000000000 y).length 2 with h|h
  ·exfalso
   have h1:=Ig (Be b9 y);rw [AU b9]at h1;have h2:(1000000000:Nat)^(pc 1000000000 y).length<=1000000000^1:=Nat.pow_le_pow_right (by omega) (by omega);omega
  ·exact h
 have Dx:Ah (pc 1000000000 y) ((pc 1000000000 y).length-1)<1000000000:=Cf (Be b9 y) (by omega);have NV:=hu;have dA:=hv;obtain⟨A,ca,e1,Cp⟩:=NV;obtain⟨B,cb,e2,BR⟩:=dA;have Et:=BR.len;have hcb:=BR.cap;have Sq:=BR.max;obtain⟨bb,ob,rfl,hcs⟩:=BR.ad (by omega);have Dg:=hcs ((pc 1000000000 y).length-1) (by omega);clear hcs;obtain⟨m,hm⟩:=Am8 ((pc 1000000000 y).length);obtain⟨tp,S7⟩:=Am8 (Ah (pc 1000000000 y) (m-1));rw [←hm]at Et hcb IM hm0 e2 Dg Dx S6;rw [←S7]at S6 Dx Dg;have HM:=Am9 hm;have HT:=Am9 S7;clear hm S7
 obtain⟨f,aE,hf0,Po⟩:∃f:Nat,(1000000000:Int)/((tp:Int)+1)=(f:Int)/\0<f/\f<1000000000:=by refine⟨1000000000/(tp+1),by simp,Nat.div_pos (by omega) (by omega),Nat.div_lt_self (by omega) (by omega)⟩
 rw [e1,e2]at ho;rw [e2]at hx1;have hm1:(((m:Nat):Int) == 1)=false:=(by rw [beq_eq_false_iff_ne];omega);subst e1 e2;go_enter Tryz.func278,Tryz.ntmps278;(go_wp2_with fail);(with_reducible refine ho.mono ?_);rintro e w1 ⟨rfl,hx2⟩;obtain⟨hc2,hf2⟩:=hx2.cells;have Ads:=hx2.cellS (hx1.cellS Dg);have hb0:=(hx2.block w.heap.size (by simp;omega)).trans ((Below.heap_alloc _ _ _ (by simp)).trans (AmB w _));have hb1:=hx2.block (w.heap.size+1) (by simp);have RF:=AmB (w.alloc (.cells #[.slice (some ⟨bb,ob,none⟩) m cb] 278)) (.cells #[.slice none 0 0] 278);rw [AmJ]at RF;have hb1:=hb1.trans RF;clear RF
 go_upto_region 13 with fail
 have KZ:Aa w w1.drew:=(hx1.trans hx2).drew;have H8:(pc 1000000000 y).length<=(pc 1000000000 x).length:=Oe b9 (by have:=Ig (Be b9 x);rw [AU b9]at this;omega);have c1:=iH x f Po (by omega) _ w1.drew (hu.ext KZ);have c2:=fun W (hW:Aa w1.drew W)=>iH y f Po (by omega) _ W (hv.ext (KZ.trans hW));have HLM:=Am9 H8;simp only [←aE]at c1 c2;have qo:=Am9 aE;clear aE H8
 go_cut [0] (fun v0 wx=>∃vb,Rd wx v0 (pc 1000000000 (x*f))/\Rd wx vb (pc 1000000000 (y*f))/\wx.heap[w.heap.size]?=some (.cells #[vb] 278 (0,0))/\wx.heap[w.heap.size+1]?=some (.cells #[.slice none 0 0] 278 (0,0))/\Aa w wx)
 case first=>
  refine wp_region_noPanic ?_
  go_region_with (go_at_call 335;(first|((with_reducible refine c1.mono ?_);rintro e w2 ⟨va,rfl,hva,hx3,hf3⟩;clear hf3;have hb2:=(hx3.block _ (AmA hb0)).trans hb0;have hg0:=cell_of_one hb2)|((with_reducible refine(c2 _ (by assumption)).mono ?_);rintro e w3 ⟨vb,rfl,⟨B2,QO,rfl,hvb⟩,Ai,uU⟩;clear uU;have hb3:=(Ai.block _ (AmA hb2)).trans hb2;have hg3:=cell_of_one hb3;have hg4:=free_of_one hb3)))
  all_goals refine NoPanic.normal ?_
  all_goals go_wp2
  all_goals go_meet
  all_goals exact⟨_,(hva.ext Ai).setCell hg3 (by simp),Rd.setCell ⟨B2,QO,rfl,hvb⟩ hg3 (by simp),one_setCell hb3,by rw [Below.heap_setCell _ _ _ _ (by show w.heap.size+1≠w.heap.size;omega)];exact(Ai.block _ (by have:=hx3.size;have:=AmA hb1;show w.heap.size+1<_;have h9:w1.drew.heap.size=w1.heap.size:=rfl;omega)).trans ((hx3.block _ (AmA hb1)).trans hb1),((KZ.trans hx3).trans Ai).setCell (by show w.heap.size<=w.heap.size;omega) _⟩
 case rest=>
  obtain⟨vb,⟨A1,Yw,rfl,VC⟩,⟨B1,QN,rfl,P3⟩,hkb,Sj,MC⟩:=hcut;clear c1 c2 hb0 hb1 KZ hx2 hc2 hf2 Ads Dg ho hx1 hu hv Cp BR;have aW:(pc 1000000000 (x*f)).length<=39000:=Ahv hlx Po;have Mm:0<y*f:=Nat.mul_pos (by omega) hf0;have vR:(pc 1000000000 (y*f)).length<=39000:=AmM (Tg (Nat.mul_le_mul_right f VN)) aW;obtain⟨X,hX⟩:=Am8 (x*f);obtain⟨Y,hY⟩:=Am8 (y*f);rw [←hX]at VC aW ⊢;rw [←hY]at P3 vR Mm hkb;have HX:=Am9 hX;have HY:=Am9 hY;clear hX hY;obtain⟨OV,sF,-,-,-⟩:=YL (y:=Y) (t:=Y) (AmC _) (by omega) Mm;have sH:Ah (pc 1000000000 Y) ((pc 1000000000 Y).length-1)<1000000000:=Cf (Be b9 Y) (by omega);obtain⟨b1,o1,rfl,uG⟩:=P3.ad OV;have IF:=uG ((pc 1000000000 Y).length-1) (by omega);clear uG;have Adp:=P3.cap;have AlL:=P3.max;obtain⟨M,hM⟩:=Am8 ((pc 1000000000 Y).length);obtain⟨T,hT⟩:=Am8 (Ah (pc 1000000000 Y) (M-1));obtain⟨xs,Ic⟩:=Am8 (pc 1000000000 X);have vZ:∀z∈xs,z<1000000000:=(by rw [Ic];exact Be b9 X);rw [←hM]at vR OV IF Adp sF sH hkb;rw [←hT]at IF sF sH;rw [←Ic]at VC aW ⊢;have Nf:=Am9 hM;have kK:=Am9 hT;have uu:=Am9 Ic;clear hM hT Ic;have RY:=cell_of_one Sj;have aJ:=free_of_one Sj;have hgb:=cell_of_one hkb;have S2:=AmA hkb;have FS:=AmA Sj;have hb1:=World.block_lt_of_cell? wc _ IF;have hmk:=eF xs.length (by omega) (xs.length:Int) rfl
  go_upto_region 15 with fail
  clear hmk;have Aep:=VC.setCell (u:=.slice (some ⟨wc.heap.size,0,none⟩) xs.length xs.length) RY (by simp);have wW:=P3.setCell (u:=.slice (some ⟨wc.heap.size,0,none⟩) xs.length xs.length) RY (by simp);have Vt:=one_setCell (u:=.slice (some ⟨wc.heap.size,0,none⟩) xs.length xs.length) Sj;have AdG:=(Below.heap_setCell wc ⟨w.heap.size+1,0,none⟩ (.slice (some ⟨wc.heap.size,0,none⟩) xs.length xs.length) w.heap.size (by show w.heap.size≠w.heap.size+1;omega)).trans hkb;have hxb:=MC.setCell (p:=⟨w.heap.size+1,0,none⟩) (by show w.heap.size<=w.heap.size+1;omega) (.slice (some ⟨wc.heap.size,0,none⟩) xs.length xs.length);have xU:(wc.setCell ⟨w.heap.size+1,0,none⟩ (.slice (some ⟨wc.heap.size,0,none⟩) xs.length xs.length)).heap.size=wc.heap.size:=(by simp);generalize wc.setCell ⟨w.heap.size+1,0,none⟩ (.slice (some ⟨wc.heap.size,0,none⟩) xs.length xs.length)=wb at *;clear VC P3 Sj hkb RY aJ hgb hb1 IF MC;rw [←xU]at S2 FS Vt ⊢;clear xU
  have IF:wb.cell? ⟨b1,o1+(M-1),none⟩=some (.int .u64 (T:Nat)):=by obtain⟨b3,o3,e3,Adr⟩:=wW.ad (by have:=Nf.out;omega);simp only [AmG,Addr.mk.injEq,and_true]at e3;obtain⟨rfl,rfl⟩:=e3;have h:=Adr (M-1) (by have:=Nf.out;omega);rw [←kK.out]at h;exact h
  have hb1:=World.block_lt_of_cell? wb _ IF;have hgb:=cell_of_one AdG;have how:=fJ wb wb.heap.size xs.length (AmC _) (by omega);go_wp2
  go_loopw [5,11] (fun r i wr=>vv wb xs Y wb.heap.size r i wr) (fun _ i _=>(intOf i+1).toNat)
  case atStart=>exact⟨xs.length,List.replicate xs.length 0,0,_,rfl,rfl,Iv.start Mm,fun j hj=>by simp only [Ah,List.getD_eq_getElem?_getD,List.getElem?_replicate];split<;>rfl,⟨none,0,by rw [Ij];rfl,by rw [Ij];exact⟨by simp,by omega,by simp,fun h=>by simp at h⟩⟩,how,(Aa.refl wb).alloc _⟩
  case round=>
   obtain⟨k,vs,rn,z,rfl,hz,hI,JI,Dw,hown,Ac⟩:=hrel;clear how;have hZ:=Am9 hz;have Cm:=hI.le;by_cases hk:0<k
   ·have hz0:0<=z:=(by omega);obtain⟨j,rfl⟩:=Int.eq_ofNat_of_zero_le hz0;obtain rfl:k=j+1:=(by omega);clear hz;obtain⟨ba,oa,rfl,uH⟩:=Aep.ad (by omega);have hg:=Ac.cellS (uH j (by omega));clear uH;obtain⟨wo,rfl⟩:=Am8 (wr:World);have Vq:j<xs.length:=Cm;have BS:=Cf vZ Vq;have AlJ:(pc 1000000000 rn).length<=M:=by rw [Nf.out];exact Tg (Nat.le_of_lt hI.rl)
    have JD:(wo.alloc (.cells #[.int .u64 (Ah xs j:Nat)] 184)).ownsRow wo.heap.size 184 1 (.slice (some ⟨wo.heap.size,0,none⟩) 1 1) 1 (Bd [Ah xs j]):=by
     have h:=World.ownsRow_lit (w:=wo) (base:=wo.heap.size) (e:=184) (size:=1) #[.int .u64 (Ah xs j:Nat)] 1 (AmC _) (by unfold maxLen;omega) (by simp)
     simpa [Bd]using h
    have xG:=Dw.ext ((Aa.refl wo).alloc (.cells #[.int .u64 (Ah xs j:Nat)] 184))
    go_wp2_with (at_builtin;go_loud (refine yi rfl _ _ rfl _ wo.heap.size (.slice (some ⟨wo.heap.size,0,none⟩) 1 1) 1 [Ah xs j] rfl JD (pc 1000000000 rn) u5 rfl xG (by omega) (by rw [AmJ];omega) ?_);intro v1 w1 hown1 hx1)
    have wY:Rd w1 v1 ([Ah xs j]++pc 1000000000 rn):=Rd.of_own (by simpa [Nat.add_comm]using hown1) (by simp;omega)
    have Gn:∀z∈[Ah xs j]++pc 1000000000 rn,z<1000000000:=by
     intro z hz
     rcases List.mem_append.1 hz with h|h
     ·simp only [AmO]at h;omega
     ·exact Be b9 rn z h
    have e1:Aa wo w1:=hx1 wo ((Aa.refl wo).alloc _) (AmC _);refine(trim_c _ _ _ wY Gn).mono ?_;rintro e w2 ⟨v2,rfl,hv2,hx2⟩;have e2:Aa wo w2:=e1.trans hx2;obtain⟨t,ht⟩:=Am8 (rn*1000000000+Ah xs j);rw [show Ag 1000000000 ([Ah xs j]++pc 1000000000 rn)=t by simp [Ag,AU b9];omega]at hv2;have hst:=hI.step Mm vZ ht;have HTT:=Am9 ht
    have P4:t<Y*1000000000:=by have h1:rn+1<=Y:=hI.rl;have h2:(rn+1)*1000000000<=Y*1000000000:=Nat.mul_le_mul_right _ h1;omega
    clear ht hown1 hx1 JD xG wY Gn hg Dw;have SC:Aa wb w2:=Ac.trans e2;have vC:=SC.cellS hgb;have cI:∀W,Aa wb W→Rd W (.slice (some ⟨b1,o1,none⟩) M QN) (pc 1000000000 Y):=fun W hW=>⟨_,_,by rw [Nf.out],wW.ext hW⟩;have ho:=PR (pc 1000000000 t) (pc 1000000000 Y) v2 _ w2 hv2 (cI w2 SC) (Be b9 t) (Be b9 Y) (FY b9 t) (FY b9 Y);rw [AU b9,AU b9]at ho;have hown2:=AI hown e2;have hlen:=hI.len;have HLEN:=Am9 hlen;have Lb:=JI j (by omega);have uw:=Am9 Lb;clear hlen Lb;by_cases cR:t<Y
    ·rw [LU cR]at ho;(go_wp2_with fail);(with_reducible refine ho.mono ?_);rintro e w3 ⟨rfl,hx3⟩;go_wp2;go_roundw
     case rel=>rw [Nat.div_eq_of_lt cR,Nat.mod_eq_of_lt cR,AiM uw.out (by rw [HLEN.out];exact Vq)]at hst;exact⟨j,vs,t,_,by go_num,rfl,hst,fun i hi=>JI i (by omega),hv2.ext hx3,AI hown2 hx3,SC.trans hx3⟩
     case measure=>simp [intOf]
    ·have sU:Y<=t:=by omega
     obtain⟨s2,hs2,Aeu⟩:∃s2:Int,s2=D6 t Y/\¬s2<0:=by
      rcases Nat.lt_or_eq_of_le sU with h|h
      ·exact⟨_,rfl,by rw [Kq h];omega⟩
      ·exact⟨_,rfl,by rw [OI h.symm];omega⟩
     rw [←hs2]at ho;clear hs2;obtain⟨-,-,EP,ER,FB⟩:=YL sU P4 Mm;have Zs:=Be b9 t;obtain⟨A2,c2,rfl,hr2⟩:=hv2;have uE:=hr2.cap;have AlK:=hr2.max;have hlen2:=hr2.len;have ES:=Nf.out;rw [←ES]at EP ER FB;rw [←kK.out]at FB;clear ES;obtain⟨b2,o2,rfl,ZW⟩:=hr2.ad (by omega);have Va:=ZW ((pc 1000000000 t).length-1) (by omega);have Vb:=ZW ((pc 1000000000 t).length-2) (by omega);clear ZW;have AS:=Cf Zs (show (pc 1000000000 t).length-1<(pc 1000000000 t).length by omega);have Bt:=Cf Zs (show (pc 1000000000 t).length-2<(pc 1000000000 t).length by omega);obtain⟨N,hN⟩:=Am8 ((pc 1000000000 t).length);rw [←hN]at EP ER FB uE hlen2 Va Vb AS Bt ho ⊢;obtain⟨q1,wP⟩:=Am8 (Ah (pc 1000000000 t) (N-1));obtain⟨q2,wQ⟩:=Am8 (Ah (pc 1000000000 t) (N-2));rw [←wP]at FB Va AS;rw [←wQ]at FB Vb Bt;have HN:=Am9 hN;clear hN wP wQ Zs
     obtain⟨d0,Vg,IH,uK⟩:∃d0:Nat,d0=(if M<N then q1*1000000000+q2 else q1)/\t/Y<=d0/T/\d0<1000000000000000000:=by
      refine⟨_,rfl,FB,?_⟩
      split<;>omega
     have jN:=Am9 Vg;clear Vg FB;(go_wp2_with fail);(with_reducible refine ho.mono ?_);rintro e w3 ⟨rfl,hx3⟩;have Ad7:=hx3.cellS vC;have Adk:=hx3.cellS Va;have Adl:=hx3.cellS Vb;clear Va Vb vC ho
     go_upto_if 103 with fail
     go_cut [12] (fun d wx=>d=.int .u64 (d0:Nat)/\wx=w3)
     case first=>
      by_cases rN:M<N
      ·have e0:((q1:Int)*1000000000+(q2:Int))=(d0:Int):=(by rw [jN.out,if_pos rN];omega);go_wp2;go_meet
       case rel=>exact⟨by go_num,rfl⟩
      ·have e0:d0=q1:=(by rw [jN.out,if_neg rN]);go_wp2;go_meet
       case rel=>exact⟨by rw [e0],rfl⟩
     case rest=>
      obtain⟨rfl,rfl⟩:=hcut;have hqd:t/Y<1000000000:=by rw [Nat.div_lt_iff_lt_mul Mm,Nat.mul_comm];exact P4
      obtain⟨dm,Pk,Adx,uN⟩:∃dm:Nat,min (IntKind.u64.wrap ((d0:Int)/(T:Int))) 999999999=(dm:Int)/\t/Y<=dm/\dm<1000000000:=by
       have e1:(d0:Int)/(T:Int)=((d0/T:Nat):Int):=(by simp);refine⟨min (d0/T) 999999999,?_,?_,?_⟩
       ·have h1:d0/T<=d0:=Nat.div_le_self _ _;rw [e1,IntKind.wrap_u64];generalize d0/T=q at *;omega
       ·omega
       ·omega
      have AeI:=SC.trans hx3;have JF:=iH Y dm uN (by rw [←Nf.out];omega) _ _ (cI _ AeI);have wV:∀W,Aa w2 W→Rd W (.slice (some ⟨b2,o2,none⟩) N c2) (pc 1000000000 t):=fun W hW=>⟨_,_,by rw [HN.out],hr2.ext hW⟩;(go_wp2_with fail);(with_reducible refine JF.mono ?_);rintro e w4 ⟨vp,rfl,hvp,Ai,hfp⟩;clear hfp Pk;have Ad8:=Ai.cellS Ad7;have VL:=hx3.trans Ai;have yH:=SC.trans VL;go_wp2
      go_loopw [12,13] (fun d p wr=>∃dn:Nat,d=.int .u64 (dn:Nat)/\t/Y<=dn/\dn<1000000000/\Rd wr p (pc 1000000000 (dn*Y))/\Aa w4 wr) (fun d _ _=>(intOf d).toNat)
      case atStart=>exact⟨dm,rfl,Adx,uN,by rw [Nat.mul_comm];exact hvp,Aa.refl _⟩
      case round=>
       obtain⟨dn,rfl,Vh,Ep,hp,Ad⟩:=hrel;have Cj:=PR (pc 1000000000 (dn*Y)) (pc 1000000000 t) _ _ wr hp (wV wr (VL.trans Ad)) (Be b9 _) (Be b9 t) (FY b9 _) (FY b9 t);rw [AU b9,AU b9]at Cj;clear JF Adk Adl;by_cases Er:t<dn*Y
       ·rw [Kq Er]at Cj;(go_wp2_with fail);(with_reducible refine Cj.mono ?_);rintro e w5 ⟨rfl,AH⟩;have Al3:=(Ad.trans AH).cellS Ad8;have hdY:dn*Y<=1000000000*Y:=Nat.mul_le_mul_right _ (by omega)
        have Vg:0<dn:=by
         rcases Nat.eq_zero_or_pos dn with h|h
         ·rw [h]at Er;omega
         ·exact h
        have sT:Y<=dn*Y:=Nat.le_mul_of_pos_left _ Vg
        have hlp:(pc 1000000000 (dn*Y)).length<=M+1:=by refine Oe b9 ?_;have h1:=Ig (Be b9 Y);rw [AU b9,←Nf.out]at h1;rw [Nat.pow_succ,Nat.mul_comm];exact Nat.mul_lt_mul'' h1 Ep
        have Sp:=SN (pc 1000000000 (dn*Y)) (pc 1000000000 Y) _ _ w5 (hp.ext AH) (cI _ (yH.trans (Ad.trans AH))) (by omega) (Be b9 _) (Be b9 Y) (Tg sT) (by rw [AU b9,AU b9];exact sT);rw [AU b9,AU b9]at Sp;(go_wp2_with fail);(with_reducible refine Sp.mono ?_);rintro e w6 ⟨p2,rfl,KU,AB⟩
        have hdq:t/Y<=dn-1:=by have:t/Y<dn:=(by rw [Nat.div_lt_iff_lt_mul Mm];exact Er);omega
        go_wp2;go_roundw
        case rel=>exact⟨dn-1,by go_num,hdq,by omega,by rw [Nat.sub_mul,Nat.one_mul];exact KU,Ad.trans (AH.trans AB)⟩
        case measure=>simp [intOf];omega
       ·have GO:dn=t/Y:=by have h:dn<=t/Y:=(by rw [Nat.le_div_iff_mul_le Mm];omega);omega
        obtain⟨s5,hs5,AlY⟩:∃s5:Int,s5=D6 (dn*Y) t/\¬s5>0:=by
         rcases Nat.lt_or_eq_of_le (Nat.le_of_not_lt Er)with h|h
         ·exact⟨_,rfl,by rw [LU h];omega⟩
         ·exact⟨_,rfl,by rw [OI h];omega⟩
        rw [←hs5]at Cj;have TD:=Am9 GO;clear hs5 GO;(go_wp2_with fail);(with_reducible refine Cj.mono ?_);rintro e w5 ⟨rfl,AH⟩;have dE:=Ad.trans AH;have yI:=yH.trans dE;have AdA:=yI.cellS (cell_of_one Vt);have vS:dn*Y<=t:=Nat.le_of_not_lt Er;have Sp:=ac (pc 1000000000 t) (pc 1000000000 (dn*Y)) _ _ w5.drew ((wV _ (VL.trans dE)).ext (Aa.refl w5).drew) ((hp.ext AH).ext (Aa.refl w5).drew) (by rw [←HN.out];omega) (Be b9 t) (Be b9 _) (Tg vS) (by rw [AU b9,AU b9];exact vS);rw [AU b9,AU b9]at Sp;have wJ:=AI hown2 (VL.trans dE);have IW:vs.length=xs.length:=HLEN.out;have kN:=Am9 IW
        go_upto_region 29 with fail
        clear IW;refine wp_region_noPanic ?_
        go_region_with (go_at_call 336;((with_reducible refine Sp.mono ?_);rintro e w6 ⟨v6,rfl,⟨A6,c6,rfl,Ex⟩,AB,aB⟩;have qm:=Am9 aB;clear aB;have Al4:=AB.cellS (show w5.drew.cell? ⟨w.heap.size+1,0,none⟩=_ from AdA);have bP:=AI (Wv wJ) AB;have hgo:w6.cell? ⟨wb.heap.size,j,none⟩=some (.int .u64 (Ah vs j:Nat)):=(by rw [bP.cellAt j (by omega)];simp [Bd,Ah,kN.out,Vq]);have Vl:=bP.frozenAt j))
        all_goals refine NoPanic.normal ?_
        all_goals go_wp2
        all_goals
         go_roundw
         case rel=>
          have AdP:wb.heap.size<w5.heap.size:=World.block_lt_of_cell? w5 ⟨wb.heap.size,j,none⟩ (u:=.int .u64 (Ah vs j:Nat)) (by rw [wJ.cellAt j (by omega)];simp [Bd,Ah,kN.out,Vq]);obtain rfl:=TD.out;have xR:=(bP.stored j (.int .u64 ((t/Y:Nat):Int))).1;rw [WW]at xR;rw [show t-t/Y*Y=t%Y by rw [Nat.mod_eq_sub_mul_div,Nat.mul_comm]]at Ex ⊢;refine⟨j,vs.set j (t/Y),t%Y,_,by go_num,rfl,hst,fun i hi=>?_,⟨A6,c6,rfl,Ex.setOther _ (fun b o _ hb=>?_)⟩,xR,?_⟩
          ·have h:=JI i (by omega);simp only [Ah,List.getD_eq_getElem?_getD,List.getElem?_set_ne (show j≠i by omega)]at h ⊢;exact h
          ·have h:w5.heap.size<=b:=qm.out b (by rw [hb];rfl);show b≠wb.heap.size;omega
          ·exact((yI.drew).trans AB).setCell (by show wb.heap.size<=wb.heap.size;omega) _
         case measure=>simp [intOf]
   ·obtain rfl:k=0:=(by omega);obtain rfl:z = -1:=(by omega);obtain⟨hq,hr⟩:=hI.done;rw [uu.out,AU b9]at hq hr;rw [HX.out,HY.out,Nat.mul_div_mul_right _ _ hf0]at hq;rw [HX.out,HY.out,Nat.mul_mod_mul_right]at hr;have xB:rn/f=x%y:=(by rw [hr,Nat.mul_div_cancel _ hf0]);have vW:=hI.lt;have HQ:=Am9 hq;have DJ:=Am9 xB;clear hz hq hr xB JI;have RY:=Ac.cellS (cell_of_one Vt)
    have Sx:BE wr (some ⟨wb.heap.size,0,none⟩) xs.length vs:=by obtain⟨A',c',e1,h1⟩:=Rd.of_own (base:=wb.heap.size) (l:=vs) (by rw [hI.len];exact hown) (by rw [hI.len];omega);simp only [Value.slice.injEq]at e1;obtain⟨rfl,_,rfl⟩:=e1;exact h1
    have JD:BE (wr.alloc (.cells #[.int .u64 (f:Nat)] 184)) (some ⟨wr.heap.size,0,none⟩) 1 (pc 1000000000 f):=by
     have h:BE (wr.alloc (.cells #[.int .u64 (f:Nat)] 184)) (some ⟨wr.heap.size,0,none⟩) 1 [f]:=
      ⟨by simp,by omega,by simp,fun _=>⟨wr.heap.size,0,rfl,fun j hj=>by
       obtain rfl:j=0:=by simpa using hj
       rw [World.cell?_alloc_at _ _ _ _ (by rfl)];simp [Ah]⟩⟩
     rw [fN b9 hf0 Po];exact h
    have RQ:=oS rn f hf0 Po _ _ _ (Dw.ext ((Aa.refl wr).alloc _)) ⟨_,_,rfl,JD⟩;rw [fN b9 hf0 Po]at RQ;simp only [List.length_singleton]at RQ;simp only [←qo.out]at RQ;(go_wp2_with fail);(with_reducible refine RQ.mono ?_);rintro e w7 ⟨vq,vr,rfl,dC,VK,AB⟩;clear VK RQ;have VM:=((Aa.refl wr).alloc (.cells #[.int .u64 (1000000000/(tp+1))] 184)).trans AB;have aQ:=VM.cellS RY;have xF:=Sx.ext VM;have Al2:=free_of_one ((VM.block _ (by have:=Ac.size;omega)).trans ((Ac.block _ FS).trans Vt));have ht:=Qm vs _ _ w7 xF vW;rw [hI.len]at ht;(go_wp2_with fail);(with_reducible refine ht.mono ?_);rintro e w8 ⟨rfl,rfl⟩;go_wp2;refine bodyPost_ret (v:=.tuple #[.slice (some ⟨wb.heap.size,0,none⟩) (pc 1000000000 (Ag 1000000000 vs)).length xs.length,vq]) (by simp [results,Tryz.results278,go_sem,aQ]) rfl ?_;refine⟨_,_,rfl,⟨_,_,by rw [HQ.out],?_⟩,?_,?_⟩
    ·rw [←HQ.out];exact(xF.pc vW).setCell aQ (by simp)
    ·rw [←DJ.out];exact dC.setCell aQ (by simp)
    ·exact((hxb.trans Ac).trans VM).setCell (by show w.heap.size<=w.heap.size+1;omega) _
theorem Ux(x y:Nat)(hy:0<y)(hlx:(pc 1000000000 x).length<39000)(u v:Value)(w:World)(hu:Rd w u (pc 1000000000 x))(hv:Rd w v (pc 1000000000 y)) :
  Calls Tryz.prog 278 #[u,v] w (O6 (x/y) (x%y) w):=by
 rcases Nat.lt_or_ge x y with h|h
 ·rw [Nat.div_eq_of_lt h,Nat.mod_eq_of_lt h];exact oR x y h u v w hu hv
 ·rcases Nat.lt_or_ge y 1000000000 with h2|h2
  ·exact oS x y hy h2 u v w hu hv
  ·exact Abl x y h h2 hlx u v w hu hv
end Go.Proofs.YtjalkoacphhgdaaGreatDoor
namespace Go.Proofs.YtjalkoacphhgdaaGreatDoor
open Go.RowKit Kl
theorem Ahw{n k:Nat}(h:n<10^(9*k)):(pc 1000000000 n).length<=k:=by
 refine Oe b9 ?_;rw [Nat.pow_mul]at h;exact h
theorem Agc{x a b:Nat}(h:x<10^a)(hab:a<=b):x<10^b:=AmL h (Nat.pow_le_pow_right (by omega) hab)
theorem AC.pc{z:Int}(h:AC z):(pc 1000000000 z.natAbs).length<=445:=by
 obtain⟨m,hm⟩:=Am8 (445);rw [←hm];exact Ahw (Agc h (show Ui<=9*m by rw [hm];decide))
theorem LS(m:Bool)(x:Nat):Ei m x=I (if m then -(x:Int)else x):=by
 unfold Ei;by_cases h:x=0
 ·subst h;rw [if_pos rfl];cases m<;>simp [Q7]
 ·rw [if_neg h]
  cases m
  ·rw [if_neg (by simp),if_neg (by simp),Ef]
  ·rw [if_pos rfl,if_pos rfl,TO x (by omega)]
theorem Lp{z:Int}{k:Nat}(h:(I z).length<=k):Og z k=.tuple #[.int .i64 z,.bool true]:=if_pos h
theorem Qc{z:Int}{k:Nat}(h:¬(I z).length<=k):Og z k=.tuple #[.int .i64 0,.bool false]:=if_neg h
theorem WA(z:Int)(w:World):Calls Tryz.prog 223 #[S (I z),.int .i64 9] w (Ce (Og z 9) w):=ja z 9 (by omega) w
theorem MQ(z:Int)(w:World):Calls Tryz.prog 223 #[S (I z),.int .i64 18] w (Ce (Og z 18) w):=ja z 18 (by omega) w
theorem MU{z:Int}{k:Nat}(h:(I z).length<=k):z.natAbs<10^k:=by
 rcases DK z with⟨n,rfl,e⟩|⟨n,hn,rfl,e⟩
 ·rw [e]at h;simpa using Li (n:=n) (k:=k) (by omega)
 ·rw [e,List.length_cons]at h;simpa using Li (n:=n) (k:=k) (by omega)
theorem MX{x y:Int}(hx:x.natAbs<1000000000)(hy:y.natAbs<1000000000):IntKind.i64.wrap (x*y)=x*y:=by
 have h:=SQ hx hy;rw [←Int.natAbs_mul]at h;exact AmI _ (by omega)
theorem Agt{x y:Int}(hx:x.natAbs<1000000000)(hy:y.natAbs<1000000000):-9223372036854775808<=x*y/\x*y<=9223372036854775807:=by
 have h:=SQ hx hy;rw [←Int.natAbs_mul]at h;omega
theorem Agu(x y:Int):x*y=if (decide (x<0) != decide (y<0))=true then -((x.natAbs*y.natAbs:Nat):Int)else ((x.natAbs*y.natAbs:Nat):Int):=by
 rw [←Int.natAbs_mul];by_cases hx:x<0<;>by_cases hy:y<0<;>simp [hx,hy]
 ·have:=Int.mul_nonneg_of_nonpos_of_nonpos (Int.le_of_lt hx) (Int.le_of_lt hy);omega
 ·have:=Int.mul_nonpos_of_nonpos_of_nonneg (Int.le_of_lt hx) (show 0<=y by omega);omega
 ·have:=Int.mul_nonpos_of_nonneg_of_nonpos (show 0<=x by omega) (Int.le_of_lt hy);omega
 ·have:=Int.mul_nonneg (show 0<=x by omega) (show 0<=y by omega);omega
theorem AeV(x y:Int)(hx:(I x).length<=9)(hy:(I y).length<=9)(w:World)(hw:An w) :
  Calls Tryz.prog 146 #[S (I x),S (I y)] w (Bf (I (x*y)) w):=by
 have q1:=WA x;have q2:=WA y;rw [Lp hx]at q1;rw [Lp hy]at q2;have b1:=MU hx;have b2:=MU hy;have hwr:=MX b1 b2;have hin:=Agt b1 b2;have ho:=fun W hW=>dL (x*y) hin.1 hin.2 W hW;clear hx hy b1 b2 hin;go_enter Tryz.func146,Tryz.ntmps146;(go_wp2_with fail);(with_reducible refine(q1 _).mono ?_);rintro e w1 ⟨rfl,hx1⟩;(go_wp2_with fail);(with_reducible refine(q2 _).mono ?_);rintro e w2 ⟨rfl,hx2⟩;have BN:=hx1.trans hx2;(go_wp2_with fail);(with_reducible refine(ho _ (hw.ext BN)).mono ?_);rintro e w3 ⟨rfl,hx3⟩;go_wp2;go_ret;exact⟨rfl,BN.trans hx3⟩
theorem Ab{W:World}{b o:Nat}{cs:Array Value}{t:TypeId}{fz:Nat×Nat}{v:Value}(h:W.heap[b]?=some (.cells cs t fz))(hv:cs[o]?=some v):W.cell? ⟨b,o,none⟩=some v:=by
 unfold World.cell?;simp [h,hv]
theorem LO(w:World)(a b c d:Value)(s t:TypeId):∃W,W=(w.alloc (.cells #[a,b] s)).alloc (.cells #[c,d] t)/\Aa w W/\W.heap[w.heap.size]?=some (.cells #[a,b] s)/\W.heap[w.heap.size+1]?=some (.cells #[c,d] t):=by
 refine⟨_,rfl,((Aa.refl _).alloc _).alloc _,(Below.heap_alloc _ _ _ (by simp)).trans (AmB w _),?_⟩;have h:=AmB (w.alloc (.cells #[a,b] s)) (.cells #[c,d] t)
 rwa [AmJ]at h
theorem AeU(x y:Int)(hx:AC x)(hy:AC y)(hn:¬((I x).length<=9/\(I y).length<=9))(w:World)(hw:An w) :
  Calls Tryz.prog 146 #[S (I x),S (I y)] w (Bf (I (x*y)) w):=by
 have q1:=WA x;have q2:=WA y;have lx:=hx.pc;have ly:=hy.pc;have o1:=fD x hx;have o2:=fD y hy;have HS:Hid (x*y=if (!(decide (x<0) == decide (y<0)))=true then -((x.natAbs*y.natAbs:Nat):Int)else ((x.natAbs*y.natAbs:Nat):Int)):=Am9 (Agu x y);clear hx hy;by_cases h1:(I x).length<=9
 case' pos=>rw [Lp h1]at q1;rw [Qc fun h=>hn ⟨h1,h⟩]at q2;clear h1 hn;go_enter Tryz.func146,Tryz.ntmps146;(go_wp2_with fail);(with_reducible refine(q1 _).mono ?_);rintro e w1 ⟨rfl,hx1⟩;(go_wp2_with fail);(with_reducible refine(q2 _).mono ?_);rintro e w2 ⟨rfl,hx2⟩;have hx:=hx1.trans hx2;clear hx1 hx2;(go_wp2_with fail)
 case' neg=>rw [Qc h1]at q1;clear h1 hn;go_enter Tryz.func146,Tryz.ntmps146;(go_wp2_with fail);(with_reducible refine(q1 _).mono ?_);rintro e w2 ⟨rfl,hx⟩;(go_wp2_with fail)
 all_goals
  clear q1 q2;(with_reducible refine(o1 _).mono ?_);rintro e w3 ⟨v3,rfl,⟨A3,c3,rfl,hv3⟩,hx3⟩;(go_wp2_with fail);(with_reducible refine(o2 _).mono ?_);rintro e w4 ⟨v4,rfl,⟨A4,c4,rfl,hv4⟩,Ai⟩;have hx:=(hx.trans hx3).trans Ai;have hv3:=hv3.ext Ai;clear o1 o2 hx3 Ai;(go_wp2_with fail);obtain⟨W,hW,hE,hb1,hb2⟩:=LO w4 (.bool (decide (x<0))) (.slice A3 (pc 1000000000 x.natAbs).length c3) (.bool (decide (y<0))) (.slice A4 (pc 1000000000 y.natAbs).length c4) 280 280;rw [←hW];have hv3:=hv3.ext hE.drew;have hv4:=hv4.ext hE.drew;have Bi:=hx.trans hE;have k1:W.cell? ⟨w4.heap.size,0,none⟩=some (.bool (decide (x<0))):=Ab hb1 rfl;have k2:W.cell? ⟨w4.heap.size,1,none⟩=some (.slice A3 (pc 1000000000 x.natAbs).length c3):=Ab hb1 rfl;have k3:W.cell? ⟨w4.heap.size+1,0,none⟩=some (.bool (decide (y<0))):=Ab hb2 rfl;have k4:W.cell? ⟨w4.heap.size+1,1,none⟩=some (.slice A4 (pc 1000000000 y.natAbs).length c4):=Ab hb2 rfl;clear hW hb1 hb2 hE hx;have ht:=AjL (pc 1000000000 x.natAbs) (pc 1000000000 y.natAbs) _ _ W.drew ⟨_,_,rfl,hv3⟩ ⟨_,_,rfl,hv4⟩ (by omega) (by omega) (Be b9 _) (Be b9 _);rw [AU b9,AU b9]at ht;have hc:=fun W2 (A5:Option Addr) (c5:Nat) (h:Aa W.drew W2) (h2:BE W2 A5 c5 (pc 1000000000 (x.natAbs*y.natAbs)))=>EL (!(decide (x<0) == decide (y<0))) (x.natAbs*y.natAbs) (.slice A5 (pc 1000000000 (x.natAbs*y.natAbs)).length c5) W2 (hw.ext (Bi.drew.trans h)) ⟨A5,c5,rfl,h2⟩;rw [LS,←HS.out]at hc
  go_region_held3 (fun w'=>w'.cell? ⟨w4.heap.size,0,none⟩=some (.bool (decide (x<0)))/\w'.cell? ⟨w4.heap.size,1,none⟩=some (.slice A3 (pc 1000000000 x.natAbs).length c3)/\w'.cell? ⟨w4.heap.size+1,0,none⟩=some (.bool (decide (y<0)))/\w'.cell? ⟨w4.heap.size+1,1,none⟩=some (.slice A4 (pc 1000000000 y.natAbs).length c4))
   (first|go_keep|exact⟨Ad.cellS k1,Ad.cellS k2,Ad.cellS k3,Ad.cellS k4⟩|exact⟨(Ad.trans AH).cellS k1,(Ad.trans AH).cellS k2,(Ad.trans AH).cellS k3,(Ad.trans AH).cellS k4⟩)
   (first|((with_reducible refine ht.mono ?_);rintro e w5 ⟨v5,rfl,⟨A5,c5,rfl,hv5⟩,Ad⟩)|((with_reducible refine(hc _ _ _ Ad hv5).mono ?_);rintro e w6 ⟨rfl,AH⟩))
  go_wp2;go_ret;exact⟨rfl,(Bi.drew.trans Ad).trans AH⟩
theorem Gt(x y:Int)(hx:AC x)(hy:AC y)(w:World)(hw:An w):Calls Tryz.prog 146 #[S (I x),S (I y)] w (Bf (I (x*y)) w):=by
 by_cases h:(I x).length<=9/\(I y).length<=9
 ·exact AeV x y h.1 h.2 w hw
 ·exact AeU x y hx hy h w hw
def xh(s:Bool)(n:Nat)(w:World)(e:Ending)(w':World):Prop:=∃A c,e=.returned (.agg #[.bool s,.slice A (pc 1000000000 n).length c])/\BE w' A c (pc 1000000000 n)/\Aa w w'
theorem JP(z:Int)(hz:AC z)(s:Bool)(hs:s=decide (z<0))(w:World):Calls Tryz.prog 225 #[S (I z)] w (xh s z.natAbs w):=by
 subst hs;refine(fD z hz w).mono ?_;rintro e w' ⟨v,rfl,⟨A,c,rfl,h⟩,hx⟩;exact⟨A,c,rfl,h,hx⟩
theorem BE.rd{w:World}{A:Option Addr}{c:Nat}{l:List Nat}(h:BE w A c l):Rd w (.slice A l.length c) l:=⟨A,c,rfl,h⟩
theorem Ll{a b:Nat}(h:a<=b):(pc 1000000000 a).length<=(pc 1000000000 b).length:=Tg h
structure Om(W:World)(b:Nat)(sx sy:Bool)(v u:Value):Prop where
 k1:W.cell? ⟨b,0,none⟩=some (.bool sx)
 k2:W.cell? ⟨b,1,none⟩=some v
 k3:W.cell? ⟨b+1,0,none⟩=some (.bool sy)
 k4:W.cell? ⟨b+1,1,none⟩=some u
theorem Om.ext{W W':World}{b:Nat}{sx sy:Bool}{v u:Value}(h:Om W b sx sy v u)(hx:Aa W W'):Om W' b sx sy v u:=
 ⟨hx.cellS h.k1,hx.cellS h.k2,hx.cellS h.k3,hx.cellS h.k4⟩
theorem AV{W:World}{b o:Nat}{cs:Array Value}{t:TypeId}(h:W.heap[b]?=some (.cells cs t)):W.frozen? ⟨b,o,none⟩=false:=by unfold World.frozen?;simp [h]
structure Kept(w5 V:World)(b:Nat):Prop where
 ext:∀w0,Aa w0 w5→w0.heap.size<=b→Aa w0 V
 rd:∀A c l,BE w5 A c l→BE V A c l
theorem Kept.refl(w:World)(b:Nat):Kept w w b:=⟨fun _ h _=>h,fun _ _ _ h=>h⟩
theorem Kept.set{w5 V:World}{b k o:Nat}(h:Kept w5 V b)(hk:b<=k){v u:Value}(hv:V.cell? ⟨k,o,none⟩=some v)(hn:∀n,v≠.int .u64 n):Kept w5 (V.setCell ⟨k,o,none⟩ u) b:=
 ⟨fun w0 h0 hb=>(h.ext w0 h0 hb).setCell (by show w0.heap.size<=k;omega) _,fun A c l hr=>(h.rd A c l hr).setCell hv hn⟩
theorem Aj9{w:World}{b:Nat}{sx sy:Bool}{A3 A4:Option Addr}{n3 n4 c3 c4:Nat}(h:Om w b sx sy (.slice A3 n3 c3) (.slice A4 n4 c4)) :
  ∃V,V=(((w.setCell ⟨b,0,none⟩ (.bool sy)).setCell ⟨b,1,none⟩ (.slice A4 n4 c4)).setCell ⟨b+1,0,none⟩ (.bool sx)).setCell ⟨b+1,1,none⟩ (.slice A3 n3 c3)/\
   Om V b sy sx (.slice A4 n4 c4) (.slice A3 n3 c3)/\Kept w V b:=by
 obtain⟨k1,k2,k3,k4⟩:=h;have e1:=World.cell?_setCell_same w _ (.bool sy) k1;have e2:(w.setCell ⟨b,0,none⟩ (.bool sy)).cell? ⟨b,1,none⟩=_:=(World.cell?_setCell_other _ _ _ _ (by simp)).trans k2;have e3:(w.setCell ⟨b,0,none⟩ (.bool sy)).cell? ⟨b+1,0,none⟩=_:=(World.cell?_setCell_other _ _ _ _ (by simp)).trans k3;have e4:(w.setCell ⟨b,0,none⟩ (.bool sy)).cell? ⟨b+1,1,none⟩=_:=(World.cell?_setCell_other _ _ _ _ (by simp)).trans k4;have z1:=(Kept.refl w b).set (AmC b) (u:=.bool sy) k1 (by simp);have z2:=z1.set (AmC b) (u:=.slice A4 n4 c4) e2 (by simp);have f1:=(World.cell?_setCell_other (w.setCell ⟨b,0,none⟩ (.bool sy)) ⟨b,1,none⟩ ⟨b,0,none⟩ (.slice A4 n4 c4) (by simp)).trans e1;have f2:=World.cell?_setCell_same (w.setCell ⟨b,0,none⟩ (.bool sy)) _ (.slice A4 n4 c4) e2;have f3:=(World.cell?_setCell_other (w.setCell ⟨b,0,none⟩ (.bool sy)) ⟨b,1,none⟩ ⟨b+1,0,none⟩ (.slice A4 n4 c4) (by simp)).trans e3;have f4:=(World.cell?_setCell_other (w.setCell ⟨b,0,none⟩ (.bool sy)) ⟨b,1,none⟩ ⟨b+1,1,none⟩ (.slice A4 n4 c4) (by simp)).trans e4;generalize (w.setCell ⟨b,0,none⟩ (.bool sy)).setCell ⟨b,1,none⟩ (.slice A4 n4 c4)=W at *;have z3:=z2.set (show b<=b+1 by omega) (u:=.bool sx) f3 (by simp);have g1:=(World.cell?_setCell_other W ⟨b+1,0,none⟩ ⟨b,0,none⟩ (.bool sx) (by simp)).trans f1;have g2:=(World.cell?_setCell_other W ⟨b+1,0,none⟩ ⟨b,1,none⟩ (.bool sx) (by simp)).trans f2;have g3:=World.cell?_setCell_same W _ (.bool sx) f3;have g4:=(World.cell?_setCell_other W ⟨b+1,0,none⟩ ⟨b+1,1,none⟩ (.bool sx) (by simp)).trans f4;generalize W.setCell ⟨b+1,0,none⟩ (.bool sx)=X at *;exact⟨_,rfl,⟨(World.cell?_setCell_other X _ _ _ (by simp)).trans g1,(World.cell?_setCell_other X _ _ _ (by simp)).trans g2,(World.cell?_setCell_other X _ _ _ (by simp)).trans g3,World.cell?_setCell_same X _ _ g4⟩,z3.set (by omega) g4 (by simp)⟩
theorem xn{x y:Int}(h:decide (x<0)=decide (y<0)):(if decide (x<0)=true then -((x.natAbs+y.natAbs:Nat):Int)else ((x.natAbs+y.natAbs:Nat):Int))=x+y:=by
 by_cases hx:x<0<;>by_cases hy:y<0<;>simp [hx,hy]at h ⊢<;>omega
theorem lJ{x y:Int}(h:decide (x<0)≠decide (y<0))(hl:y.natAbs<=x.natAbs):(if decide (x<0)=true then -((x.natAbs-y.natAbs:Nat):Int)else ((x.natAbs-y.natAbs:Nat):Int))=x+y:=by
 by_cases hx:x<0<;>by_cases hy:y<0<;>simp [hx,hy]at h ⊢<;>omega
theorem AeQ(x y:Int)(hx:(I x).length<=18)(hy:(I y).length<=18)(w:World)(hw:An w) :
  Calls Tryz.prog 331 #[S (I x),S (I y)] w (Bf (I (x+y)) w):=by
 have q1:=MQ x;have q2:=MQ y;rw [Lp hx]at q1;rw [Lp hy]at q2;have b1:=MU hx;have b2:=MU hy;have e18:(10:Nat)^18=1000000000000000000:=(by decide);rw [e18]at b1 b2;have hwr:IntKind.i64.wrap (x+y)=x+y:=AmI _ (by omega);have ho:=fun W hW=>dL (x+y) (by omega) (by omega) W hW;clear hx hy b1 b2 e18;go_enter Tryz.func331,Tryz.ntmps331;(go_wp2_with fail);(with_reducible refine(q1 _).mono ?_);rintro e w1 ⟨rfl,hx1⟩;(go_wp2_with fail);(with_reducible refine(q2 _).mono ?_);rintro e w2 ⟨rfl,hx2⟩;have BN:=hx1.trans hx2;(go_wp2_with fail);(with_reducible refine(ho _ (hw.ext BN)).mono ?_);rintro e w3 ⟨rfl,hx3⟩;go_wp2;go_ret;exact⟨rfl,BN.trans hx3⟩
theorem AeP(x y:Int)(hx:AC x)(hy:AC y)(hn:¬((I x).length<=18/\(I y).length<=18))(w:World)(hw:An w) :
  Calls Tryz.prog 331 #[S (I x),S (I y)] w (Bf (I (x+y)) w):=by
 have q1:=MQ x;have q2:=MQ y;have lx:=hx.pc;have ly:=hy.pc;obtain⟨sx,Ew⟩:=Am8 (decide (x<0));obtain⟨sy,Eb⟩:=Am8 (decide (y<0));have o1:=JP x hx sx Ew;have o2:=JP y hy sy Eb;have m1:=@xn x y;have m2:=@lJ x y;have m3:=@lJ y x;rw [←Ew,←Eb]at m1 m2 m3;rw [Int.add_comm y x]at m3;clear hx hy Ew Eb;by_cases h1:(I x).length<=18
 case' pos=>rw [Lp h1]at q1;rw [Qc fun h=>hn ⟨h1,h⟩]at q2;clear h1 hn;have M1:=Am9 m1;have M2:=Am9 m2;have M3:=Am9 m3;clear m1 m2 m3;go_enter Tryz.func331,Tryz.ntmps331;(go_wp2_with fail);(with_reducible refine(q1 _).mono ?_);rintro e w1 ⟨rfl,hx1⟩;(go_wp2_with fail);(with_reducible refine(q2 _).mono ?_);rintro e w2 ⟨rfl,hx2⟩;have hx:=hx1.trans hx2;clear hx1 hx2;(go_wp2_with fail)
 case' neg=>rw [Qc h1]at q1;clear h1 hn;have M1:=Am9 m1;have M2:=Am9 m2;have M3:=Am9 m3;clear m1 m2 m3;go_enter Tryz.func331,Tryz.ntmps331;(go_wp2_with fail);(with_reducible refine(q1 _).mono ?_);rintro e w2 ⟨rfl,hx⟩;(go_wp2_with fail)
 all_goals
  clear q1 q2;(with_reducible refine(o1 _).mono ?_);rintro e w3 ⟨A3,c3,rfl,hv3,hx3⟩;(go_wp2_with fail);(with_reducible refine(o2 _).mono ?_);rintro e w4 ⟨A4,c4,rfl,hv4,Ai⟩;have hx:=(hx.trans hx3).trans Ai;have hv3:=hv3.ext Ai;clear o1 o2 hx3 Ai
  go_upto_region 7 with fail
  obtain⟨W,hW,hE,hb1,hb2⟩:=LO w4 (.bool sx) (.slice A3 (pc 1000000000 x.natAbs).length c3) (.bool sy) (.slice A4 (pc 1000000000 y.natAbs).length c4) 280 280;rw [←hW];have hv3:=hv3.ext hE;have hv4:=hv4.ext hE;have Bi:=hx.trans hE;have k1:W.cell? ⟨w4.heap.size,0,none⟩=some (.bool sx):=Ab hb1 rfl;have k2:W.cell? ⟨w4.heap.size,1,none⟩=some (.slice A3 (pc 1000000000 x.natAbs).length c3):=Ab hb1 rfl;have k3:W.cell? ⟨w4.heap.size+1,0,none⟩=some (.bool sy):=Ab hb2 rfl;have k4:W.cell? ⟨w4.heap.size+1,1,none⟩=some (.slice A4 (pc 1000000000 y.natAbs).length c4):=Ab hb2 rfl;have Ic:w.heap.size<=w4.heap.size:=hx.size;clear hW hE hx;by_cases hs:sx=sy
  ·subst hs;have hm:=M1.out rfl;have HM:=Am9 hm;clear hm M1 M2 M3;(go_wp2_with fail);have ht:=fP (pc 1000000000 x.natAbs) (pc 1000000000 y.natAbs) _ _ W.drew (hv3.ext (Aa.refl W).drew).rd (hv4.ext (Aa.refl W).drew).rd (by omega) (by omega) (Be b9 _) (Be b9 _);rw [AU b9,AU b9]at ht;have hc:=fun W2 v2 (h:Aa W.drew W2) (h2:Rd W2 v2 _)=>EL sx (x.natAbs+y.natAbs) v2 W2 (hw.ext (Bi.drew.trans h)) h2;rw [LS,HM.out]at hc
   go_region_held3 (fun w'=>w'.cell? ⟨w4.heap.size,0,none⟩=some (.bool sx)/\w'.cell? ⟨w4.heap.size,1,none⟩=some (.slice A3 (pc 1000000000 x.natAbs).length c3)/\w'.cell? ⟨w4.heap.size+1,0,none⟩=some (.bool sx)/\w'.cell? ⟨w4.heap.size+1,1,none⟩=some (.slice A4 (pc 1000000000 y.natAbs).length c4))
    (first|go_keep|exact⟨Ad.cellS k1,Ad.cellS k2,Ad.cellS k3,Ad.cellS k4⟩|exact⟨(Ad.trans AH).cellS k1,(Ad.trans AH).cellS k2,(Ad.trans AH).cellS k3,(Ad.trans AH).cellS k4⟩)
    (first|((with_reducible refine ht.mono ?_);rintro e w5 ⟨v5,rfl,⟨A5,c5,rfl,hv5⟩,Ad⟩)|((with_reducible refine(hc _ _ Ad hv5.rd).mono ?_);rintro e w6 ⟨rfl,AH⟩))
   go_wp2;go_ret;exact⟨rfl,(Bi.drew.trans Ad).trans AH⟩
  ·have C6:(sx == sy)=false:=(by rw [beq_eq_false_iff_ne];exact hs);have XL:=Am9 (M2.out hs);have XM:=Am9 (M3.out (Ne.symm hs));clear hs M1 M2 M3;have ho:=PR (pc 1000000000 x.natAbs) (pc 1000000000 y.natAbs) _ _ W hv3.rd hv4.rd (Be b9 _) (Be b9 _) (FY b9 _) (FY b9 _);rw [AU b9,AU b9]at ho;by_cases hl:x.natAbs<y.natAbs
   ·rw [LU hl]at ho;have HM:=Am9 (XM.out (Nat.le_of_lt hl));clear XL XM;(go_wp2_with fail);(with_reducible refine ho.mono ?_);rintro e w5 ⟨rfl,Ad⟩;have g1:=Ad.cellS k1;have g2:=Ad.cellS k2;have g3:=Ad.cellS k3;have g4:=Ad.cellS k4;have j1:=fun o=>AV (o:=o) ((Ad.block _ (AmA hb1)).trans hb1);have j2:=fun o=>AV (o:=o) ((Ad.block _ (AmA hb2)).trans hb2);(go_wp2_with fail);obtain⟨V,hV,hB,hK⟩:=Aj9 (Om.mk g1 g2 g3 g4);rw [←hV];have SB:Aa w V:=hK.ext w (Bi.trans Ad) Ic;have hv3:=hK.rd _ _ _ (hv3.ext Ad);have hv4:=hK.rd _ _ _ (hv4.ext Ad);have g1:=hB.k1;have g2:=hB.k2;have g3:=hB.k3;have g4:=hB.k4;clear hV j1 j2 hB hK Ad Bi k1 k2 k3 k4 hb1 hb2 ho;have ht:=SN (pc 1000000000 y.natAbs) (pc 1000000000 x.natAbs) _ _ V.drew (hv4.ext (Aa.refl V).drew).rd (hv3.ext (Aa.refl V).drew).rd (by omega) (Be b9 _) (Be b9 _) (Ll (Nat.le_of_lt hl)) (by rw [AU b9,AU b9];exact Nat.le_of_lt hl);rw [AU b9,AU b9]at ht;have hc:=fun W2 v2 (h:Aa V.drew W2) (h2:Rd W2 v2 _)=>EL sy (y.natAbs-x.natAbs) v2 W2 (hw.ext (SB.drew.trans h)) h2;rw [LS,HM.out]at hc
    go_region_held3 (fun w'=>w'.cell? ⟨w4.heap.size,0,none⟩=some (.bool sy)/\w'.cell? ⟨w4.heap.size,1,none⟩=some (.slice A4 (pc 1000000000 y.natAbs).length c4)/\w'.cell? ⟨w4.heap.size+1,0,none⟩=some (.bool sx)/\w'.cell? ⟨w4.heap.size+1,1,none⟩=some (.slice A3 (pc 1000000000 x.natAbs).length c3))
     (first|go_keep|exact⟨Ad.cellS g1,Ad.cellS g2,Ad.cellS g3,Ad.cellS g4⟩|exact⟨(Ad.trans AH).cellS g1,(Ad.trans AH).cellS g2,(Ad.trans AH).cellS g3,(Ad.trans AH).cellS g4⟩)
     (first|((with_reducible refine ht.mono ?_);rintro e w5 ⟨v5,rfl,⟨A5,c5,rfl,hv5⟩,Ad⟩)|((with_reducible refine(hc _ _ Ad hv5.rd).mono ?_);rintro e w6 ⟨rfl,AH⟩))
    go_wp2;go_ret;exact⟨rfl,(SB.drew.trans Ad).trans AH⟩
   ·have hge:y.natAbs<=x.natAbs:=Nat.le_of_not_lt hl
    obtain⟨s,hs,hs0⟩:∃s:Int,s=D6 x.natAbs y.natAbs/\¬s<0:=by
     rcases Nat.lt_or_eq_of_le hge with h|h
     ·exact⟨_,rfl,by rw [Kq h];omega⟩
     ·exact⟨_,rfl,by rw [OI h.symm];omega⟩
    rw [←hs]at ho;have HM:=Am9 (XL.out hge);clear XL XM hs hl;(go_wp2_with fail);(with_reducible refine ho.mono ?_);rintro e w5 ⟨rfl,Ad⟩;have g1:=Ad.cellS k1;have g2:=Ad.cellS k2;have g3:=Ad.cellS k3;have g4:=Ad.cellS k4;(go_wp2_with fail);have SB:=Bi.trans Ad;have hv3:=hv3.ext Ad;have hv4:=hv4.ext Ad;clear Ad Bi k1 k2 k3 k4 hb1 hb2 ho;have ht:=SN (pc 1000000000 x.natAbs) (pc 1000000000 y.natAbs) _ _ w5.drew (hv3.ext (Aa.refl w5).drew).rd (hv4.ext (Aa.refl w5).drew).rd (by omega) (Be b9 _) (Be b9 _) (Ll hge) (by rw [AU b9,AU b9];exact hge);rw [AU b9,AU b9]at ht;have hc:=fun W2 v2 (h:Aa w5.drew W2) (h2:Rd W2 v2 _)=>EL sx (x.natAbs-y.natAbs) v2 W2 (hw.ext (SB.drew.trans h)) h2;rw [LS,HM.out]at hc
    go_region_held3 (fun w'=>w'.cell? ⟨w4.heap.size,0,none⟩=some (.bool sx)/\w'.cell? ⟨w4.heap.size,1,none⟩=some (.slice A3 (pc 1000000000 x.natAbs).length c3)/\w'.cell? ⟨w4.heap.size+1,0,none⟩=some (.bool sy)/\w'.cell? ⟨w4.heap.size+1,1,none⟩=some (.slice A4 (pc 1000000000 y.natAbs).length c4))
     (first|go_keep|exact⟨AB.cellS g1,AB.cellS g2,AB.cellS g3,AB.cellS g4⟩|exact⟨(AB.trans AH).cellS g1,(AB.trans AH).cellS g2,(AB.trans AH).cellS g3,(AB.trans AH).cellS g4⟩)
     (first|((with_reducible refine ht.mono ?_);rintro e w7 ⟨v5,rfl,⟨A5,c5,rfl,hv5⟩,AB⟩)|((with_reducible refine(hc _ _ AB hv5.rd).mono ?_);rintro e w6 ⟨rfl,AH⟩))
    go_wp2;go_ret;exact⟨rfl,(SB.drew.trans AB).trans AH⟩
theorem yN(x y:Int)(hx:AC x)(hy:AC y)(w:World)(hw:An w):Calls Tryz.prog 331 #[S (I x),S (I y)] w (Bf (I (x+y)) w):=by
 by_cases h:(I x).length<=18/\(I y).length<=18
 ·exact AeQ x y h.1 h.2 w hw
 ·exact AeP x y hx hy h w hw
end Go.Proofs.YtjalkoacphhgdaaGreatDoor
