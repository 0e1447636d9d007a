/- Z20: H2 H3 H4. -/
import Derived.Test.YtjalkoacphhgdaaGreatDoorZ19
set_option maxRecDepth 100000
set_option maxHeartbeats 8000000
namespace Go.Proofs.YtjalkoacphhgdaaGreatDoor
open Go.RowKit Kl
def Al(a b c:Pt):Rat:=(b.x-a.x)*(c.y-a.y)-(b.y-a.y)*(c.x-a.x)
theorem mU(a b c:Pt){k:Nat}(ha:Ar k a)(hb:Ar k b)(hc:Ar k c)(hk:0<k)(hk2:k<=400)(w:World)(hw:An w) :
  Calls Tryz.prog 185 #[Ak a,Ak b,Ak c] w (Be (R (Al a b c)) w):=by
 have s1:=GV b.x a.x (a:=k) (b:=k) ⟨hb.x,ha.x,hk,hk,by omega⟩;have s2:=GV b.y a.y (a:=k) (b:=k) ⟨hb.y,ha.y,hk,hk,by omega⟩;have s3:=GV c.x a.x (a:=k) (b:=k) ⟨hc.x,ha.x,hk,hk,by omega⟩;have s4:=GV c.y a.y (a:=k) (b:=k) ⟨hc.y,ha.y,hk,hk,by omega⟩;have m1:=PZ (b.x-a.x) (c.y-a.y) (a:=k+k+1) (b:=k+k+1) ⟨hb.x.sub ha.x,hc.y.sub ha.y,by omega,by omega,by omega⟩;have m2:=PZ (b.y-a.y) (c.x-a.x) (a:=k+k+1) (b:=k+k+1) ⟨hb.y.sub ha.y,hc.x.sub ha.x,by omega,by omega,by omega⟩;have sb:=GV ((b.x-a.x)*(c.y-a.y)) ((b.y-a.y)*(c.x-a.x)) (a:=k+k+1+(k+k+1)) (b:=k+k+1+(k+k+1)) ⟨(hb.x.sub ha.x).mul (hc.y.sub ha.y),(hb.y.sub ha.y).mul (hc.x.sub ha.x),by omega,by omega,by omega⟩;have e:Al a b c=(b.x-a.x)*(c.y-a.y)-(b.y-a.y)*(c.x-a.x):=rfl;rw [←e]at sb;obtain⟨r,hr⟩:=Ank (Al a b c);rw [←hr]at sb ⊢;unfold Ak;clear ha hb hc e hr;go_enter Tryz.func185,Tryz.ntmps185;(go_wp2_with fail);obtain⟨W,hW,hE,hb1,hb2,hb3⟩:=OD w (.cells #[S (R a.x),S (R a.y)] 92) (.cells #[S (R b.x),S (R b.y)] 92) (.cells #[S (R c.x),S (R c.y)] 92);rw [←hW];clear hW;have hA:Ji W w.heap.size a:=⟨Ab hb1 rfl,Ab hb1 rfl⟩;have hB:Ji W (w.heap.size+1) b:=⟨Ab hb2 rfl,Ab hb2 rfl⟩;have hC:Ji W (w.heap.size+1+1) c:=⟨Ab hb3 rfl,Ab hb3 rfl⟩;clear hb1 hb2 hb3;have GI:=(Aa.refl W).drew;have Gf:=hE.drew;obtain⟨k1,k2⟩:=hA;obtain⟨k3,k4⟩:=hB;have hA:=Ji.mk k1 k2;have hB:=Ji.mk k3 k4
 go_region_held3 (fun w'=>w'.cell? ⟨w.heap.size,0,none⟩=some (S (R a.x))/\w'.cell? ⟨w.heap.size,1,none⟩=some (S (R a.y))/\w'.cell? ⟨w.heap.size+1,0,none⟩=some (S (R b.x))/\w'.cell? ⟨w.heap.size+1,1,none⟩=some (S (R b.y)))
  (go_keep)
  (first|((with_reducible refine(s1 _ (hw.ext Gf)).mono ?_);rintro e w1 ⟨rfl,hx1⟩;obtain⟨q1,q2⟩:=hA.ext (GI.trans hx1);obtain⟨q3,q4⟩:=hB.ext (GI.trans hx1))|((with_reducible refine(s2 _ (hw.ext (Gf.trans hx1))).mono ?_);rintro e w2 ⟨rfl,hx2⟩;obtain⟨t1,t2⟩:=hA.ext (GI.trans (hx1.trans hx2));obtain⟨t3,t4⟩:=hB.ext (GI.trans (hx1.trans hx2))))
 have hV:=GI.trans (hx1.trans hx2);replace hE:=hE.trans hV;replace hA:=hA.ext hV;replace hC:=hC.ext hV;clear GI Gf hx1 hx2 k1 k2 k3 k4 q1 q2 q3 q4 t1 t2 t3 t4 hV hB s1 s2;have GI:=(Aa.refl w2).drew;have Gf:=hE.drew;obtain⟨k1,k2⟩:=hA;obtain⟨k3,k4⟩:=hC;have hA:=Ji.mk k1 k2;have hC:=Ji.mk k3 k4;(go_wp2_with fail)
 go_region_held3 (fun w'=>w'.cell? ⟨w.heap.size,0,none⟩=some (S (R a.x))/\w'.cell? ⟨w.heap.size,1,none⟩=some (S (R a.y))/\w'.cell? ⟨w.heap.size+1+1,0,none⟩=some (S (R c.x))/\w'.cell? ⟨w.heap.size+1+1,1,none⟩=some (S (R c.y)))
  (go_keep)
  (first|((with_reducible refine(s3 _ (hw.ext Gf)).mono ?_);rintro e w3 ⟨rfl,hx1⟩;obtain⟨q1,q2⟩:=hA.ext (GI.trans hx1);obtain⟨q3,q4⟩:=hC.ext (GI.trans hx1))|((with_reducible refine(s4 _ (hw.ext (Gf.trans hx1))).mono ?_);rintro e w4 ⟨rfl,hx2⟩;obtain⟨t1,t2⟩:=hA.ext (GI.trans (hx1.trans hx2));obtain⟨t3,t4⟩:=hC.ext (GI.trans (hx1.trans hx2))))
 replace hE:=hE.trans (GI.trans (hx1.trans hx2));clear hA hC GI Gf hx1 hx2 k1 k2 k3 k4 q1 q2 q3 q4 t1 t2 t3 t4 s3 s4;(go_wp2_with fail);(with_reducible refine(m1 _ (hw.ext hE)).mono ?_);rintro e w5 ⟨rfl,hx⟩;replace hE:=hE.trans hx;(go_wp2_with fail);(with_reducible refine(m2 _ (hw.ext hE)).mono ?_);rintro e w6 ⟨rfl,hx2⟩;replace hE:=hE.trans hx2;(go_wp2_with fail);(with_reducible refine(sb _ (hw.ext hE)).mono ?_);rintro e w7 ⟨rfl,hx3⟩;replace hE:=hE.trans hx3;go_wp2;go_ret;exact⟨rfl,hE⟩
theorem Ak4(a b c:Pt){k:Nat}(ha:Ar k a)(hb:Ar k b)(hc:Ar k c)(hk:0<k)(hk2:k<=400)(w:World)(hw:An w) :
  Calls Tryz.prog 179 #[Ak a,Ak b,Ak c] w (AA (AE (Al a b c)) w):=by
 have ar:=mU a b c ha hb hc hk hk2;have sg:=Qa (Al a b c);have hE:=(((Aa.refl w).alloc (.cells #[S (R a.x),S (R a.y)] 92)).alloc (.cells #[S (R b.x),S (R b.y)] 92)).alloc (.cells #[S (R c.x),S (R c.y)] 92);unfold Ak at ar ⊢;clear ha hb hc;go_enter Tryz.func179,Tryz.ntmps179;(go_wp2_with fail);(with_reducible refine(ar _ (hw.ext hE)).mono ?_);rintro e w1 ⟨rfl,hx⟩;(go_wp2_with fail);(with_reducible refine(sg _).mono ?_);rintro e w2 ⟨rfl,hx2⟩;go_wp2;go_ret;exact⟨rfl,hE.trans (hx.trans hx2)⟩
def AX(a b:Pt):Int:=if AN a.x b.x≠0 then AN a.x b.x else AN a.y b.y
theorem Agt(a b:Pt){k:Nat}(ha:Ar k a)(hb:Ar k b)(hk:0<k)(hk2:k<=400)(w:World)(hw:An w) :
  Calls Tryz.prog 180 #[Ak a,Ak b] w (AA (AX a b) w):=by
 have c1:=IZ a.x b.x (a:=k) (b:=k) ⟨ha.x,hb.x,hk,hk,by omega⟩;have c2:=IZ a.y b.y (a:=k) (b:=k) ⟨ha.y,hb.y,hk,hk,by omega⟩;have hE:=((Aa.refl w).alloc (.cells #[S (R a.x),S (R a.y)] 92)).alloc (.cells #[S (R b.x),S (R b.y)] 92);obtain⟨r,hr⟩:=Ank (AX a b);rw [←hr]
 have hA:(w.alloc (.cells #[S (R a.x),S (R a.y)] 92)).alloc (.cells #[S (R b.x),S (R b.y)] 92) |>.heap[w.heap.size]?=some (.cells #[S (R a.x),S (R a.y)] 92):=(Below.heap_alloc _ _ _ (by simp)).trans (Ann w _)
 have hB:=Ann (w.alloc (.cells #[S (R a.x),S (R a.y)] 92)) (.cells #[S (R b.x),S (R b.y)] 92);rw [Anv]at hB;obtain⟨x,hx0⟩:=Ank (AN a.x b.x)
 have KU:r=if x≠0 then x else AN a.y b.y:=by rw [hr,hx0];rfl
 rw [←hx0]at c1;unfold Ak;clear ha hb hr hx0;by_cases h:x=0
 ·subst h;replace KU:r=AN a.y b.y:=(by rw [KU];rfl);simp only [←KU]at c2;clear KU;go_enter Tryz.func180,Tryz.ntmps180;(go_wp2_with fail);(with_reducible refine(c1 _ (hw.ext hE)).mono ?_);rintro e w1 ⟨rfl,hx⟩;replace hE:=hE.trans hx;replace hA:=(hx.block _ (Anm hA)).trans hA;replace hB:=(hx.block _ (Anm hB)).trans hB;have k1:=Ab (o:=1) hA rfl;have k2:=Ab (o:=1) hB rfl;(go_wp2_with fail);(with_reducible refine(c2 _ (hw.ext hE)).mono ?_);rintro e w2 ⟨rfl,hx2⟩;go_wp2;go_ret;exact⟨rfl,hE.trans hx2⟩
 ·replace KU:r=x:=(by rw [KU,if_pos h]);have hne:(x != 0)=true:=(by rw [bne_iff_ne];exact h);subst KU;clear c2 h;go_enter Tryz.func180,Tryz.ntmps180;(go_wp2_with fail);(with_reducible refine(c1 _ (hw.ext hE)).mono ?_);rintro e w1 ⟨rfl,hx⟩;go_wp2;go_ret;exact⟨rfl,hE.trans hx⟩
def Ao(l:List Pt):List (Bs×Bs):=l.map Lj
theorem Ct{w:World}{A:Option Addr}{l:List Pt}(hr:Ae w A (flat (Ao l))){j:Nat}(h:j<l.length):∃b o,A=some ⟨b,o,none⟩/\w.cell? ⟨b,o+j*2,none⟩=some (S (R l[j].x))/\w.cell? ⟨b,o+j*2+1,none⟩=some (S (R l[j].y)):=by
 have hl:(Ao l).length=l.length:=(by simp [Ao]);obtain⟨b,o,e,hcs⟩:=hr.ad (by rw [flat_length];omega);obtain⟨f1,f2⟩:=flat_get (Ao l) j (by omega);have hg1:=hcs (j*2) (by rw [flat_length];omega);have hg2:=hcs (j*2+1) (by rw [flat_length];omega);rw [Ant (by rw [flat_length];omega),Ans]at f1 f2;rw [f1]at hg1;rw [f2,←Nat.add_assoc]at hg2;have e2:(Ao l)[j]'(by omega)=Lj l[j]:=(by simp [Ao]);rw [e2]at hg1 hg2;exact⟨b,o,e,hg1,hg2⟩
structure Ni(l:List Pt):Prop where
 n3:3<=l.length
 n60:l.length<=60
 turn:∀(i n:Nat) (hi:i<l.length) (hn:n<l.length),n≠i→n≠(i+1)%l.length→0<Al l[i] (l[(i+1)%l.length]'(Nat.mod_lt _ (by omega))) l[n]
 less:∀(n:Nat) (h:n+1<l.length),¬AX l[n+1] (l[0]'(by omega))<0
theorem gV(l:List Pt)(hp:Ni l){k:Nat}(hz:∀p∈l,Ar k p)(hk:0<k)(hk2:k<=200)(A:Option Addr)(c:Nat)(w:World)(hw:An w)(hr:Ae w A (flat (Ao l)))(hc:l.length<=c)(_:c<=9223372036854775807) :
  Calls Tryz.prog 101 #[.slice A l.length c] w (AA 0 w):=by
 obtain⟨h3,Zm,hturn,wS⟩:=hp;have HT:=Anl hturn;have HL:=Anl wS;have HZ:=Anl hz;clear hturn wS hz;go_enter Tryz.func101,Tryz.ntmps101;go_wp2
 go_loopw [21] (fun i wr=>∃j:Nat,i=.int .i64 (j:Nat)/\j<=l.length/\Aa w wr) (fun i _=>l.length-(intOf i).toNat)
 case atStart=>exact⟨0,rfl,by omega,Aa.refl _⟩
 case round=>
  obtain⟨j,rfl,hj,Ac⟩:=hrel;by_cases hlt:j<l.length
  ·obtain⟨b,o,rfl,hg1,hg2⟩:=Ct (hr.ext Ac) hlt;have KX:=HZ.out l[j] (Anp hlt);obtain⟨p,hp⟩:=Ank (l[j]);rw [←hp]at hg1 hg2 KX;have hx1:=Ac.alloc (.cells #[S (R p.x),S (R p.y)] 92);have ck:=nX (R p.x) (R p.y) true (by simp only [true_iff];exact⟨WG KX.x hk hk2,WG KX.y hk hk2⟩) (Xn KX.x hk (by omega)) (Xn KX.y hk (by omega)) _ (hw.ext hx1);rw [Km]at ck;have hj0:(0:Int)<=(j:Int):=(by omega);have AW:(j:Int)<(l.length:Int):=(by omega);clear hp KX;(go_wp2_with fail);(with_reducible refine ck.mono ?_);rintro e w2 ⟨rfl,hx2⟩;go_wp2;go_roundw
   case rel=>exact⟨j+1,by go_num,hlt,hx1.trans hx2⟩
   case measure=>simp [intOf];omega
  ·have hle:(l.length:Int)<=(j:Int):=(by omega);have hd:decide (j<l.length)=false:=(by simp [hlt]);have BY:decide ((j:Int)<(l.length:Int))=false:=(by simp;omega);clear hlt;go_wp2
   (try first|simp only [hd]|simp only [BY])
   clear hle hd BY
   go_loopw [33] (fun i wr=>∃i':Nat,i=.int .i64 (i':Nat)/\i'<=l.length/\Aa w wr) (fun i _=>l.length-(intOf i).toNat)
   case atStart=>exact⟨0,rfl,by omega,Ac⟩
   case round=>
    obtain⟨i,rfl,hi,RV⟩:=hrel;by_cases hlt:i<l.length
    ·obtain⟨b,o,rfl,hg1,hg2⟩:=Ct (hr.ext RV) hlt;obtain⟨kk,Bu⟩:=Ank ((i+1)%l.length);have Cl:kk<l.length:=(by rw [Bu];exact Nat.mod_lt _ (by omega));have Pw:((i:Int)+1)%(l.length:Int)=(kk:Int):=(by rw [Bu];simp);obtain⟨pa,DD⟩:=Ank (l[i]);have P9:=HZ.out l[i] (Anp hlt);rw [←DD]at hg1 hg2 P9;have KF:(0:Int)<=(i:Int):=(by omega);have Sc:(i:Int)<(l.length:Int):=(by omega);have hx1:=RV.alloc (.cells #[S (R pa.x),S (R pa.y)] 92);have Aq:=Ann wr (.cells #[S (R pa.x),S (R pa.y)] 92);have kW:=Anl Bu;have TL:=Anl DD;clear Bu DD;go_wp2;rw [Pw];clear Pw hg1 hg2;generalize wr.alloc (.cells #[S (R pa.x),S (R pa.y)] 92)=V at *;obtain⟨ba,uG⟩:=Ank wr.heap.size;rw [←uG]at Aq ⊢;clear uG RV
     go_loopw [45] (fun i wr=>∃n:Nat,i=.int .i64 (n:Nat)/\n<=l.length/\Aa V wr) (fun i _=>l.length-(intOf i).toNat)
     case atStart=>exact⟨0,rfl,by omega,Aa.refl _⟩
     case round=>
      obtain⟨n,rfl,hn,J6⟩:=hrel;by_cases KL:n<l.length
      ·obtain⟨_,_,e1,hg1,hg2⟩:=Ct (hr.ext (hx1.trans J6)) KL;obtain⟨_,_,e2,hg3,hg4⟩:=Ct (hr.ext (hx1.trans J6)) Cl;simp only [Ans,Addr.mk.injEq,and_true]at e1 e2;obtain⟨rfl,rfl⟩:=e1;obtain⟨e2,e3⟩:=e2;subst e2 e3;obtain⟨px,NP⟩:=Ank (l[n]);obtain⟨pk,KR⟩:=Ank (l[kk]);have KY:=HZ.out l[n] (Anp KL);have dY:=HZ.out l[kk] (Anp Cl);rw [←NP]at hg1 hg2 KY;rw [←KR]at hg3 hg4 dY;have vv:=Anl NP;have vo:=Anl KR;clear NP KR;have RH:=(J6.block _ (Anm Aq)).trans Aq;have Dy:=J6.alloc (.cells #[S (R px.x),S (R px.y)] 92);have Aw:=Ann wr (.cells #[S (R px.x),S (R px.y)] 92);have FO:(0:Int)<=(n:Int):=(by omega);have hnl:(n:Int)<(l.length:Int):=(by omega);have hk0:(0:Int)<=(kk:Int):=(by omega);have Amq:(kk:Int)<(l.length:Int):=(by omega);have hxx:=(Aa.refl wr).alloc (.cells #[S (R px.x),S (R px.y)] 92);replace RH:=(hxx.block _ (Anm RH)).trans RH;have hg3':=hxx.cellS hg3;have bF:=hxx.cellS hg4
       go_upto_region 19 with fail
       clear hg1 hg2 hg3 hg4;generalize wr.alloc (.cells #[S (R px.x),S (R px.y)] 92)=U at *;obtain⟨bx,Mm⟩:=Ank wr.heap.size;rw [←Mm]at Aw ⊢;clear Mm hxx;by_cases GO:n=i
       ·have t1:((n:Int) != (i:Int))=false:=(by rw [GO];simp);clear GO
        go_quiet (fail)
        go_wp2;go_roundw
        case rel=>exact⟨n+1,by go_num,KL,Dy.drewN _⟩
        case measure=>simp [intOf];omega
       ·have t1:((n:Int) != (i:Int))=true:=(by rw [bne_iff_ne];omega);have t1n:(n != i)=true:=(by rw [bne_iff_ne];exact GO);have t1e:(n == i)=false:=(by rw [beq_eq_false_iff_ne];exact GO);by_cases IJ:n=kk
        ·have t2n:(n != kk)=false:=(by rw [IJ];simp);have t2:((n:Int) != (kk:Int))=false:=(by rw [IJ];simp);clear IJ GO
         go_quiet (fail)
         go_wp2;go_roundw
         case rel=>exact⟨n+1,by go_num,KL,Dy.drewN _⟩
         case measure=>simp [intOf];omega
        ·have t2:((n:Int) != (kk:Int))=true:=(by rw [bne_iff_ne];omega);have t2n:(n != kk)=true:=(by rw [bne_iff_ne];exact IJ);have t2e:(n == kk)=false:=by rw [beq_eq_false_iff_ne];exact IJ
         have tZ:0<Al pa pk px:=by have h:=HT.out i n hlt KL GO (by rw [←kW.out];exact IJ);rw [TL.out,vo.out,vv.out];simp only [kW.out];exact h
         have tn:=Ak4 pa pk px P9 dY KY hk (by omega);rw [jD tZ]at tn;have c1:=Ab (o:=0) RH rfl;have c2:=Ab (o:=1) RH rfl;have c3:=Ab (o:=0) Aw rfl;have c4:=Ab (o:=1) Aw rfl;have hU:=hw.ext (hx1.trans Dy);unfold Ak at tn;clear KY dY tZ GO IJ
         go_region_held3 (fun w'=>w'.cell? ⟨ba,0,none⟩=some (S (R pa.x))/\w'.cell? ⟨ba,1,none⟩=some (S (R pa.y))/\w'.cell? ⟨b,o+kk*2,none⟩=some (S (R pk.x))/\w'.cell? ⟨b,o+kk*2+1,none⟩=some (S (R pk.y))/\w'.cell? ⟨bx,0,none⟩=some (S (R px.x))/\w'.cell? ⟨bx,1,none⟩=some (S (R px.y)))
          (go_keep)
          (first|((with_reducible refine(tn _ (hU.ext (Aa.refl U).drew)).mono ?_);rintro e w5 ⟨rfl,Ad⟩;have X5:=(Aa.refl U).drew.trans Ad;have d1:=X5.cellS c1;have d2:=X5.cellS c2;have d3:=X5.cellS c3;have d4:=X5.cellS c4;have d5:=X5.cellS hg3';have d6:=X5.cellS bF))
         go_wp2;go_roundw
         case rel=>exact⟨n+1,by go_num,KL,Dy.trans X5⟩
         case measure=>simp [intOf];omega
      ·have hle:(l.length:Int)<=(n:Int):=(by omega);go_wp2;go_roundw
       case rel=>exact⟨i+1,by go_num,hlt,hx1.trans J6⟩
       case measure=>simp [intOf];omega
    ·have hle:(l.length:Int)<=(i:Int):=(by omega);have hd:decide (i<l.length)=false:=(by simp [hlt]);have BY:decide ((i:Int)<(l.length:Int))=false:=(by simp;omega);have Aex:0<l.length:=(by omega);obtain⟨b,o,rfl,_,_⟩:=Ct (hr.ext RV) Aex;have FK:(1:Int)<=(l.length:Int):=(by omega);have hlc:(l.length:Int)<=(c:Int):=(by omega);have hm1:(l.length:Int)-1=((l.length-1:Nat):Int):=(by omega);obtain⟨m,hme⟩:=Ank (l.length-1);rw [←hme]at hm1;have HM:=Anl hme;clear hme hlt;go_wp2;rw [←HM.out];clear hle hd BY hm1 FK hlc
     go_loopw [73] (fun i wr=>∃n:Nat,i=.int .i64 (n:Nat)/\n<=m/\Aa w wr) (fun i _=>m-(intOf i).toNat)
     case atStart=>exact⟨0,rfl,by omega,RV⟩
     case round=>
      obtain⟨n,rfl,hn,J6⟩:=hrel;by_cases KL:n<m
      ·have C3:n+1<l.length:=(by rw [HM.out]at KL;omega);have hl0:0<l.length:=(by omega);obtain⟨_,_,e1,hg1,hg2⟩:=Ct (hr.ext J6) C3;obtain⟨_,_,e2,hg3,hg4⟩:=Ct (hr.ext J6) hl0;simp only [Ans,Addr.mk.injEq,and_true]at e1 e2;obtain⟨rfl,rfl⟩:=e1;obtain⟨e2,e3⟩:=e2;subst e2 e3;obtain⟨px,NP⟩:=Ank (l[n+1]);obtain⟨p0,By⟩:=Ank (l[0]);have KY:=HZ.out l[n+1] (Anp C3);have hz0:=HZ.out l[0] (Anp hl0);have Dk:=HL.out n C3;rw [←NP]at hg1 hg2 KY;rw [←By]at hg3 hg4 hz0;rw [←NP,←By]at Dk;have ls:=Agt px p0 KY hz0 hk (by omega);obtain⟨r,FQ⟩:=Ank (AX px p0);rw [←FQ]at Dk ls;have hr0:0<=r:=(by omega);have e2:o+(n+1)*2=o+2+n*2:=(by omega);rw [e2]at hg1 hg2;rw [Nat.zero_mul,Nat.add_zero]at hg3 hg4;have FO:(0:Int)<=(n:Int):=(by omega);have hnl:(n:Int)<(m:Int):=(by omega);have hl0':(0:Int)<(l.length:Int):=(by omega);have Dy:=J6.alloc (.cells #[S (R px.x),S (R px.y)] 92);have Aw:=Ann wr (.cells #[S (R px.x),S (R px.y)] 92);have hxx:=(Aa.refl wr).alloc (.cells #[S (R px.x),S (R px.y)] 92);have hg3':=hxx.cellS hg3;have bF:=hxx.cellS hg4;unfold Ak at ls;clear Dk FQ NP By KY hz0 e2
       go_upto_region 26 with fail
       clear hg1 hg2 hg3 hg4;generalize wr.alloc (.cells #[S (R px.x),S (R px.y)] 92)=U at *;obtain⟨bx,Mm⟩:=Ank wr.heap.size;rw [←Mm]at Aw ⊢;clear Mm hxx;have c3:=Ab (o:=0) Aw rfl;have c4:=Ab (o:=1) Aw rfl;have hU:=hw.ext Dy
       go_region_held3 (fun w'=>w'.cell? ⟨b,o,none⟩=some (S (R p0.x))/\w'.cell? ⟨b,o+1,none⟩=some (S (R p0.y))/\w'.cell? ⟨bx,0,none⟩=some (S (R px.x))/\w'.cell? ⟨bx,1,none⟩=some (S (R px.y)))
        (go_keep)
        (first|((with_reducible refine(ls _ (hU.ext (Aa.refl U).drew)).mono ?_);rintro e w5 ⟨rfl,Ad⟩;have X5:=(Aa.refl U).drew.trans Ad;have d1:=X5.cellS c3;have d2:=X5.cellS c4;have d3:=X5.cellS hg3';have d4:=X5.cellS bF))
       go_wp2;go_roundw
       case rel=>exact⟨n+1,by go_num,KL,Dy.trans X5⟩
       case measure=>simp [intOf];omega
      ·have hle:(m:Int)<=(n:Int):=(by omega);go_wp2;go_ret;exact⟨rfl,J6⟩
theorem WI(x y:Int)(b o:Nat)(w:World)(h1:w.cell? ⟨b,o,none⟩=some (.int .i64 x))(h2:w.cell? ⟨b,o+1,none⟩=some (.int .i64 y)) :
  Calls Tryz.prog 98 #[.slice (some ⟨b,o,none⟩) 2 2] w (AA (if x≠0 then x else y) w):=by
 obtain⟨r,hr⟩:=Ank (if x≠0 then x else y);rw [←hr];have HR:=Anl hr;clear hr;go_enter Tryz.func98,Tryz.ntmps98;go_wp2
 go_loopw [8] (fun i wr=>∃j:Nat,i=.int .i64 (j:Nat)/\j<=2/\(1<=j→x=0)/\(2<=j→y=0)/\wr=w) (fun i _=>2-(intOf i).toNat)
 case atStart=>exact⟨0,rfl,by omega,by omega,by omega,rfl⟩
 case round=>
  obtain⟨j,rfl,hj,hx,hy,rfl⟩:=hrel;by_cases j0:j=0
  ·subst j0;by_cases hx0:x=0
   ·have t:(x != 0)=false:=(by rw [hx0];rfl);have HX:=Anl hx0;clear hx hy hx0;go_wp2;go_roundw
    case rel=>exact⟨1,rfl,by omega,fun _=>HX.out,by omega,by trivial⟩
    case measure=>simp [intOf]
   ·have t:(x != 0)=true:=(by rw [bne_iff_ne];exact hx0);have KU:r=x:=(by rw [HR.out,if_pos hx0]);subst KU;clear hx hy hx0;go_wp2;go_ret;exact⟨rfl,Aa.refl _⟩
  ·by_cases j1:j=1
   ·subst j1;have hx0:x=0:=hx (by omega);have hry:r=y:=(by rw [HR.out,if_neg (by omega)]);subst hry;have HX:=Anl hx0;by_cases Bh:r=0
    ·have t:(r != 0)=false:=(by rw [Bh];rfl);have HY:=Anl Bh;clear hx hy hx0 Bh j0;go_wp2;go_roundw
     case rel=>exact⟨2,rfl,by omega,fun _=>HX.out,fun _=>HY.out,by trivial⟩
     case measure=>simp [intOf]
    ·have t:(r != 0)=true:=(by rw [bne_iff_ne];exact Bh);clear hx hy hx0 Bh j0;go_wp2;go_ret;exact⟨rfl,Aa.refl _⟩
   ·have j2:j=2:=(by omega);subst j2;have hx0:x=0:=hx (by omega);have Bh:y=0:=hy (by omega);have hr0:r=0:=(by rw [HR.out,if_neg (by omega),Bh]);subst hr0;clear hx hy hx0 Bh j0 j1;go_wp2;go_ret;exact⟨rfl,Aa.refl _⟩
end Go.Proofs.YtjalkoacphhgdaaGreatDoor
