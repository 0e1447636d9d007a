/- Y21: H2 H3 H4. -/
import Derived.Test.YtjalkoacphhgdaaGreatDoorY20
set_option maxRecDepth 100000
set_option maxHeartbeats 8000000
namespace Go.Proofs.YtjalkoacphhgdaaGreatDoor
open Go.RowKit Kl
def Al(a b c:Pt):Rat:=(b.x-a.x)*(c.y-a.y)-(b.y-a.y)*(c.x-a.x)
theorem lX(a b c:Pt){k:Nat}(ha:Ar k a)(hb:Ar k b)(hc:Ar k c)(hk:0<k)(hk2:k<=400)(w:World)(hw:An w) :
  Calls Tryz.prog 185 #[Ak a,Ak b,Ak c] w (Bf (R (Al a b c)) w):=by
 have s1:=GU b.x a.x (a:=k) (b:=k) ⟨hb.x,ha.x,hk,hk,by omega⟩;have s2:=GU b.y a.y (a:=k) (b:=k) ⟨hb.y,ha.y,hk,hk,by omega⟩;have s3:=GU c.x a.x (a:=k) (b:=k) ⟨hc.x,ha.x,hk,hk,by omega⟩;have s4:=GU c.y a.y (a:=k) (b:=k) ⟨hc.y,ha.y,hk,hk,by omega⟩;have m1:=Qd (b.x-a.x) (c.y-a.y) (a:=k+k+1) (b:=k+k+1) ⟨hb.x.sub ha.x,hc.y.sub ha.y,by omega,by omega,by omega⟩;have m2:=Qd (b.y-a.y) (c.x-a.x) (a:=k+k+1) (b:=k+k+1) ⟨hb.y.sub ha.y,hc.x.sub ha.x,by omega,by omega,by omega⟩;have sb:=GU ((b.x-a.x)*(c.y-a.y)) ((b.y-a.y)*(c.x-a.x)) (a:=k+k+1+(k+k+1)) (b:=k+k+1+(k+k+1)) ⟨(hb.x.sub ha.x).mul (hc.y.sub ha.y),(hb.y.sub ha.y).mul (hc.x.sub ha.x),by omega,by omega,by omega⟩;have e:Al a b c=(b.x-a.x)*(c.y-a.y)-(b.y-a.y)*(c.x-a.x):=rfl;rw [←e]at sb;obtain⟨r,hr⟩:=Am8 (Al a b c);rw [←hr]at sb ⊢;unfold Ak;clear ha hb hc e hr;go_enter Tryz.func185,Tryz.ntmps185;(go_wp2_with fail);obtain⟨W,hW,hE,hb1,hb2,hb3⟩:=OD w (.cells #[S (R a.x),S (R a.y)] 92) (.cells #[S (R b.x),S (R b.y)] 92) (.cells #[S (R c.x),S (R c.y)] 92);rw [←hW];clear hW;have hA:Jm W w.heap.size a:=⟨Ab hb1 rfl,Ab hb1 rfl⟩;have hB:Jm W (w.heap.size+1) b:=⟨Ab hb2 rfl,Ab hb2 rfl⟩;have hC:Jm W (w.heap.size+1+1) c:=⟨Ab hb3 rfl,Ab hb3 rfl⟩;clear hb1 hb2 hb3;have GL:=(Aa.refl W).drew;have Gg:=hE.drew;obtain⟨k1,k2⟩:=hA;obtain⟨k3,k4⟩:=hB;have hA:=Jm.mk k1 k2;have hB:=Jm.mk k3 k4
 go_region_held3 (fun w'=>w'.cell? ⟨w.heap.size,0,none⟩=some (S (R a.x))/\w'.cell? ⟨w.heap.size,1,none⟩=some (S (R a.y))/\w'.cell? ⟨w.heap.size+1,0,none⟩=some (S (R b.x))/\w'.cell? ⟨w.heap.size+1,1,none⟩=some (S (R b.y)))
  (go_keep)
  (first|((with_reducible refine(s1 _ (hw.ext Gg)).mono ?_);rintro e w1 ⟨rfl,hx1⟩;obtain⟨q1,q2⟩:=hA.ext (GL.trans hx1);obtain⟨q3,q4⟩:=hB.ext (GL.trans hx1))|((with_reducible refine(s2 _ (hw.ext (Gg.trans hx1))).mono ?_);rintro e w2 ⟨rfl,hx2⟩;obtain⟨t1,t2⟩:=hA.ext (GL.trans (hx1.trans hx2));obtain⟨t3,t4⟩:=hB.ext (GL.trans (hx1.trans hx2))))
 have hV:=GL.trans (hx1.trans hx2);replace hE:=hE.trans hV;replace hA:=hA.ext hV;replace hC:=hC.ext hV;clear GL Gg hx1 hx2 k1 k2 k3 k4 q1 q2 q3 q4 t1 t2 t3 t4 hV hB s1 s2;have GL:=(Aa.refl w2).drew;have Gg:=hE.drew;obtain⟨k1,k2⟩:=hA;obtain⟨k3,k4⟩:=hC;have hA:=Jm.mk k1 k2;have hC:=Jm.mk k3 k4;(go_wp2_with fail)
 go_region_held3 (fun w'=>w'.cell? ⟨w.heap.size,0,none⟩=some (S (R a.x))/\w'.cell? ⟨w.heap.size,1,none⟩=some (S (R a.y))/\w'.cell? ⟨w.heap.size+1+1,0,none⟩=some (S (R c.x))/\w'.cell? ⟨w.heap.size+1+1,1,none⟩=some (S (R c.y)))
  (go_keep)
  (first|((with_reducible refine(s3 _ (hw.ext Gg)).mono ?_);rintro e w3 ⟨rfl,hx1⟩;obtain⟨q1,q2⟩:=hA.ext (GL.trans hx1);obtain⟨q3,q4⟩:=hC.ext (GL.trans hx1))|((with_reducible refine(s4 _ (hw.ext (Gg.trans hx1))).mono ?_);rintro e w4 ⟨rfl,hx2⟩;obtain⟨t1,t2⟩:=hA.ext (GL.trans (hx1.trans hx2));obtain⟨t3,t4⟩:=hC.ext (GL.trans (hx1.trans hx2))))
 replace hE:=hE.trans (GL.trans (hx1.trans hx2));clear hA hC GL Gg hx1 hx2 k1 k2 k3 k4 q1 q2 q3 q4 t1 t2 t3 t4 s3 s4;(go_wp2_with fail);(with_reducible refine(m1 _ (hw.ext hE)).mono ?_);rintro e w5 ⟨rfl,hx⟩;replace hE:=hE.trans hx;(go_wp2_with fail);(with_reducible refine(m2 _ (hw.ext hE)).mono ?_);rintro e w6 ⟨rfl,hx2⟩;replace hE:=hE.trans hx2;(go_wp2_with fail);(with_reducible refine(sb _ (hw.ext hE)).mono ?_);rintro e w7 ⟨rfl,hx3⟩;replace hE:=hE.trans hx3;go_wp2;go_ret;exact⟨rfl,hE⟩
theorem AjT(a b c:Pt){k:Nat}(ha:Ar k a)(hb:Ar k b)(hc:Ar k c)(hk:0<k)(hk2:k<=400)(w:World)(hw:An w) :
  Calls Tryz.prog 179 #[Ak a,Ak b,Ak c] w (Az (AD (Al a b c)) w):=by
 have ar:=lX a b c ha hb hc hk hk2;have sg:=Qe (Al a b c);have hE:=(((Aa.refl w).alloc (.cells #[S (R a.x),S (R a.y)] 92)).alloc (.cells #[S (R b.x),S (R b.y)] 92)).alloc (.cells #[S (R c.x),S (R c.y)] 92);unfold Ak at ar ⊢;clear ha hb hc;go_enter Tryz.func179,Tryz.ntmps179;(go_wp2_with fail);(with_reducible refine(ar _ (hw.ext hE)).mono ?_);rintro e w1 ⟨rfl,hx⟩;(go_wp2_with fail);(with_reducible refine(sg _).mono ?_);rintro e w2 ⟨rfl,hx2⟩;go_wp2;go_ret;exact⟨rfl,hE.trans (hx.trans hx2)⟩
def AX(a b:Pt):Int:=if AO a.x b.x≠0 then AO a.x b.x else AO a.y b.y
theorem AfN(a b:Pt){k:Nat}(ha:Ar k a)(hb:Ar k b)(hk:0<k)(hk2:k<=400)(w:World)(hw:An w) :
  Calls Tryz.prog 180 #[Ak a,Ak b] w (Az (AX a b) w):=by
 have c1:=Jc a.x b.x (a:=k) (b:=k) ⟨ha.x,hb.x,hk,hk,by omega⟩;have c2:=Jc a.y b.y (a:=k) (b:=k) ⟨ha.y,hb.y,hk,hk,by omega⟩;have hE:=((Aa.refl w).alloc (.cells #[S (R a.x),S (R a.y)] 92)).alloc (.cells #[S (R b.x),S (R b.y)] 92);obtain⟨r,hr⟩:=Am8 (AX a b);rw [←hr]
 have hA:(w.alloc (.cells #[S (R a.x),S (R a.y)] 92)).alloc (.cells #[S (R b.x),S (R b.y)] 92) |>.heap[w.heap.size]?=some (.cells #[S (R a.x),S (R a.y)] 92):=(Below.heap_alloc _ _ _ (by simp)).trans (AmB w _)
 have hB:=AmB (w.alloc (.cells #[S (R a.x),S (R a.y)] 92)) (.cells #[S (R b.x),S (R b.y)] 92);rw [AmJ]at hB;obtain⟨x,hx0⟩:=Am8 (AO a.x b.x)
 have KX:r=if x≠0 then x else AO a.y b.y:=by rw [hr,hx0];rfl
 rw [←hx0]at c1;unfold Ak;clear ha hb hr hx0;by_cases h:x=0
 ·subst h;replace KX:r=AO a.y b.y:=(by rw [KX];rfl);simp only [←KX]at c2;clear KX;go_enter Tryz.func180,Tryz.ntmps180;(go_wp2_with fail);(with_reducible refine(c1 _ (hw.ext hE)).mono ?_);rintro e w1 ⟨rfl,hx⟩;replace hE:=hE.trans hx;replace hA:=(hx.block _ (AmA hA)).trans hA;replace hB:=(hx.block _ (AmA hB)).trans hB;have k1:=Ab (o:=1) hA rfl;have k2:=Ab (o:=1) hB rfl;(go_wp2_with fail);(with_reducible refine(c2 _ (hw.ext hE)).mono ?_);rintro e w2 ⟨rfl,hx2⟩;go_wp2;go_ret;exact⟨rfl,hE.trans hx2⟩
 ·replace KX:r=x:=(by rw [KX,if_pos h]);have hne:(x != 0)=true:=(by rw [bne_iff_ne];exact h);subst KX;clear c2 h;go_enter Tryz.func180,Tryz.ntmps180;(go_wp2_with fail);(with_reducible refine(c1 _ (hw.ext hE)).mono ?_);rintro e w1 ⟨rfl,hx⟩;go_wp2;go_ret;exact⟨rfl,hE.trans hx⟩
def Ao(l:List Pt):List (Bs×Bs):=l.map Lm
theorem Cu{w:World}{A:Option Addr}{l:List Pt}(hr:Ae w A (flat (Ao l))){j:Nat}(h:j<l.length):∃b o,A=some ⟨b,o,none⟩/\w.cell? ⟨b,o+j*2,none⟩=some (S (R l[j].x))/\w.cell? ⟨b,o+j*2+1,none⟩=some (S (R l[j].y)):=by
 have hl:(Ao l).length=l.length:=(by simp [Ao]);obtain⟨b,o,e,hcs⟩:=hr.ad (by rw [flat_length];omega);obtain⟨f1,f2⟩:=flat_get (Ao l) j (by omega);have hg1:=hcs (j*2) (by rw [flat_length];omega);have hg2:=hcs (j*2+1) (by rw [flat_length];omega);rw [AmH (by rw [flat_length];omega),AmG]at f1 f2;rw [f1]at hg1;rw [f2,←Nat.add_assoc]at hg2;have e2:(Ao l)[j]'(by omega)=Lm l[j]:=(by simp [Ao]);rw [e2]at hg1 hg2;exact⟨b,o,e,hg1,hg2⟩
structure Nl(l:List Pt):Prop where
 n3:3<=l.length
 n60:l.length<=60
 turn:∀(i n:Nat) (hi:i<l.length) (hn:n<l.length),n≠i→n≠(i+1)%l.length→0<Al l[i] (l[(i+1)%l.length]'(Nat.mod_lt _ (by omega))) l[n]
 less:∀(n:Nat) (h:n+1<l.length),¬AX l[n+1] (l[0]'(by omega))<0
theorem fR(l:List Pt)(hp:Nl l){k:Nat}(hz:∀p∈l,Ar k p)(hk:0<k)(hk2:k<=200)(A:Option Addr)(c:Nat)(w:World)(hw:An w)(hr:Ae w A (flat (Ao l)))(hc:l.length<=c)(_:c<=9223372036854775807) :
  Calls Tryz.prog 101 #[.slice A l.length c] w (Az 0 w):=by
 obtain⟨h3,YW,hturn,vT⟩:=hp;have HT:=Am9 hturn;have HL:=Am9 vT;have HZ:=Am9 hz;clear hturn vT hz;go_enter Tryz.func101,Tryz.ntmps101;go_wp2
 go_loopw [21] (fun i wr=>∃j:Nat,i=.int .i64 (j:Nat)/\j<=l.length/\Aa w wr) (fun i _=>l.length-(intOf i).toNat)
 case atStart=>exact⟨0,rfl,by omega,Aa.refl _⟩
 case round=>
  obtain⟨j,rfl,hj,Ac⟩:=hrel;by_cases hlt:j<l.length
  ·obtain⟨b,o,rfl,hg1,hg2⟩:=Cu (hr.ext Ac) hlt;have Lb:=HZ.out l[j] (AmD hlt);obtain⟨p,hp⟩:=Am8 (l[j]);rw [←hp]at hg1 hg2 Lb;have hx1:=Ac.alloc (.cells #[S (R p.x),S (R p.y)] 92);have ck:=nB (R p.x) (R p.y) true (by simp only [true_iff];exact⟨Wr Lb.x hk hk2,Wr Lb.y hk hk2⟩) (WU Lb.x hk (by omega)) (WU Lb.y hk (by omega)) _ (hw.ext hx1);rw [Kp]at ck;have hj0:(0:Int)<=(j:Int):=(by omega);have AW:(j:Int)<(l.length:Int):=(by omega);clear hp Lb;(go_wp2_with fail);(with_reducible refine ck.mono ?_);rintro e w2 ⟨rfl,hx2⟩;go_wp2;go_roundw
   case rel=>exact⟨j+1,by go_num,hlt,hx1.trans hx2⟩
   case measure=>simp [intOf];omega
  ·have hle:(l.length:Int)<=(j:Int):=(by omega);have hd:decide (j<l.length)=false:=(by simp [hlt]);have Ca:decide ((j:Int)<(l.length:Int))=false:=(by simp;omega);clear hlt;go_wp2
   (try first|simp only [hd]|simp only [Ca])
   clear hle hd Ca
   go_loopw [33] (fun i wr=>∃i':Nat,i=.int .i64 (i':Nat)/\i'<=l.length/\Aa w wr) (fun i _=>l.length-(intOf i).toNat)
   case atStart=>exact⟨0,rfl,by omega,Ac⟩
   case round=>
    obtain⟨i,rfl,hi,RU⟩:=hrel;by_cases hlt:i<l.length
    ·obtain⟨b,o,rfl,hg1,hg2⟩:=Cu (hr.ext RU) hlt;obtain⟨kk,Bw⟩:=Am8 ((i+1)%l.length);have Cm:kk<l.length:=(by rw [Bw];exact Nat.mod_lt _ (by omega));have Py:((i:Int)+1)%(l.length:Int)=(kk:Int):=(by rw [Bw];simp);obtain⟨pa,DF⟩:=Am8 (l[i]);have PD:=HZ.out l[i] (AmD hlt);rw [←DF]at hg1 hg2 PD;have NJ:(0:Int)<=(i:Int):=(by omega);have Sa:(i:Int)<(l.length:Int):=(by omega);have hx1:=RU.alloc (.cells #[S (R pa.x),S (R pa.y)] 92);have Aq:=AmB wr (.cells #[S (R pa.x),S (R pa.y)] 92);have jX:=Am9 Bw;have TF:=Am9 DF;clear Bw DF;go_wp2;rw [Py];clear Py hg1 hg2;generalize wr.alloc (.cells #[S (R pa.x),S (R pa.y)] 92)=V at *;obtain⟨ba,tH⟩:=Am8 wr.heap.size;rw [←tH]at Aq ⊢;clear tH RU
     go_loopw [45] (fun i wr=>∃n:Nat,i=.int .i64 (n:Nat)/\n<=l.length/\Aa V wr) (fun i _=>l.length-(intOf i).toNat)
     case atStart=>exact⟨0,rfl,by omega,Aa.refl _⟩
     case round=>
      obtain⟨n,rfl,hn,JC⟩:=hrel;by_cases KO:n<l.length
      ·obtain⟨_,_,e1,hg1,hg2⟩:=Cu (hr.ext (hx1.trans JC)) KO;obtain⟨_,_,e2,hg3,hg4⟩:=Cu (hr.ext (hx1.trans JC)) Cm;simp only [AmG,Addr.mk.injEq,and_true]at e1 e2;obtain⟨rfl,rfl⟩:=e1;obtain⟨e2,e3⟩:=e2;subst e2 e3;obtain⟨px,NS⟩:=Am8 (l[n]);obtain⟨pk,KV⟩:=Am8 (l[kk]);have Lc:=HZ.out l[n] (AmD KO);have dJ:=HZ.out l[kk] (AmD Cm);rw [←NS]at hg1 hg2 Lc;rw [←KV]at hg3 hg4 dJ;have si:=Am9 NS;have r6:=Am9 KV;clear NS KV;have RH:=(JC.block _ (AmA Aq)).trans Aq;have Dy:=JC.alloc (.cells #[S (R px.x),S (R px.y)] 92);have Aw:=AmB wr (.cells #[S (R px.x),S (R px.y)] 92);have Gp:(0:Int)<=(n:Int):=(by omega);have hnl:(n:Int)<(l.length:Int):=(by omega);have hk0:(0:Int)<=(kk:Int):=(by omega);have AlF:(kk:Int)<(l.length:Int):=(by omega);have hxx:=(Aa.refl wr).alloc (.cells #[S (R px.x),S (R px.y)] 92);replace RH:=(hxx.block _ (AmA RH)).trans RH;have hg3':=hxx.cellS hg3;have aM:=hxx.cellS hg4
       go_upto_region 19 with fail
       clear hg1 hg2 hg3 hg4;generalize wr.alloc (.cells #[S (R px.x),S (R px.y)] 92)=U at *;obtain⟨bx,Mq⟩:=Am8 wr.heap.size;rw [←Mq]at Aw ⊢;clear Mq hxx;by_cases GP:n=i
       ·have t1:((n:Int) != (i:Int))=false:=(by rw [GP];simp);clear GP
        go_quiet (fail)
        go_wp2;go_roundw
        case rel=>exact⟨n+1,by go_num,KO,Dy.drewN _⟩
        case measure=>simp [intOf];omega
       ·have t1:((n:Int) != (i:Int))=true:=(by rw [bne_iff_ne];omega);have t1n:(n != i)=true:=(by rw [bne_iff_ne];exact GP);have t1e:(n == i)=false:=(by rw [beq_eq_false_iff_ne];exact GP);by_cases IO:n=kk
        ·have t2n:(n != kk)=false:=(by rw [IO];simp);have t2:((n:Int) != (kk:Int))=false:=(by rw [IO];simp);clear IO GP
         go_quiet (fail)
         go_wp2;go_roundw
         case rel=>exact⟨n+1,by go_num,KO,Dy.drewN _⟩
         case measure=>simp [intOf];omega
        ·have t2:((n:Int) != (kk:Int))=true:=(by rw [bne_iff_ne];omega);have t2n:(n != kk)=true:=(by rw [bne_iff_ne];exact IO);have t2e:(n == kk)=false:=by rw [beq_eq_false_iff_ne];exact IO
         have sZ:0<Al pa pk px:=by have h:=HT.out i n hlt KO GP (by rw [←jX.out];exact IO);rw [TF.out,r6.out,si.out];simp only [jX.out];exact h
         have tn:=AjT pa pk px PD dJ Lc hk (by omega);rw [iC sZ]at tn;have c1:=Ab (o:=0) RH rfl;have c2:=Ab (o:=1) RH rfl;have c3:=Ab (o:=0) Aw rfl;have c4:=Ab (o:=1) Aw rfl;have hU:=hw.ext (hx1.trans Dy);unfold Ak at tn;clear Lc dJ sZ GP IO
         go_region_held3 (fun w'=>w'.cell? ⟨ba,0,none⟩=some (S (R pa.x))/\w'.cell? ⟨ba,1,none⟩=some (S (R pa.y))/\w'.cell? ⟨b,o+kk*2,none⟩=some (S (R pk.x))/\w'.cell? ⟨b,o+kk*2+1,none⟩=some (S (R pk.y))/\w'.cell? ⟨bx,0,none⟩=some (S (R px.x))/\w'.cell? ⟨bx,1,none⟩=some (S (R px.y)))
          (go_keep)
          (first|((with_reducible refine(tn _ (hU.ext (Aa.refl U).drew)).mono ?_);rintro e w5 ⟨rfl,Ad⟩;have X5:=(Aa.refl U).drew.trans Ad;have d1:=X5.cellS c1;have d2:=X5.cellS c2;have d3:=X5.cellS c3;have d4:=X5.cellS c4;have d5:=X5.cellS hg3';have d6:=X5.cellS aM))
         go_wp2;go_roundw
         case rel=>exact⟨n+1,by go_num,KO,Dy.trans X5⟩
         case measure=>simp [intOf];omega
      ·have hle:(l.length:Int)<=(n:Int):=(by omega);go_wp2;go_roundw
       case rel=>exact⟨i+1,by go_num,hlt,hx1.trans JC⟩
       case measure=>simp [intOf];omega
    ·have hle:(l.length:Int)<=(i:Int):=(by omega);have hd:decide (i<l.length)=false:=(by simp [hlt]);have Ca:decide ((i:Int)<(l.length:Int))=false:=(by simp;omega);have AdL:0<l.length:=(by omega);obtain⟨b,o,rfl,_,_⟩:=Cu (hr.ext RU) AdL;have Es:(1:Int)<=(l.length:Int):=(by omega);have hlc:(l.length:Int)<=(c:Int):=(by omega);have hm1:(l.length:Int)-1=((l.length-1:Nat):Int):=(by omega);obtain⟨m,hme⟩:=Am8 (l.length-1);rw [←hme]at hm1;have HM:=Am9 hme;clear hme hlt;go_wp2;rw [←HM.out];clear hle hd Ca hm1 Es hlc
     go_loopw [73] (fun i wr=>∃n:Nat,i=.int .i64 (n:Nat)/\n<=m/\Aa w wr) (fun i _=>m-(intOf i).toNat)
     case atStart=>exact⟨0,rfl,by omega,RU⟩
     case round=>
      obtain⟨n,rfl,hn,JC⟩:=hrel;by_cases KO:n<m
      ·have C5:n+1<l.length:=(by rw [HM.out]at KO;omega);have hl0:0<l.length:=(by omega);obtain⟨_,_,e1,hg1,hg2⟩:=Cu (hr.ext JC) C5;obtain⟨_,_,e2,hg3,hg4⟩:=Cu (hr.ext JC) hl0;simp only [AmG,Addr.mk.injEq,and_true]at e1 e2;obtain⟨rfl,rfl⟩:=e1;obtain⟨e2,e3⟩:=e2;subst e2 e3;obtain⟨px,NS⟩:=Am8 (l[n+1]);obtain⟨p0,B5⟩:=Am8 (l[0]);have Lc:=HZ.out l[n+1] (AmD C5);have hz0:=HZ.out l[0] (AmD hl0);have Dh:=HL.out n C5;rw [←NS]at hg1 hg2 Lc;rw [←B5]at hg3 hg4 hz0;rw [←NS,←B5]at Dh;have ls:=AfN px p0 Lc hz0 hk (by omega);obtain⟨r,FQ⟩:=Am8 (AX px p0);rw [←FQ]at Dh ls;have hr0:0<=r:=(by omega);have e2:o+(n+1)*2=o+2+n*2:=(by omega);rw [e2]at hg1 hg2;rw [Nat.zero_mul,Nat.add_zero]at hg3 hg4;have Gp:(0:Int)<=(n:Int):=(by omega);have hnl:(n:Int)<(m:Int):=(by omega);have hl0':(0:Int)<(l.length:Int):=(by omega);have Dy:=JC.alloc (.cells #[S (R px.x),S (R px.y)] 92);have Aw:=AmB wr (.cells #[S (R px.x),S (R px.y)] 92);have hxx:=(Aa.refl wr).alloc (.cells #[S (R px.x),S (R px.y)] 92);have hg3':=hxx.cellS hg3;have aM:=hxx.cellS hg4;unfold Ak at ls;clear Dh FQ NS B5 Lc hz0 e2
       go_upto_region 26 with fail
       clear hg1 hg2 hg3 hg4;generalize wr.alloc (.cells #[S (R px.x),S (R px.y)] 92)=U at *;obtain⟨bx,Mq⟩:=Am8 wr.heap.size;rw [←Mq]at Aw ⊢;clear Mq hxx;have c3:=Ab (o:=0) Aw rfl;have c4:=Ab (o:=1) Aw rfl;have hU:=hw.ext Dy
       go_region_held3 (fun w'=>w'.cell? ⟨b,o,none⟩=some (S (R p0.x))/\w'.cell? ⟨b,o+1,none⟩=some (S (R p0.y))/\w'.cell? ⟨bx,0,none⟩=some (S (R px.x))/\w'.cell? ⟨bx,1,none⟩=some (S (R px.y)))
        (go_keep)
        (first|((with_reducible refine(ls _ (hU.ext (Aa.refl U).drew)).mono ?_);rintro e w5 ⟨rfl,Ad⟩;have X5:=(Aa.refl U).drew.trans Ad;have d1:=X5.cellS c3;have d2:=X5.cellS c4;have d3:=X5.cellS hg3';have d4:=X5.cellS aM))
       go_wp2;go_roundw
       case rel=>exact⟨n+1,by go_num,KO,Dy.trans X5⟩
       case measure=>simp [intOf];omega
      ·have hle:(m:Int)<=(n:Int):=(by omega);go_wp2;go_ret;exact⟨rfl,JC⟩
theorem Wt(x y:Int)(b o:Nat)(w:World)(h1:w.cell? ⟨b,o,none⟩=some (.int .i64 x))(h2:w.cell? ⟨b,o+1,none⟩=some (.int .i64 y)) :
  Calls Tryz.prog 98 #[.slice (some ⟨b,o,none⟩) 2 2] w (Az (if x≠0 then x else y) w):=by
 obtain⟨r,hr⟩:=Am8 (if x≠0 then x else y);rw [←hr];have HR:=Am9 hr;clear hr;go_enter Tryz.func98,Tryz.ntmps98;go_wp2
 go_loopw [8] (fun i wr=>∃j:Nat,i=.int .i64 (j:Nat)/\j<=2/\(1<=j→x=0)/\(2<=j→y=0)/\wr=w) (fun i _=>2-(intOf i).toNat)
 case atStart=>exact⟨0,rfl,by omega,by omega,by omega,rfl⟩
 case round=>
  obtain⟨j,rfl,hj,hx,hy,rfl⟩:=hrel;by_cases j0:j=0
  ·subst j0;by_cases hx0:x=0
   ·have t:(x != 0)=false:=(by rw [hx0];rfl);have HX:=Am9 hx0;clear hx hy hx0;go_wp2;go_roundw
    case rel=>exact⟨1,rfl,by omega,fun _=>HX.out,by omega,by trivial⟩
    case measure=>simp [intOf]
   ·have t:(x != 0)=true:=(by rw [bne_iff_ne];exact hx0);have KX:r=x:=(by rw [HR.out,if_pos hx0]);subst KX;clear hx hy hx0;go_wp2;go_ret;exact⟨rfl,Aa.refl _⟩
  ·by_cases j1:j=1
   ·subst j1;have hx0:x=0:=hx (by omega);have hry:r=y:=(by rw [HR.out,if_neg (by omega)]);subst hry;have HX:=Am9 hx0;by_cases Bj:r=0
    ·have t:(r != 0)=false:=(by rw [Bj];rfl);have HY:=Am9 Bj;clear hx hy hx0 Bj j0;go_wp2;go_roundw
     case rel=>exact⟨2,rfl,by omega,fun _=>HX.out,fun _=>HY.out,by trivial⟩
     case measure=>simp [intOf]
    ·have t:(r != 0)=true:=(by rw [bne_iff_ne];exact Bj);clear hx hy hx0 Bj j0;go_wp2;go_ret;exact⟨rfl,Aa.refl _⟩
   ·have j2:j=2:=(by omega);subst j2;have hx0:x=0:=hx (by omega);have Bj:y=0:=hy (by omega);have hr0:r=0:=(by rw [HR.out,if_neg (by omega),Bj]);subst hr0;clear hx hy hx0 Bj j0 j1;go_wp2;go_ret;exact⟨rfl,Aa.refl _⟩
end Go.Proofs.YtjalkoacphhgdaaGreatDoor
