/- K15: ShH2 ShH3 ShH4 ShS1 ShS2 ShRg ShS3 ShS4 ShS5. -/
import Derived.Test.YtgnejnampofhoaaGreatDoorK10
import Derived.Test.YtgnejnampofhoaaGreatDoorK12
set_option maxRecDepth 100000
set_option maxHeartbeats 16000000
namespace Go.Proofs.YtgnejnampofhoaaGreatDoor
open Go.RowKit Kl
def Ar(a b c:Pt):Rat:=(b.x-a.x)*(c.y-a.y)-(b.y-a.y)*(c.x-a.x)
theorem iK(a b c:Pt){k:Nat}(ha:Az k a)(hb:Az k b)(hc:Az k c)(hk:0<k)(hk2:k<=1)(w:World)(hw:Ao w) :
  Calls Tryz.prog 205 #[Ak a,Ak b,Ak c] w (Cc (R (Ar a b c)) w):=by
 have s1:=G1 b.x a.x (a:=k) (b:=k) ⟨hb.x,ha.x,hk,hk,by omega⟩;have s2:=G1 b.y a.y (a:=k) (b:=k) ⟨hb.y,ha.y,hk,hk,by omega⟩;have s3:=G1 c.x a.x (a:=k) (b:=k) ⟨hc.x,ha.x,hk,hk,by omega⟩;have s4:=G1 c.y a.y (a:=k) (b:=k) ⟨hc.y,ha.y,hk,hk,by omega⟩;have m1:=NE (b.x-a.x) (c.y-a.y) (a:=k+k+1) (b:=k+k+1) ⟨hb.x.sub ha.x,hc.y.sub ha.y,by omega,by omega,by omega⟩;have m2:=NE (b.y-a.y) (c.x-a.x) (a:=k+k+1) (b:=k+k+1) ⟨hb.y.sub ha.y,hc.x.sub ha.x,by omega,by omega,by omega⟩;have sb:=G1 ((b.x-a.x)*(c.y-a.y)) ((b.y-a.y)*(c.x-a.x)) (a:=k+k+1+(k+k+1)) (b:=k+k+1+(k+k+1)) ⟨(hb.x.sub ha.x).mul (hc.y.sub ha.y),(hb.y.sub ha.y).mul (hc.x.sub ha.x),by omega,by omega,by omega⟩;have e:Ar a b c=(b.x-a.x)*(c.y-a.y)-(b.y-a.y)*(c.x-a.x):=rfl;rw [←e]at sb;obtain⟨r,hr⟩:=Ajv (Ar a b c);rw [←hr]at sb ⊢;unfold Ak;clear ha hb hc e hr;go_enter Tryz.func205,Tryz.ntmps205;(go_wp2_with fail);obtain⟨W,hW,hE,hb1,hb2,hb3⟩:=MN w (.cells #[S (R a.x),S (R a.y)] 27) (.cells #[S (R b.x),S (R b.y)] 27) (.cells #[S (R c.x),S (R c.y)] 27);rw [←hW];clear hW;have hA:IQ W w.heap.size a:=⟨Aa hb1 rfl,Aa hb1 rfl⟩;have hB:IQ W (w.heap.size+1) b:=⟨Aa hb2 rfl,Aa hb2 rfl⟩;have hC:IQ W (w.heap.size+1+1) c:=⟨Aa hb3 rfl,Aa hb3 rfl⟩;clear hb1 hb2 hb3;have GO:=(Ac.refl W).drew;have Gf:=hE.drew;obtain⟨k1,k2⟩:=hA;obtain⟨k3,k4⟩:=hB;have hA:=IQ.mk k1 k2;have hB:=IQ.mk k3 k4
 go_region_held3 (fun w'=>w'.cell? ⟨w.heap.size,0,none⟩=some (S (R a.x))/\w'.cell? ⟨w.heap.size,1,none⟩=some (S (R a.y))/\w'.cell? ⟨w.heap.size+1,0,none⟩=some (S (R b.x))/\w'.cell? ⟨w.heap.size+1,1,none⟩=some (S (R b.y)))
  (go_keep)
  (first|((with_reducible refine(s1 _ (hw.ext Gf)).mono ?_);rintro e w1 ⟨rfl,hx1⟩;obtain⟨q1,q2⟩:=hA.ext (GO.trans hx1);obtain⟨q3,q4⟩:=hB.ext (GO.trans hx1))|((with_reducible refine(s2 _ (hw.ext (Gf.trans hx1))).mono ?_);rintro e w2 ⟨rfl,hx2⟩;obtain⟨t1,t2⟩:=hA.ext (GO.trans (hx1.trans hx2));obtain⟨t3,t4⟩:=hB.ext (GO.trans (hx1.trans hx2))))
 have hV:=GO.trans (hx1.trans hx2);replace hE:=hE.trans hV;replace hA:=hA.ext hV;replace hC:=hC.ext hV;clear GO Gf hx1 hx2 k1 k2 k3 k4 q1 q2 q3 q4 t1 t2 t3 t4 hV hB s1 s2;have GO:=(Ac.refl w2).drew;have Gf:=hE.drew;obtain⟨k1,k2⟩:=hA;obtain⟨k3,k4⟩:=hC;have hA:=IQ.mk k1 k2;have hC:=IQ.mk k3 k4;(go_wp2_with fail)
 go_region_held3 (fun w'=>w'.cell? ⟨w.heap.size,0,none⟩=some (S (R a.x))/\w'.cell? ⟨w.heap.size,1,none⟩=some (S (R a.y))/\w'.cell? ⟨w.heap.size+1+1,0,none⟩=some (S (R c.x))/\w'.cell? ⟨w.heap.size+1+1,1,none⟩=some (S (R c.y)))
  (go_keep)
  (first|((with_reducible refine(s3 _ (hw.ext Gf)).mono ?_);rintro e w3 ⟨rfl,hx1⟩;obtain⟨q1,q2⟩:=hA.ext (GO.trans hx1);obtain⟨q3,q4⟩:=hC.ext (GO.trans hx1))|((with_reducible refine(s4 _ (hw.ext (Gf.trans hx1))).mono ?_);rintro e w4 ⟨rfl,hx2⟩;obtain⟨t1,t2⟩:=hA.ext (GO.trans (hx1.trans hx2));obtain⟨t3,t4⟩:=hC.ext (GO.trans (hx1.trans hx2))))
 replace hE:=hE.trans (GO.trans (hx1.trans hx2));clear hA hC GO Gf hx1 hx2 k1 k2 k3 k4 q1 q2 q3 q4 t1 t2 t3 t4 s3 s4;(go_wp2_with fail);(with_reducible refine(m1 _ (hw.ext hE)).mono ?_);rintro e w5 ⟨rfl,hx⟩;replace hE:=hE.trans hx;(go_wp2_with fail);(with_reducible refine(m2 _ (hw.ext hE)).mono ?_);rintro e w6 ⟨rfl,hx2⟩;replace hE:=hE.trans hx2;(go_wp2_with fail);(with_reducible refine(sb _ (hw.ext hE)).mono ?_);rintro e w7 ⟨rfl,hx3⟩;replace hE:=hE.trans hx3;go_wp2;go_ret;exact⟨rfl,hE⟩
theorem AgT(a b c:Pt){k:Nat}(ha:Az k a)(hb:Az k b)(hc:Az k c)(hk:0<k)(hk2:k<=1)(w:World)(hw:Ao w) :
  Calls Tryz.prog 199 #[Ak a,Ak b,Ak c] w (AK (AM (Ar a b c)) w):=by
 have ar:=iK a b c ha hb hc hk hk2;have sg:=Pq (Ar a b c);have hE:=(((Ac.refl w).alloc (.cells #[S (R a.x),S (R a.y)] 27)).alloc (.cells #[S (R b.x),S (R b.y)] 27)).alloc (.cells #[S (R c.x),S (R c.y)] 27);unfold Ak at ar ⊢;clear ha hb hc;go_enter Tryz.func199,Tryz.ntmps199;(go_wp2_with fail);(with_reducible refine(ar _ (hw.ext hE)).mono ?_);rintro e w1 ⟨rfl,hx⟩;(go_wp2_with fail);(with_reducible refine(sg _).mono ?_);rintro e w2 ⟨rfl,hx2⟩;go_wp2;go_ret;exact⟨rfl,hE.trans (hx.trans hx2)⟩
def Bd(a b:Pt):Int:=if AY a.x b.x≠0 then AY a.x b.x else AY a.y b.y
theorem Adk(a b:Pt){k:Nat}(ha:Az k a)(hb:Az k b)(hk:0<k)(hk2:k<=1)(w:World)(hw:Ao w) :
  Calls Tryz.prog 200 #[Ak a,Ak b] w (AK (Bd a b) w):=by
 have c1:=J2 a.x b.x (a:=k) (b:=k) ⟨ha.x,hb.x,hk,hk,by omega⟩;have c2:=J2 a.y b.y (a:=k) (b:=k) ⟨ha.y,hb.y,hk,hk,by omega⟩;have hE:=((Ac.refl w).alloc (.cells #[S (R a.x),S (R a.y)] 27)).alloc (.cells #[S (R b.x),S (R b.y)] 27);obtain⟨r,hr⟩:=Ajv (Bd a b);rw [←hr]
 have hA:(w.alloc (.cells #[S (R a.x),S (R a.y)] 27)).alloc (.cells #[S (R b.x),S (R b.y)] 27) |>.heap[w.heap.size]?=some (.cells #[S (R a.x),S (R a.y)] 27):=(Below.heap_alloc _ _ _ (by simp)).trans (Ajy w _)
 have hB:=Ajy (w.alloc (.cells #[S (R a.x),S (R a.y)] 27)) (.cells #[S (R b.x),S (R b.y)] 27);rw [Aj6]at hB;obtain⟨x,hx0⟩:=Ajv (AY a.x b.x)
 have K8:r=if x≠0 then x else AY a.y b.y:=by rw [hr,hx0];rfl
 rw [←hx0]at c1;unfold Ak;clear ha hb hr hx0;by_cases h:x=0
 ·subst h;replace K8:r=AY a.y b.y:=(by rw [K8];rfl);simp only [←K8]at c2;clear K8;go_enter Tryz.func200,Tryz.ntmps200;(go_wp2_with fail);(with_reducible refine(c1 _ (hw.ext hE)).mono ?_);rintro e w1 ⟨rfl,hx⟩;replace hE:=hE.trans hx;replace hA:=(hx.block _ (Ajx hA)).trans hA;replace hB:=(hx.block _ (Ajx hB)).trans hB;have k1:=Aa (o:=1) hA rfl;have k2:=Aa (o:=1) hB rfl;(go_wp2_with fail);(with_reducible refine(c2 _ (hw.ext hE)).mono ?_);rintro e w2 ⟨rfl,hx2⟩;go_wp2;go_ret;exact⟨rfl,hE.trans hx2⟩
 ·replace K8:r=x:=(by rw [K8,if_pos h]);have hne:(x != 0)=true:=(by rw [bne_iff_ne];exact h);subst K8;clear c2 h;go_enter Tryz.func200,Tryz.ntmps200;(go_wp2_with fail);(with_reducible refine(c1 _ (hw.ext hE)).mono ?_);rintro e w1 ⟨rfl,hx⟩;go_wp2;go_ret;exact⟨rfl,hE.trans hx⟩
def Ai(l:List Pt):List (Bs×Bs):=l.map KR
theorem BW{w:World}{A:Option Addr}{l:List Pt}(hr:Ae w A (flat (Ai l))){j:Nat}(h:j<l.length):∃b o,A=some ⟨b,o,none⟩/\w.cell? ⟨b,o+j*2,none⟩=some (S (R l[j].x))/\w.cell? ⟨b,o+j*2+1,none⟩=some (S (R l[j].y)):=by
 have hl:(Ai l).length=l.length:=(by simp [Ai]);obtain⟨b,o,e,hcs⟩:=hr.ad (by rw [flat_length];omega);obtain⟨f1,f2⟩:=flat_get (Ai l) j (by omega);have hg1:=hcs (j*2) (by rw [flat_length];omega);have hg2:=hcs (j*2+1) (by rw [flat_length];omega);rw [Aj4 (by rw [flat_length];omega),Aj3]at f1 f2;rw [f1]at hg1;rw [f2,←Nat.add_assoc]at hg2;have e2:(Ai l)[j]'(by omega)=KR l[j]:=(by simp [Ai]);rw [e2]at hg1 hg2;exact⟨b,o,e,hg1,hg2⟩
structure ML(l:List Pt):Prop where
 n3:3<=l.length
 n60:l.length<=60
 turn:∀(i n:Nat) (hi:i<l.length) (hn:n<l.length),n≠i→n≠(i+1)%l.length→0<Ar l[i] (l[(i+1)%l.length]'(Nat.mod_lt _ (by omega))) l[n]
 less:∀(n:Nat) (h:n+1<l.length),¬Bd l[n+1] (l[0]'(by omega))<0
theorem bS(l:List Pt)(hp:ML l){k:Nat}(hz:∀p∈l,Az k p)(hk:0<k)(hk2:k<=1)(A:Option Addr)(c:Nat)(w:World)(hw:Ao w)(hr:Ae w A (flat (Ai l)))(hc:l.length<=c)(_:c<=9223372036854775807) :
  Calls Tryz.prog 111 #[.slice A l.length c] w (AK 0 w):=by
 obtain⟨h3,h60,hturn,rM⟩:=hp;have HT:=Ajw hturn;have HL:=Ajw rM;have HZ:=Ajw hz;clear hturn rM hz;go_enter Tryz.func111,Tryz.ntmps111;go_wp2
 go_loopw [21] (fun i wr=>∃j:Nat,i=.int .i64 (j:Nat)/\j<=l.length/\Ac w wr) (fun i _=>l.length-(intOf i).toNat)
 case atStart=>exact⟨0,rfl,by omega,Ac.refl _⟩
 case round=>
  obtain⟨j,rfl,hj,Ag⟩:=hrel;by_cases hlt:j<l.length
  ·obtain⟨b,o,rfl,hg1,hg2⟩:=BW (hr.ext Ag) hlt;have OU:=HZ.out l[j] (Aj0 hlt);obtain⟨p,hp⟩:=Ajv (l[j]);rw [←hp]at hg1 hg2 OU;have hx1:=Ag.alloc (.cells #[S (R p.x),S (R p.y)] 27);have ck:=MO (R p.x) (R p.y) true (by simp only [true_iff];exact⟨KO OU.x hk (by omega),KO OU.y hk (by omega)⟩) (P0 OU.x hk (by omega)) (P0 OU.y hk (by omega)) _ (hw.ext hx1);rw [GI]at ck;have hj0:(0:Int)<=(j:Int):=(by omega);have AP:(j:Int)<(l.length:Int):=(by omega);clear hp OU;(go_wp2_with fail);(with_reducible refine ck.mono ?_);rintro e w2 ⟨rfl,hx2⟩;go_wp2;go_roundw
   case rel=>exact⟨j+1,by go_num,hlt,hx1.trans hx2⟩
   case measure=>simp [intOf];omega
  ·have hle:(l.length:Int)<=(j:Int):=(by omega);have hd:decide (j<l.length)=false:=(by simp [hlt]);have C9:decide ((j:Int)<(l.length:Int))=false:=(by simp;omega);clear hlt;go_wp2
   (try first|simp only [hd]|simp only [C9])
   clear hle hd C9
   go_loopw [33] (fun i wr=>∃i':Nat,i=.int .i64 (i':Nat)/\i'<=l.length/\Ac w wr) (fun i _=>l.length-(intOf i).toNat)
   case atStart=>exact⟨0,rfl,by omega,Ag⟩
   case round=>
    obtain⟨i,rfl,hi,Rh⟩:=hrel;by_cases hlt:i<l.length
    ·obtain⟨b,o,rfl,hg1,hg2⟩:=BW (hr.ext Rh) hlt;obtain⟨kk,CP⟩:=Ajv ((i+1)%l.length);have CB:kk<l.length:=(by rw [CP];exact Nat.mod_lt _ (by omega));have Mg:((i:Int)+1)%(l.length:Int)=(kk:Int):=(by rw [CP];simp);obtain⟨pa,Fl⟩:=Ajv (l[i]);have OT:=HZ.out l[i] (Aj0 hlt);rw [←Fl]at hg1 hg2 OT;have Jp:(0:Int)<=(i:Int):=(by omega);have Me:(i:Int)<(l.length:Int):=(by omega);have hx1:=Rh.alloc (.cells #[S (R pa.x),S (R pa.y)] 27);have Av:=Ajy wr (.cells #[S (R pa.x),S (R pa.y)] 27);have eV:=Ajw CP;have Ej:=Ajw Fl;clear CP Fl;go_wp2;rw [Mg];clear Mg hg1 hg2;generalize wr.alloc (.cells #[S (R pa.x),S (R pa.y)] 27)=V at *;obtain⟨ba,pO⟩:=Ajv wr.heap.size;rw [←pO]at Av ⊢;clear pO Rh
     go_loopw [45] (fun i wr=>∃n:Nat,i=.int .i64 (n:Nat)/\n<=l.length/\Ac V wr) (fun i _=>l.length-(intOf i).toNat)
     case atStart=>exact⟨0,rfl,by omega,Ac.refl _⟩
     case round=>
      obtain⟨n,rfl,hn,Jn⟩:=hrel;by_cases Kx:n<l.length
      ·obtain⟨_,_,e1,hg1,hg2⟩:=BW (hr.ext (hx1.trans Jn)) Kx;obtain⟨_,_,e2,hg3,hg4⟩:=BW (hr.ext (hx1.trans Jn)) CB;simp only [Aj3,Addr.mk.injEq,and_true]at e1 e2;obtain⟨rfl,rfl⟩:=e1;obtain⟨e2,e3⟩:=e2;subst e2 e3;obtain⟨px,Ny⟩:=Ajv (l[n]);obtain⟨pk,K2⟩:=Ajv (l[kk]);have N7:=HZ.out l[n] (Aj0 Kx);have ZY:=HZ.out l[kk] (Aj0 CB);rw [←Ny]at hg1 hg2 N7;rw [←K2]at hg3 hg4 ZY;have Lp:=Ajw Ny;have ju:=Ajw K2;clear Ny K2;have QT:=(Jn.block _ (Ajx Av)).trans Av;have N5:=Jn.alloc (.cells #[S (R px.x),S (R px.y)] 27);have AO:=Ajy wr (.cells #[S (R px.x),S (R px.y)] 27);have D6:(0:Int)<=(n:Int):=(by omega);have hnl:(n:Int)<(l.length:Int):=(by omega);have hk0:(0:Int)<=(kk:Int):=(by omega);have Ai2:(kk:Int)<(l.length:Int):=(by omega);have hxx:=(Ac.refl wr).alloc (.cells #[S (R px.x),S (R px.y)] 27);replace QT:=(hxx.block _ (Ajx QT)).trans QT;have hg3':=hxx.cellS hg3;have YY:=hxx.cellS hg4
       go_upto_region 19 with fail
       clear hg1 hg2 hg3 hg4;generalize wr.alloc (.cells #[S (R px.x),S (R px.y)] 27)=U at *;obtain⟨bx,LV⟩:=Ajv wr.heap.size;rw [←LV]at AO ⊢;clear LV hxx;by_cases GW:n=i
       ·have t1:((n:Int) != (i:Int))=false:=(by rw [GW];simp);clear GW
        go_quiet (fail)
        go_wp2;go_roundw
        case rel=>exact⟨n+1,by go_num,Kx,N5.drewN _⟩
        case measure=>simp [intOf];omega
       ·have t1:((n:Int) != (i:Int))=true:=(by rw [bne_iff_ne];omega);have t1n:(n != i)=true:=(by rw [bne_iff_ne];exact GW);have t1e:(n == i)=false:=(by rw [beq_eq_false_iff_ne];exact GW);by_cases Nx:n=kk
        ·have t2n:(n != kk)=false:=(by rw [Nx];simp);have t2:((n:Int) != (kk:Int))=false:=(by rw [Nx];simp);clear Nx GW
         go_quiet (fail)
         go_wp2;go_roundw
         case rel=>exact⟨n+1,by go_num,Kx,N5.drewN _⟩
         case measure=>simp [intOf];omega
        ·have t2:((n:Int) != (kk:Int))=true:=(by rw [bne_iff_ne];omega);have t2n:(n != kk)=true:=(by rw [bne_iff_ne];exact Nx);have t2e:(n == kk)=false:=by rw [beq_eq_false_iff_ne];exact Nx
         have QR:0<Ar pa pk px:=by have h:=HT.out i n hlt Kx GW (by rw [←eV.out];exact Nx);rw [Ej.out,ju.out,Lp.out];simp only [eV.out];exact h
         have tn:=AgT pa pk px OT ZY N7 hk (by omega);rw [dC QR]at tn;have c1:=Aa (o:=0) QT rfl;have c2:=Aa (o:=1) QT rfl;have c3:=Aa (o:=0) AO rfl;have c4:=Aa (o:=1) AO rfl;have hU:=hw.ext (hx1.trans N5);unfold Ak at tn;clear N7 ZY QR GW Nx
         go_region_held3 (fun w'=>w'.cell? ⟨ba,0,none⟩=some (S (R pa.x))/\w'.cell? ⟨ba,1,none⟩=some (S (R pa.y))/\w'.cell? ⟨b,o+kk*2,none⟩=some (S (R pk.x))/\w'.cell? ⟨b,o+kk*2+1,none⟩=some (S (R pk.y))/\w'.cell? ⟨bx,0,none⟩=some (S (R px.x))/\w'.cell? ⟨bx,1,none⟩=some (S (R px.y)))
          (go_keep)
          (first|((with_reducible refine(tn _ (hU.ext (Ac.refl U).drew)).mono ?_);rintro e w5 ⟨rfl,AE⟩;have X5:=(Ac.refl U).drew.trans AE;have d1:=X5.cellS c1;have d2:=X5.cellS c2;have d3:=X5.cellS c3;have d4:=X5.cellS c4;have d5:=X5.cellS hg3';have d6:=X5.cellS YY))
         go_wp2;go_roundw
         case rel=>exact⟨n+1,by go_num,Kx,N5.trans X5⟩
         case measure=>simp [intOf];omega
      ·have hle:(l.length:Int)<=(n:Int):=(by omega);go_wp2;go_roundw
       case rel=>exact⟨i+1,by go_num,hlt,hx1.trans Jn⟩
       case measure=>simp [intOf];omega
    ·have hle:(l.length:Int)<=(i:Int):=(by omega);have hd:decide (i<l.length)=false:=(by simp [hlt]);have C9:decide ((i:Int)<(l.length:Int))=false:=(by simp;omega);have Abt:0<l.length:=(by omega);obtain⟨b,o,rfl,_,_⟩:=BW (hr.ext Rh) Abt;have H9:(1:Int)<=(l.length:Int):=(by omega);have hlc:(l.length:Int)<=(c:Int):=(by omega);have hm1:(l.length:Int)-1=((l.length-1:Nat):Int):=(by omega);obtain⟨m,hme⟩:=Ajv (l.length-1);rw [←hme]at hm1;have HM:=Ajw hme;clear hme hlt;go_wp2;rw [←HM.out];clear hle hd C9 hm1 H9 hlc
     go_loopw [73] (fun i wr=>∃n:Nat,i=.int .i64 (n:Nat)/\n<=m/\Ac w wr) (fun i _=>m-(intOf i).toNat)
     case atStart=>exact⟨0,rfl,by omega,Rh⟩
     case round=>
      obtain⟨n,rfl,hn,Jn⟩:=hrel;by_cases Kx:n<m
      ·have Ch:n+1<l.length:=(by rw [HM.out]at Kx;omega);have hl0:0<l.length:=(by omega);obtain⟨_,_,e1,hg1,hg2⟩:=BW (hr.ext Jn) Ch;obtain⟨_,_,e2,hg3,hg4⟩:=BW (hr.ext Jn) hl0;simp only [Aj3,Addr.mk.injEq,and_true]at e1 e2;obtain⟨rfl,rfl⟩:=e1;obtain⟨e2,e3⟩:=e2;subst e2 e3;obtain⟨px,Ny⟩:=Ajv (l[n+1]);obtain⟨p0,CQ⟩:=Ajv (l[0]);have N7:=HZ.out l[n+1] (Aj0 Ch);have hz0:=HZ.out l[0] (Aj0 hl0);have Ed:=HL.out n Ch;rw [←Ny]at hg1 hg2 N7;rw [←CQ]at hg3 hg4 hz0;rw [←Ny,←CQ]at Ed;have ls:=Adk px p0 N7 hz0 hk (by omega);obtain⟨r,FS⟩:=Ajv (Bd px p0);rw [←FS]at Ed ls;have hr0:0<=r:=(by omega);have e2:o+(n+1)*2=o+2+n*2:=(by omega);rw [e2]at hg1 hg2;rw [Nat.zero_mul,Nat.add_zero]at hg3 hg4;have D6:(0:Int)<=(n:Int):=(by omega);have hnl:(n:Int)<(m:Int):=(by omega);have hl0':(0:Int)<(l.length:Int):=(by omega);have N5:=Jn.alloc (.cells #[S (R px.x),S (R px.y)] 27);have AO:=Ajy wr (.cells #[S (R px.x),S (R px.y)] 27);have hxx:=(Ac.refl wr).alloc (.cells #[S (R px.x),S (R px.y)] 27);have hg3':=hxx.cellS hg3;have YY:=hxx.cellS hg4;unfold Ak at ls;clear Ed FS Ny CQ N7 hz0 e2
       go_upto_region 26 with fail
       clear hg1 hg2 hg3 hg4;generalize wr.alloc (.cells #[S (R px.x),S (R px.y)] 27)=U at *;obtain⟨bx,LV⟩:=Ajv wr.heap.size;rw [←LV]at AO ⊢;clear LV hxx;have c3:=Aa (o:=0) AO rfl;have c4:=Aa (o:=1) AO rfl;have hU:=hw.ext N5
       go_region_held3 (fun w'=>w'.cell? ⟨b,o,none⟩=some (S (R p0.x))/\w'.cell? ⟨b,o+1,none⟩=some (S (R p0.y))/\w'.cell? ⟨bx,0,none⟩=some (S (R px.x))/\w'.cell? ⟨bx,1,none⟩=some (S (R px.y)))
        (go_keep)
        (first|((with_reducible refine(ls _ (hU.ext (Ac.refl U).drew)).mono ?_);rintro e w5 ⟨rfl,AE⟩;have X5:=(Ac.refl U).drew.trans AE;have d1:=X5.cellS c3;have d2:=X5.cellS c4;have d3:=X5.cellS hg3';have d4:=X5.cellS YY))
       go_wp2;go_roundw
       case rel=>exact⟨n+1,by go_num,Kx,N5.trans X5⟩
       case measure=>simp [intOf];omega
      ·have hle:(m:Int)<=(n:Int):=(by omega);go_wp2;go_ret;exact⟨rfl,Jn⟩
theorem bJ(x y:Int)(b o:Nat)(w:World)(h1:w.cell? ⟨b,o,none⟩=some (.int .i64 x))(h2:w.cell? ⟨b,o+1,none⟩=some (.int .i64 y)) :
  Calls Tryz.prog 144 #[.slice (some ⟨b,o,none⟩) 2 2] w (AK (if x≠0 then x else y) w):=by
 obtain⟨r,hr⟩:=Ajv (if x≠0 then x else y);rw [←hr];have HR:=Ajw hr;clear hr;go_enter Tryz.func144,Tryz.ntmps144;go_wp2
 go_loopw [8] (fun i wr=>∃j:Nat,i=.int .i64 (j:Nat)/\j<=2/\(1<=j→x=0)/\(2<=j→y=0)/\wr=w) (fun i _=>2-(intOf i).toNat)
 case atStart=>exact⟨0,rfl,by omega,by omega,by omega,rfl⟩
 case round=>
  obtain⟨j,rfl,hj,hx,hy,rfl⟩:=hrel;by_cases j0:j=0
  ·subst j0;by_cases hx0:x=0
   ·have t:(x != 0)=false:=(by rw [hx0];rfl);have HX:=Ajw hx0;clear hx hy hx0;go_wp2;go_roundw
    case rel=>exact⟨1,rfl,by omega,fun _=>HX.out,by omega,by trivial⟩
    case measure=>simp [intOf]
   ·have t:(x != 0)=true:=(by rw [bne_iff_ne];exact hx0);have K8:r=x:=(by rw [HR.out,if_pos hx0]);subst K8;clear hx hy hx0;go_wp2;go_ret;exact⟨rfl,Ac.refl _⟩
  ·by_cases j1:j=1
   ·subst j1;have hx0:x=0:=hx (by omega);have hry:r=y:=(by rw [HR.out,if_neg (by omega)]);subst hry;have HX:=Ajw hx0;by_cases DT:r=0
    ·have t:(r != 0)=false:=(by rw [DT];rfl);have HY:=Ajw DT;clear hx hy hx0 DT j0;go_wp2;go_roundw
     case rel=>exact⟨2,rfl,by omega,fun _=>HX.out,fun _=>HY.out,by trivial⟩
     case measure=>simp [intOf]
    ·have t:(r != 0)=true:=(by rw [bne_iff_ne];exact DT);clear hx hy hx0 DT j0;go_wp2;go_ret;exact⟨rfl,Ac.refl _⟩
   ·have j2:j=2:=(by omega);subst j2;have hx0:x=0:=hx (by omega);have DT:y=0:=hy (by omega);have hr0:r=0:=(by rw [HR.out,if_neg (by omega),DT]);subst hr0;clear hx hy hx0 DT j0 j1;go_wp2;go_ret;exact⟨rfl,Ac.refl _⟩
theorem Ih(a b:Pt){k:Nat}(ha:Az k a)(hb:Az k b)(hk:0<k)(hk2:k<=1)(w:World)(hw:Ao w) :
  Calls Tryz.prog 120 #[Ak a,Ak b] w (AK (Bd a b) w):=by
 have c1:=J2 a.x b.x (a:=k) (b:=k) ⟨ha.x,hb.x,hk,hk,by omega⟩;have c2:=J2 a.y b.y (a:=k) (b:=k) ⟨ha.y,hb.y,hk,hk,by omega⟩;have hE:=((Ac.refl w).alloc (.cells #[S (R a.x),S (R a.y)] 27)).alloc (.cells #[S (R b.x),S (R b.y)] 27);obtain⟨x,hx0⟩:=Ajv (AY a.x b.x);obtain⟨y,DT⟩:=Ajv (AY a.y b.y)
 have hr:Bd a b=if x≠0 then x else y:=by rw [hx0,DT];rfl
 rw [hr];rw [←hx0]at c1;rw [←DT]at c2
 have hA:(w.alloc (.cells #[S (R a.x),S (R a.y)] 27)).alloc (.cells #[S (R b.x),S (R b.y)] 27) |>.heap[w.heap.size]?=some (.cells #[S (R a.x),S (R a.y)] 27):=(Below.heap_alloc _ _ _ (by simp)).trans (Ajy w _)
 have hB:=Ajy (w.alloc (.cells #[S (R a.x),S (R a.y)] 27)) (.cells #[S (R b.x),S (R b.y)] 27);rw [Aj6]at hB;obtain⟨r,FS⟩:=Ajv (if x≠0 then x else y:Int);have HRE:=Ajw FS;rw [←FS];unfold Ak
 have Sc:∀(b o:Nat) (w:World),w.cell? ⟨b,o,none⟩=some (.int .i64 x)→w.cell? ⟨b,o+1,none⟩=some (.int .i64 y)→Calls Tryz.prog 144 #[.slice (some ⟨b,o,none⟩) 2 2] w (AK r w):=by intro b o w h1 h2;rw [FS];exact bJ x y b o w h1 h2
 clear ha hb hr hx0 DT FS;go_enter Tryz.func120,Tryz.ntmps120
 go_upto_region 1 with fail
 generalize (w.alloc (.cells #[S (R a.x),S (R a.y)] 27)).alloc (.cells #[S (R b.x),S (R b.y)] 27)=V at *;have hs:=hE.size;obtain⟨ba,Av⟩:=Ajv w.heap.size;rw [←Av]at hA hB ⊢;clear Av hs;have k1:=Aa (o:=0) hA rfl;have k2:=Aa (o:=1) hA rfl;have k3:=Aa (o:=0) hB rfl;have k4:=Aa (o:=1) hB rfl;have hV:=hw.ext hE;clear hA hB
 go_region_held3 (fun w'=>w'.cell? ⟨ba,0,none⟩=some (S (R a.x))/\w'.cell? ⟨ba,1,none⟩=some (S (R a.y))/\w'.cell? ⟨ba+1,0,none⟩=some (S (R b.x))/\w'.cell? ⟨ba+1,1,none⟩=some (S (R b.y)))
  (go_keep)
  (first|((with_reducible refine(c1 _ (hV.ext (Ac.refl V).drew)).mono ?_);rintro e w5 ⟨rfl,AE⟩;have X5:Ac V w5:=(Ac.refl V).drew.trans AE;have d1:=X5.cellS k1;have d2:=X5.cellS k2;have d3:=X5.cellS k3;have d4:=X5.cellS k4)|((with_reducible refine(c2 _ (hV.ext X5)).mono ?_);rintro e w6 ⟨rfl,AU⟩;have X6:Ac V w6:=X5.trans AU;have f1:=X6.cellS k1;have f2:=X6.cellS k2;have f3:=X6.cellS k3;have f4:=X6.cellS k4)|((with_reducible refine(Sc w6.heap.size 0 (w6.alloc (.cells #[.int .i64 x,.int .i64 y] 3)) (Aa (o:=0) (Ajy w6 _) rfl) (Aa (o:=1) (Ajy w6 _) rfl)).mono ?_);rintro e w7 ⟨rfl,AL⟩;have X7:Ac V w7:=(X6.alloc _).trans AL;have g1:=X7.cellS k1;have g2:=X7.cellS k2;have g3:=X7.cellS k3;have g4:=X7.cellS k4))
 go_wp2;go_ret;exact⟨rfl,hE.trans X7⟩
theorem xC(a b c:Pt){k:Nat}(ha:Az k a)(hb:Az k b)(hc:Az k c)(hk:0<k)(hk2:k<=1)(w:World)(hw:Ao w) :
  Calls Tryz.prog 264 #[Ak a,Ak b,Ak c] w (Cc (R (Ar a b c)) w):=by
 have s1:=G1 b.x a.x (a:=k) (b:=k) ⟨hb.x,ha.x,hk,hk,by omega⟩;have s2:=G1 b.y a.y (a:=k) (b:=k) ⟨hb.y,ha.y,hk,hk,by omega⟩;have s3:=G1 c.x a.x (a:=k) (b:=k) ⟨hc.x,ha.x,hk,hk,by omega⟩;have s4:=G1 c.y a.y (a:=k) (b:=k) ⟨hc.y,ha.y,hk,hk,by omega⟩;have m1:=NE (b.x-a.x) (c.y-a.y) (a:=k+k+1) (b:=k+k+1) ⟨hb.x.sub ha.x,hc.y.sub ha.y,by omega,by omega,by omega⟩;have m2:=NE (b.y-a.y) (c.x-a.x) (a:=k+k+1) (b:=k+k+1) ⟨hb.y.sub ha.y,hc.x.sub ha.x,by omega,by omega,by omega⟩;have sb:=G1 ((b.x-a.x)*(c.y-a.y)) ((b.y-a.y)*(c.x-a.x)) (a:=k+k+1+(k+k+1)) (b:=k+k+1+(k+k+1)) ⟨(hb.x.sub ha.x).mul (hc.y.sub ha.y),(hb.y.sub ha.y).mul (hc.x.sub ha.x),by omega,by omega,by omega⟩;have e:Ar a b c=(b.x-a.x)*(c.y-a.y)-(b.y-a.y)*(c.x-a.x):=rfl;rw [←e]at sb;obtain⟨r,hr⟩:=Ajv (Ar a b c);rw [←hr]at sb ⊢;unfold Ak;clear ha hb hc e hr;go_enter Tryz.func264,Tryz.ntmps264;(go_wp2_with fail);obtain⟨W,hW,hE,hb1,hb2,hb3⟩:=MN w (.cells #[S (R a.x),S (R a.y)] 27) (.cells #[S (R b.x),S (R b.y)] 27) (.cells #[S (R c.x),S (R c.y)] 27);rw [←hW];clear hW
 have SO:∀w',Ac W w'→(w'.cell? ⟨w.heap.size,0,none⟩=some (S (R a.x))/\w'.cell? ⟨w.heap.size,1,none⟩=some (S (R a.y))/\w'.cell? ⟨w.heap.size+1,0,none⟩=some (S (R b.x))/\w'.cell? ⟨w.heap.size+1,1,none⟩=some (S (R b.y))/\w'.cell? ⟨w.heap.size+1+1,0,none⟩=some (S (R c.x))/\w'.cell? ⟨w.heap.size+1+1,1,none⟩=some (S (R c.y))):=fun w' h=>⟨h.cellS (Aa hb1 rfl),h.cellS (Aa hb1 rfl),h.cellS (Aa hb2 rfl),h.cellS (Aa hb2 rfl),h.cellS (Aa hb3 rfl),h.cellS (Aa hb3 rfl)⟩
 have CS:=hw.ext hE;have X:Ac W W:=Ac.refl W;clear hb1 hb2 hb3
 go_region_held3 (fun w'=>w'.cell? ⟨w.heap.size,0,none⟩=some (S (R a.x))/\w'.cell? ⟨w.heap.size,1,none⟩=some (S (R a.y))/\w'.cell? ⟨w.heap.size+1,0,none⟩=some (S (R b.x))/\w'.cell? ⟨w.heap.size+1,1,none⟩=some (S (R b.y))/\w'.cell? ⟨w.heap.size+1+1,0,none⟩=some (S (R c.x))/\w'.cell? ⟨w.heap.size+1+1,1,none⟩=some (S (R c.y)))
  (first|with_reducible exact SO _ X|with_reducible exact SO _ X.drew)
  (first|((with_reducible refine(s1 _ (CS.ext (by first|exact X|exact X.drew))).mono ?_);rintro e w1 ⟨rfl,hx1⟩;replace X:Ac W w1:=(by first|exact X.trans hx1|exact X.drew.trans hx1))|((with_reducible refine(s2 _ (CS.ext (by first|exact X|exact X.drew))).mono ?_);rintro e w1 ⟨rfl,hx1⟩;replace X:Ac W w1:=(by first|exact X.trans hx1|exact X.drew.trans hx1))|((with_reducible refine(s3 _ (CS.ext (by first|exact X|exact X.drew))).mono ?_);rintro e w1 ⟨rfl,hx1⟩;replace X:Ac W w1:=(by first|exact X.trans hx1|exact X.drew.trans hx1))|((with_reducible refine(s4 _ (CS.ext (by first|exact X|exact X.drew))).mono ?_);rintro e w1 ⟨rfl,hx1⟩;replace X:Ac W w1:=(by first|exact X.trans hx1|exact X.drew.trans hx1))|((with_reducible refine(m1 _ (CS.ext (by first|exact X|exact X.drew))).mono ?_);rintro e w1 ⟨rfl,hx1⟩;replace X:Ac W w1:=(by first|exact X.trans hx1|exact X.drew.trans hx1))|((with_reducible refine(m2 _ (CS.ext (by first|exact X|exact X.drew))).mono ?_);rintro e w1 ⟨rfl,hx1⟩;replace X:Ac W w1:=(by first|exact X.trans hx1|exact X.drew.trans hx1))|((with_reducible refine(sb _ (CS.ext (by first|exact X|exact X.drew))).mono ?_);rintro e w1 ⟨rfl,hx1⟩;replace X:Ac W w1:=(by first|exact X.trans hx1|exact X.drew.trans hx1)))
 go_wp2;go_ret;exact⟨rfl,hE.trans X⟩
theorem KT(a b c:Pt){k:Nat}(ha:Az k a)(hb:Az k b)(hc:Az k c)(hk:0<k)(hk2:k<=1)(w:World)(hw:Ao w) :
  Calls Tryz.prog 189 #[Ak a,Ak b,Ak c] w (AK (AM (Ar a b c)) w):=by
 have ar:=xC a b c ha hb hc hk hk2;have sg:=Pq (Ar a b c);have hE:=(((Ac.refl w).alloc (.cells #[S (R a.x),S (R a.y)] 27)).alloc (.cells #[S (R b.x),S (R b.y)] 27)).alloc (.cells #[S (R c.x),S (R c.y)] 27);unfold Ak at ar ⊢;clear ha hb hc;go_enter Tryz.func189,Tryz.ntmps189;(go_wp2_with fail);(with_reducible refine(ar _ (hw.ext hE)).mono ?_);rintro e w1 ⟨rfl,hx⟩;(go_wp2_with fail);(with_reducible refine(sg _).mono ?_);rintro e w2 ⟨rfl,hx2⟩;go_wp2;go_ret;exact⟨rfl,hE.trans (hx.trans hx2)⟩
def IH(y x:Int):Int:=if 0<y then 0 else if y=0 then (if 0<x then 0 else 1)else 1
def BO(p q:Pt):Int:=IH (AY q.y p.y) (AY q.x p.x)
theorem Adx{y x:Int}(h:0<y):IH y x=0:=if_pos h
theorem Ady{y x:Int}(h:y=0)(hx:0<x):IH y x=0:=by unfold IH;rw [if_neg (by omega),if_pos h,if_pos hx]
theorem Adz{y x:Int}(h:y=0)(hx:¬0<x):IH y x=1:=by unfold IH;rw [if_neg (by omega),if_pos h,if_neg hx]
theorem Ad0{y x:Int}(h:y<0):IH y x=1:=by unfold IH;rw [if_neg (by omega),if_neg (by omega)]
theorem xO(p q:Pt){k:Nat}(hp:Az k p)(hq:Az k q)(hk:0<k)(hk2:k<=1)(w:World)(hw:Ao w) :
  Calls Tryz.prog 266 #[Ak p,Ak q] w (AK (BO p q) w):=by
 have c1:=J2 q.y p.y (a:=k) (b:=k) ⟨hq.y,hp.y,hk,hk,by omega⟩;have c2:=J2 q.x p.x (a:=k) (b:=k) ⟨hq.x,hp.x,hk,hk,by omega⟩;unfold BO;generalize AY q.y p.y=y at *;generalize AY q.x p.x=x at *;have hb1:=(Below.heap_alloc (w.alloc (.cells #[S (R p.x),S (R p.y)] 27)) (.cells #[S (R q.x),S (R q.y)] 27) w.heap.size (by simp)).trans (Ajy w (.cells #[S (R p.x),S (R p.y)] 27));have hb2:=Ajy (w.alloc (.cells #[S (R p.x),S (R p.y)] 27)) (.cells #[S (R q.x),S (R q.y)] 27);rw [Aj6]at hb2;have hE:=((Ac.refl w).alloc (.cells #[S (R p.x),S (R p.y)] 27)).alloc (.cells #[S (R q.x),S (R q.y)] 27);unfold Ak;clear hp hq;obtain⟨r,hr⟩:=Ajv (IH y x);rw [←hr];have HR:=Ajw hr;clear hr;go_enter Tryz.func266,Tryz.ntmps266
 go_upto_region 1 with fail
 generalize (w.alloc (.cells #[S (R p.x),S (R p.y)] 27)).alloc (.cells #[S (R q.x),S (R q.y)] 27)=V at *;obtain⟨ba,Av⟩:=Ajv w.heap.size;rw [←Av]at hb1 hb2 ⊢;clear Av;have k1:=Aa (o:=0) hb1 rfl;have k2:=Aa (o:=1) hb1 rfl;have k3:=Aa (o:=0) hb2 rfl;have k4:=Aa (o:=1) hb2 rfl;clear hb1 hb2;(go_wp2_with fail);(with_reducible refine(c1 _ (hw.ext hE)).mono ?_);rintro e w1 ⟨rfl,hx1⟩;have j1:=hx1.cellS k1;have j2:=hx1.cellS k2;have j3:=hx1.cellS k3;have j4:=hx1.cellS k4;replace hE:=hE.trans hx1;clear k1 k2 k3 k4 hx1;by_cases y1:0<y
 ·have e0:r=0:=(by rw [HR.out,Adx y1]);subst e0;have d1:decide (0<y)=true:=decide_eq_true y1;clear c2 c1;go_wp2;go_ret;exact⟨rfl,hE⟩
 ·by_cases y0:y=0
  ·subst y0;by_cases x1:0<x
   ·have e0:r=0:=(by rw [HR.out,Ady rfl x1]);subst e0;have d1:decide (0<x)=true:=decide_eq_true x1;clear c1 y1;(go_wp2_with fail);(with_reducible refine(c2 _ (hw.ext hE)).mono ?_);rintro e w2 ⟨rfl,hx2⟩;go_wp2;go_ret;exact⟨rfl,hE.trans hx2⟩
   ·have e0:r=1:=(by rw [HR.out,Adz rfl x1]);subst e0;have d1:decide (0<x)=false:=decide_eq_false x1;have x2:x<=0:=(by omega);clear c1 y1 x1;(go_wp2_with fail);(with_reducible refine(c2 _ (hw.ext hE)).mono ?_);rintro e w2 ⟨rfl,hx2⟩;go_wp2;go_ret;exact⟨rfl,hE.trans hx2⟩
  ·have e0:r=1:=(by rw [HR.out,Ad0 (by omega)]);subst e0;have d1:decide (0<y)=false:=decide_eq_false y1;have d2:decide (y=0)=false:=decide_eq_false y0;have d3:(y == 0)=false:=(by rw [beq_eq_false_iff_ne];exact y0);have y2:y<0:=(by omega);clear c2 c1 y1;go_wp2;go_ret;exact⟨rfl,hE⟩
def J1(u v t:Int):Bool:=decide (u<=0)&&(decide (v<=0)&&decide (t=0))
def Mz(a b p:Pt):Bool:=J1 (Bd a p) (Bd p b) (AM (Ar a b p))
def EL(a b p:Pt):Bool:=if 0<Bd a b then Mz b a p else Mz a b p
theorem AeK(a b p:Pt){k:Nat}(ha:Az k a)(hb:Az k b)(hp:Az k p)(hk:0<k)(hk2:k<=1)(hz:¬0<Bd a b)(w:World)(hw:Ao w) :
  Calls Tryz.prog 178 #[Ak a,Ak b,Ak p] w (By (Mz a b p) w):=by
 have c0:=Ih a b ha hb hk hk2;have c1:=Ih a p ha hp hk hk2;have c2:=Ih p b hp hb hk hk2;have c3:=KT a b p ha hb hp hk hk2;unfold Mz;generalize Bd a b=z at *;generalize Bd a p=u at *;generalize Bd p b=v at *;generalize AM (Ar a b p)=t at *;obtain⟨W,hW,hE,hb1,hb2,hb3⟩:=MN w (.cells #[S (R a.x),S (R a.y)] 27) (.cells #[S (R b.x),S (R b.y)] 27) (.cells #[S (R p.x),S (R p.y)] 27);obtain⟨r,hr⟩:=Ajv (J1 u v t);rw [←hr];have HR:=Ajw hr;unfold Ak at c0 c1 c2 c3 ⊢;clear ha hb hp hr;go_enter Tryz.func178,Tryz.ntmps178
 go_upto_region 1 with fail
 rw [←hW];clear hW;obtain⟨ba,Av⟩:=Ajv w.heap.size;have hle:w.heap.size<=ba:=(by omega);rw [←Av]at hb1 hb2 hb3 ⊢;clear Av;have k1:=Aa (o:=0) hb1 rfl;have k2:=Aa (o:=1) hb1 rfl;have k3:=Aa (o:=0) hb2 rfl;have k4:=Aa (o:=1) hb2 rfl;(go_wp2_with fail);(with_reducible refine(c0 _ (hw.ext hE)).mono ?_);rintro e w1 ⟨rfl,hx1⟩;replace hb1:=(hx1.block _ (Ajx hb1)).trans hb1;replace hb2:=(hx1.block _ (Ajx hb2)).trans hb2;replace hb3:=(hx1.block _ (Ajx hb3)).trans hb3;replace hE:=hE.trans hx1;clear k1 k2 k3 k4 hx1 c0;have dz:decide (0<z)=false:=decide_eq_false (by omega);have hz':z<=0:=(by omega);clear hz
 go_upto_region 3 with fail
 have Dw:=hE;have n1:=hb1;have n2:=hb2;have n3:=hb3;obtain⟨V,hV⟩:=Ajv w1;rw [←hV]at Dw n1 n2 n3 ⊢;clear hV hb1 hb2 hb3 hE dz;have k1:=Aa (o:=0) n1 rfl;have k2:=Aa (o:=1) n1 rfl;have k3:=Aa (o:=0) n2 rfl;have k4:=Aa (o:=1) n2 rfl;have k5:=Aa (o:=0) n3 rfl;have k6:=Aa (o:=1) n3 rfl;clear n1 n2 n3;(go_wp2_with fail);(with_reducible refine(c1 _ (hw.ext Dw)).mono ?_);rintro e w2 ⟨rfl,hx2⟩;have j1:=hx2.cellS k1;have j2:=hx2.cellS k2;have j3:=hx2.cellS k3;have j4:=hx2.cellS k4;have j5:=hx2.cellS k5;have j6:=hx2.cellS k6;replace Dw:=Dw.trans hx2;clear k1 k2 k3 k4 k5 k6 hx2 c1;by_cases hu:u<=0
 ·have du:decide (u<=0)=true:=decide_eq_true hu;(go_wp2_with fail);(with_reducible refine(c2 _ (hw.ext Dw)).mono ?_);rintro e w3 ⟨rfl,hx3⟩;have i1:=hx3.cellS j1;have i2:=hx3.cellS j2;have i3:=hx3.cellS j3;have i4:=hx3.cellS j4;have i5:=hx3.cellS j5;have i6:=hx3.cellS j6;replace Dw:=Dw.trans hx3;clear j1 j2 j3 j4 j5 j6 hx3 c2;by_cases hv:v<=0
  ·have dv:decide (v<=0)=true:=decide_eq_true hv;have hrt:r=decide (t=0):=(by rw [HR.out];unfold J1;rw [du,dv];rfl);have Wi:=Ajw hrt;clear hrt;(go_wp2_with fail);(with_reducible refine(c3 _ (hw.ext Dw)).mono ?_);rintro e w4 ⟨rfl,Aq⟩;go_wp2;go_ret;exact⟨by rw [Wi.out];rfl,Dw.trans Aq⟩
  ·have dv:decide (v<=0)=false:=decide_eq_false hv;have hrt:r=false:=(by rw [HR.out];unfold J1;rw [du,dv];rfl);subst hrt;have hv':0<v:=(by omega);clear hv c3;go_wp2;go_ret;exact⟨rfl,Dw⟩
 ·have du:decide (u<=0)=false:=decide_eq_false hu;have hrt:r=false:=(by rw [HR.out];unfold J1;rw [du];rfl);subst hrt;have Ie:0<u:=(by omega);clear hu c2 c3;go_wp2;go_ret;exact⟨rfl,Dw⟩
theorem AeJ(a b p:Pt){k:Nat}(ha:Az k a)(hb:Az k b)(hp:Az k p)(hk:0<k)(hk2:k<=1)(hz:0<Bd a b)(w:World)(hw:Ao w) :
  Calls Tryz.prog 178 #[Ak a,Ak b,Ak p] w (By (Mz b a p) w):=by
 have c0:=Ih a b ha hb hk hk2;have c1:=Ih b p hb hp hk hk2;have c2:=Ih p a hp ha hk hk2;have c3:=KT b a p hb ha hp hk hk2;unfold Mz;generalize Bd a b=z at *;generalize Bd b p=u at *;generalize Bd p a=v at *;generalize AM (Ar b a p)=t at *;obtain⟨W,hW,hE,hb1,hb2,hb3⟩:=MN w (.cells #[S (R a.x),S (R a.y)] 27) (.cells #[S (R b.x),S (R b.y)] 27) (.cells #[S (R p.x),S (R p.y)] 27);obtain⟨r,hr⟩:=Ajv (J1 u v t);rw [←hr];have HR:=Ajw hr;unfold Ak at c0 c1 c2 c3 ⊢;clear ha hb hp hr;go_enter Tryz.func178,Tryz.ntmps178
 go_upto_region 1 with fail
 rw [←hW];clear hW;obtain⟨ba,Av⟩:=Ajv w.heap.size;have hle:w.heap.size<=ba:=(by omega);rw [←Av]at hb1 hb2 hb3 ⊢;clear Av;have k1:=Aa (o:=0) hb1 rfl;have k2:=Aa (o:=1) hb1 rfl;have k3:=Aa (o:=0) hb2 rfl;have k4:=Aa (o:=1) hb2 rfl;(go_wp2_with fail);(with_reducible refine(c0 _ (hw.ext hE)).mono ?_);rintro e w1 ⟨rfl,hx1⟩;replace hb1:=(hx1.block _ (Ajx hb1)).trans hb1;replace hb2:=(hx1.block _ (Ajx hb2)).trans hb2;replace hb3:=(hx1.block _ (Ajx hb3)).trans hb3;replace hE:=hE.trans hx1;clear k1 k2 k3 k4 hx1 c0;have dz:decide (0<z)=true:=decide_eq_true hz;have k1:=Aa (o:=0) hb1 rfl;have k2:=Aa (o:=1) hb1 rfl;have k3:=Aa (o:=0) hb2 rfl;have k4:=Aa (o:=1) hb2 rfl;have f1:=Aj (o:=0) hb1;have f2:=Aj (o:=1) hb1;have f3:=Aj (o:=0) hb2;have f4:=Aj (o:=1) hb2
 go_upto_region 3 with fail
 obtain⟨V,hV⟩:=Ajv ((((w1.setCell ⟨ba,0,none⟩ (S (R b.x))).setCell ⟨ba,1,none⟩ (S (R b.y))).setCell ⟨ba+1,0,none⟩ (S (R a.x))).setCell ⟨ba+1,1,none⟩ (S (R a.y)));rw [←hV]
 have Dw:Ac w V:=by rw [hV];exact(((hE.setCell (p:=⟨ba,0,none⟩) hle _).setCell (p:=⟨ba,1,none⟩) hle _).setCell (p:=⟨ba+1,0,none⟩) (Nat.le_succ_of_le hle) _).setCell (p:=⟨ba+1,1,none⟩) (Nat.le_succ_of_le hle) _
 have n1:V.heap[ba]?=some (.cells #[S (R b.x),S (R b.y)] 27):=by rw [hV,Below.heap_setCell _ _ _ _ (show ba≠ba+1 by omega),Below.heap_setCell _ _ _ _ (show ba≠ba+1 by omega)];exact iY _ _ hb1
 have n2:V.heap[ba+1]?=some (.cells #[S (R a.x),S (R a.y)] 27):=by rw [hV];exact iY _ _ (by rw [Below.heap_setCell _ _ _ _ (show ba+1≠ba by omega),Below.heap_setCell _ _ _ _ (show ba+1≠ba by omega)];exact hb2)
 have n3:V.heap[ba+1+1]?=some (.cells #[S (R p.x),S (R p.y)] 27):=by rw [hV,Below.heap_setCell _ _ _ _ (show ba+1+1≠ba+1 by omega),Below.heap_setCell _ _ _ _ (show ba+1+1≠ba+1 by omega),Below.heap_setCell _ _ _ _ (show ba+1+1≠ba by omega),Below.heap_setCell _ _ _ _ (show ba+1+1≠ba by omega)];exact hb3
 clear hV k1 k2 k3 k4 f1 f2 f3 f4 hb1 hb2 hb3 hE dz;have k1:=Aa (o:=0) n1 rfl;have k2:=Aa (o:=1) n1 rfl;have k3:=Aa (o:=0) n2 rfl;have k4:=Aa (o:=1) n2 rfl;have k5:=Aa (o:=0) n3 rfl;have k6:=Aa (o:=1) n3 rfl;clear n1 n2 n3;(go_wp2_with fail);(with_reducible refine(c1 _ (hw.ext Dw)).mono ?_);rintro e w2 ⟨rfl,hx2⟩;have j1:=hx2.cellS k1;have j2:=hx2.cellS k2;have j3:=hx2.cellS k3;have j4:=hx2.cellS k4;have j5:=hx2.cellS k5;have j6:=hx2.cellS k6;replace Dw:=Dw.trans hx2;clear k1 k2 k3 k4 k5 k6 hx2 c1;by_cases hu:u<=0
 ·have du:decide (u<=0)=true:=decide_eq_true hu;(go_wp2_with fail);(with_reducible refine(c2 _ (hw.ext Dw)).mono ?_);rintro e w3 ⟨rfl,hx3⟩;have i1:=hx3.cellS j1;have i2:=hx3.cellS j2;have i3:=hx3.cellS j3;have i4:=hx3.cellS j4;have i5:=hx3.cellS j5;have i6:=hx3.cellS j6;replace Dw:=Dw.trans hx3;clear j1 j2 j3 j4 j5 j6 hx3 c2;by_cases hv:v<=0
  ·have dv:decide (v<=0)=true:=decide_eq_true hv;have hrt:r=decide (t=0):=(by rw [HR.out];unfold J1;rw [du,dv];rfl);have Wi:=Ajw hrt;clear hrt;(go_wp2_with fail);(with_reducible refine(c3 _ (hw.ext Dw)).mono ?_);rintro e w4 ⟨rfl,Aq⟩;go_wp2;go_ret;exact⟨by rw [Wi.out];rfl,Dw.trans Aq⟩
  ·have dv:decide (v<=0)=false:=decide_eq_false hv;have hrt:r=false:=(by rw [HR.out];unfold J1;rw [du,dv];rfl);subst hrt;have hv':0<v:=(by omega);clear hv c3;go_wp2;go_ret;exact⟨rfl,Dw⟩
 ·have du:decide (u<=0)=false:=decide_eq_false hu;have hrt:r=false:=(by rw [HR.out];unfold J1;rw [du];rfl);subst hrt;have Ie:0<u:=(by omega);clear hu c2 c3;go_wp2;go_ret;exact⟨rfl,Dw⟩
theorem bT(a b p:Pt){k:Nat}(ha:Az k a)(hb:Az k b)(hp:Az k p)(hk:0<k)(hk2:k<=1)(w:World)(hw:Ao w) :
  Calls Tryz.prog 178 #[Ak a,Ak b,Ak p] w (By (EL a b p) w):=by
 unfold EL
 split
 ·exact AeJ a b p ha hb hp hk hk2 (by assumption) w hw
 ·exact AeK a b p ha hb hp hk hk2 (by assumption) w hw
structure Af(W:World) where
 w:World
 h:Ac W w
instance (W:World):Inhabited (Af W):=⟨⟨W,Ac.refl W⟩⟩
theorem Af.cell{W:World}{a:Addr}{v:Value}(h:W.cell? a=some v)(p:Af W):p.w.cell? a=some v:=p.h.cellS h
theorem CW{P:Program}{id:Nat}{Q:Exit→Act→World→Prop}{a:Act}{W:World}{l:List Oper}(hm:P.follows .mixedOrders=true)(hB:Region.lexB .any l.toArray=true)
  (h:wpQuiet P l.toArray (fun w'=>∃p:Af W,w'=p.w) (fun a'=>∀w',(∃p:Af W,w'=p.w)→Q .normal a' w') l a):(Code.region id l.toArray true).wp P Q a W:=
 wp_region_quiet (C:=fun w'=>∃p:Af W,w'=p.w) hm hB ⟨⟨W.drew,(Ac.refl W).drew⟩,rfl⟩ (by simpa using h)
section
variable {P : Program} {f : FuncId} {args : Array Value} {W : World} {p : Af W}
theorem lV{v:Value}(h:Calls P f args p.w (Bp v p.w)):Calls P f args p.w fun e w''=>e=.returned v/\∃q:Af W,w''=q.w:=
 h.mono fun _ w1 ⟨he,hx⟩=>⟨he,⟨w1,p.h.trans hx⟩,rfl⟩
theorem FC{n:Int}(h:Calls P f args p.w (AK n p.w)):Calls P f args p.w fun e w''=>e=.returned (.int .i64 n)/\∃q:Af W,w''=q.w:=
 h.mono fun _ w1 ⟨he,hx⟩=>⟨he,⟨w1,p.h.trans hx⟩,rfl⟩
theorem lU{l:Bs}(h:Calls P f args p.w (Cc l p.w)):Calls P f args p.w fun e w''=>e=.returned (S l)/\∃q:Af W,w''=q.w:=
 h.mono fun _ w1 ⟨he,hx⟩=>⟨he,⟨w1,p.h.trans hx⟩,rfl⟩
theorem Xv{b:Bool}(h:Calls P f args p.w (By b p.w)):Calls P f args p.w fun e w''=>e=.returned (.bool b)/\∃q:Af W,w''=q.w:=
 h.mono fun _ w1 ⟨he,hx⟩=>⟨he,⟨w1,p.h.trans hx⟩,rfl⟩
end
def Ay(p q:Pt):Bool:=decide (p.x=q.x)&&decide (p.y=q.y)
theorem C3{p q:Pt} : Ay p q=true↔p=q:=by
 unfold Ay;rw [Bool.and_eq_true,decide_eq_true_eq,decide_eq_true_eq];constructor
 ·rintro⟨h1,h2⟩
  cases p;cases q;simp_all
 ·rintro rfl;exact⟨rfl,rfl⟩
theorem IY(p q:Rat):(R p == R q)=decide (p=q):=by
 by_cases h:p=q
 ·subst h;simp
 ·rw [decide_eq_false h,beq_eq_false_iff_ne];exact fun e=>h (Ti e)
theorem cZ(p q:Pt)(W:World):(binOp .eql 27 (.agg #[S (R p.x),S (R p.y)]) (.agg #[S (R q.x),S (R q.y)])).run Tryz.prog W=.ok (.bool (Ay p q)) W:=by
 unfold Ay;rw [←IY,←IY]
 cases b1:(R p.x == R q.x)<;>cases b2:(R p.y == R q.y)<;>simp [go_sem,b1,b2]
theorem yR(p q:Pt)(W:World):(binOp .neq 27 (.agg #[S (R p.x),S (R p.y)]) (.agg #[S (R q.x),S (R q.y)])).run Tryz.prog W=.ok (.bool (!Ay p q)) W:=by
 unfold Ay;rw [←IY,←IY]
 cases b1:(R p.x == R q.x)<;>cases b2:(R p.y == R q.y)<;>simp [go_sem,b1,b2]
theorem Pz(q:Rat):-1<=AM q/\AM q<=1:=by unfold AM;split<;>(try split)<;>omega
def JR(x y z:Pt):Bool:=EL x y z&&(!Ay z x && !Ay z y)
def Vv(a b c d:Pt):Bool:=Ay a c||(Ay a d||(Ay b c||Ay b d))
def JD(a b c:Pt):Int:=AM (Ar a b c)
def Pm(a b c d:Pt):Bool:=decide (JD a b c*JD a b d<0)&&decide (JD c d a*JD c d b<0)
def Il(a b c d:Pt):List (Pt×Pt×Pt):=[(c,d,a),(c,d,b),(a,b,c),(a,b,d)]
def M5(a b c d:Pt):Bool:=(Il a b c d).any (fun t=>JR t.1 t.2.1 t.2.2)||(!Vv a b c d&&Pm a b c d)
def P3(a b c d:Pt):Array Value:=#[S (R c.x),S (R c.y),S (R d.x),S (R d.y),S (R a.x),S (R a.y),S (R c.x),S (R c.y),S (R d.x),S (R d.y),S (R b.x),S (R b.y),S (R a.x),S (R a.y),S (R b.x),S (R b.y),S (R c.x),S (R c.y),S (R a.x),S (R a.y),S (R b.x),S (R b.y),S (R d.x),S (R d.y)]
theorem AgO(a b c d:Pt){k:Nat}(ha:Az k a)(hb:Az k b)(hc:Az k c)(hd:Az k d){j:Nat}(hj:j<4) :
  ∃x y z:Pt,(∀W,(Instr.index 250 (.agg (P3 a b c d)) (.int .i64 (j:Nat))).run Tryz.prog W=.ok (.agg #[S (R x.x),S (R x.y),S (R y.x),S (R y.y),S (R z.x),S (R z.y)]) W)/\(Il a b c d)[j]?=some (x,y,z)/\Az k x/\Az k y/\Az k z:=by
 obtain rfl|rfl|rfl|rfl:j=0∨j=1∨j=2∨j=3:=by omega
 ·exact⟨c,d,a,fun W=>by unfold P3;kernel_rfl,rfl,hc,hd,ha⟩
 ·exact⟨c,d,b,fun W=>by unfold P3;kernel_rfl,rfl,hc,hd,hb⟩
 ·exact⟨a,b,c,fun W=>by unfold P3;kernel_rfl,rfl,ha,hb,hc⟩
 ·exact⟨a,b,d,fun W=>by unfold P3;kernel_rfl,rfl,ha,hb,hd⟩
theorem rq(w:World)(o1 o2 o3 o4:Obj):∃W,W=(((w.alloc o1).alloc o2).alloc o3).alloc o4/\Ac w W/\W.heap[w.heap.size]?=some o1/\W.heap[w.heap.size+1]?=some o2/\W.heap[w.heap.size+1+1]?=some o3/\W.heap[w.heap.size+1+1+1]?=some o4:=by
 obtain⟨V,hV,hE,h1,h2,h3⟩:=MN w o1 o2 o3;have hs:V.heap.size=w.heap.size+1+1+1:=(by rw [hV];simp);have h4:=Ajy V o4;have hx:=(Ac.refl V).alloc o4;rw [hs]at h4;exact⟨V.alloc o4,by rw [hV],hE.alloc o4,(hx.block _ (Ajx h1)).trans h1,(hx.block _ (Ajx h2)).trans h2,(hx.block _ (Ajx h3)).trans h3,h4⟩
theorem Ae9(a b c d:Pt){k:Nat}(ha:Az k a)(hb:Az k b)(hc:Az k c)(hd:Az k d)(hk:0<k)(hk2:k<=1)(w:World)(hw:Ao w) :
  Calls Tryz.prog 105 #[Ak a,Ak b,Ak c,Ak d] w (By (M5 a b c d) w):=by
 have t1:=KT a b c ha hb hc hk hk2;have t2:=KT a b d ha hb hd hk hk2;have t3:=KT c d a hc hd ha hk hk2;have t4:=KT c d b hc hd hb hk hk2;have UB:=@AgO a b c d k ha hb hc hd;unfold P3 at UB;have r1:=Pz (Ar a b c);have r2:=Pz (Ar a b d);have r3:=Pz (Ar c d a);have r4:=Pz (Ar c d b);obtain⟨r,hr⟩:=Ajv (M5 a b c d);rw [←hr];have HR:=Ajw hr;have HP:=Ajw (show Pm a b c d=(decide (JD a b c*JD a b d<0)&&decide (JD c d a*JD c d b<0))from rfl);have NV:=Ajw (show Vv a b c d=(Ay a c||(Ay a d||(Ay b c||Ay b d)))from rfl);have pe:=cZ;have pn:=yR;unfold Ak at t1 t2 t3 t4 ⊢;obtain⟨W,hW,hE,hb1,hb2,hb3,hb4⟩:=rq w (.cells #[S (R a.x),S (R a.y)] 27) (.cells #[S (R b.x),S (R b.y)] 27) (.cells #[S (R c.x),S (R c.y)] 27) (.cells #[S (R d.x),S (R d.y)] 27);clear hr ha hb hc hd;go_enter Tryz.func105,Tryz.ntmps105
 go_upto_region 1 with fail
 rw [←hW];clear hW;obtain⟨ba,Av⟩:=Ajv w.heap.size;rw [←Av]at hb1 hb2 hb3 hb4 ⊢;clear Av;have k1:=Aa (o:=0) hb1 rfl;have k2:=Aa (o:=1) hb1 rfl;have k3:=Aa (o:=0) hb2 rfl;have k4:=Aa (o:=1) hb2 rfl;have k5:=Aa (o:=0) hb3 rfl;have k6:=Aa (o:=1) hb3 rfl;have k7:=Aa (o:=0) hb4 rfl;have k8:=Aa (o:=1) hb4 rfl
 go_cut [9] (fun v9 wx=>∃sh,v9=.bool sh/\sh=Vv a b c d/\wx=W)
 case first=>
  cases e1:Ay a c
  ·cases e2:Ay a d
   ·cases e3:Ay b c
    ·cases e4:Ay b d
     ·go_wp2;go_meet;exact⟨_,rfl,by rw [NV.out,e1,e2,e3,e4];rfl,rfl⟩
     ·go_wp2;go_meet;exact⟨_,rfl,by rw [NV.out,e1,e2,e3,e4];rfl,rfl⟩
    ·go_wp2;go_meet;exact⟨_,rfl,by rw [NV.out,e1,e2,e3];rfl,rfl⟩
   ·go_wp2;go_meet;exact⟨_,rfl,by rw [NV.out,e1,e2];rfl,rfl⟩
  ·go_wp2;go_meet;exact⟨_,rfl,by rw [NV.out,e1];rfl,rfl⟩
 case rest=>
  obtain⟨sh,rfl,tG,rfl⟩:=hcut;have IU:=Ajw tG;clear tG NV;have CS:=hw.ext hE
  go_upto_region 3 with fail
  go_loopw [47] (fun i wr=>∃j:Nat,i=.int .i64 (j:Nat)/\j<=4/\(∀t∈(Il a b c d).take j,JR t.1 t.2.1 t.2.2=false)/\Ac wc wr) (fun i _=>4-(intOf i).toNat)
  case atStart=>exact⟨0,rfl,by omega,by simp,Ac.refl _⟩
  case round=>
   obtain⟨j,rfl,hj,Ap,Ag⟩:=hrel;have HO:=Ajw Ap;clear Ap;by_cases hlt:j<4
   ·obtain⟨x,y,z,hix,Ec,zx,zy,zz⟩:=UB hlt;have Pg:=bT x y z zx zy zz hk hk2;have HX:=Ajw (show JR x y z=(EL x y z&&(!Ay z x && !Ay z y))from rfl);have HG:=Ajw Ec;have hj0:(j:Int)<4:=(by omega);unfold Ak at Pg;clear Ec UB zx zy zz t1 t2 t3 t4 r1 r2 r3 r4 k1 k2 k3 k4 k5 k6 k7 k8 hb1 hb2 hb3 hb4
    go_upto_region 5 with fail
    have De:=Ajy wr (.cells #[S (R x.x),S (R x.y),S (R y.x),S (R y.y),S (R z.x),S (R z.y)] 249);have Gx:=Ag.alloc (.cells #[S (R x.x),S (R x.y),S (R y.x),S (R y.y),S (R z.x),S (R z.y)] 249);generalize wr.alloc (.cells #[S (R x.x),S (R x.y),S (R y.x),S (R y.y),S (R z.x),S (R z.y)] 249)=V at *;obtain⟨bv,qE⟩:=Ajv wr.heap.size;rw [←qE]at De ⊢;clear qE;have s1:=Aa (o:=0) De rfl;have s2:=Aa (o:=1) De rfl;have s3:=Aa (o:=2) De rfl;have s4:=Aa (o:=3) De rfl;have s5:=Aa (o:=4) De rfl;have s6:=Aa (o:=5) De rfl;(go_wp2_with fail);(with_reducible refine(Pg _ (CS.ext Gx)).mono ?_);rintro e w1 ⟨rfl,hx1⟩;have CM:=(hx1.block _ (Ajx De)).trans De;have hxb:=Gx.trans hx1;have q1:=Aa (o:=0) CM rfl;have q2:=Aa (o:=1) CM rfl;have q3:=Aa (o:=2) CM rfl;have q4:=Aa (o:=3) CM rfl;have q5:=Aa (o:=4) CM rfl;have q6:=Aa (o:=5) CM rfl;clear s1 s2 s3 s4 s5 s6 De hx1 Gx Pg CM
    have hgo:JR x y z=false→∀t∈(Il a b c d).take (j+1),JR t.1 t.2.1 t.2.2=false:=by
     intro h0 t ht;have hl:j<(Il a b c d).length:=hlt;rw [Aj2 hl]at ht
     rcases List.mem_append.1 ht with h|h
     ·exact HO.out t h
     ·have e0:(Il a b c d)[j]=(x,y,z):=Option.some.inj ((Aj4 hl).symm.trans HG.out);rw [e0,AjB]at h;rw [h];exact h0
    have hst:JR x y z=true→r=true:=by
     intro h0;rw [HR.out];unfold M5;rw [Bool.or_eq_true]
     left
     rw [List.any_eq_true];exact⟨(x,y,z),List.mem_of_getElem? HG.out,h0⟩
    have VP:=Ajw hgo;have HST:=Ajw hst;clear hgo hst
    cases e0:EL x y z
    ·have HE:=Ajw e0;clear e0;go_wp2;go_roundw
     case rel=>exact⟨j+1,by go_num,by omega,VP.out (by rw [HX.out,HE.out];rfl),hxb⟩
     case measure=>simp [intOf];omega
    ·cases e1:Ay z x
     ·cases e2:Ay z y
      ·have HE:=Ajw (And.intro e0 (And.intro e1 e2));have hrt:r=true:=HST.out (by rw [HX.out,e0,e1,e2];rfl);subst hrt;go_wp2;go_ret;exact⟨rfl,hE.trans hxb⟩
      ·have HE:=Ajw (And.intro e0 (And.intro e1 e2));go_wp2;go_roundw
       case rel=>exact⟨j+1,by go_num,by omega,VP.out (by rw [HX.out,HE.out.1,HE.out.2.1,HE.out.2.2];rfl),hxb⟩
       case measure=>simp [intOf];omega
     ·have HE:=Ajw (And.intro e0 e1);go_wp2;go_roundw
      case rel=>exact⟨j+1,by go_num,by omega,VP.out (by rw [HX.out,HE.out.1,HE.out.2];rfl),hxb⟩
      case measure=>simp [intOf];omega
   ·have hle:(4:Int)<=(j:Int):=(by omega);obtain rfl:j=4:=by omega
    have hno:(Il a b c d).any (fun t=>JR t.1 t.2.1 t.2.2)=false:=by rw [List.any_eq_false];intro t ht;rw [HO.out t (by rw [Aj7 (by simp [Il])];exact ht)];simp
    have Jt:r=(!sh&&Pm a b c d):=(by rw [HR.out,IU.out];unfold M5;rw [hno];rfl);have Wh:=Ajw Jt;replace hb1:=(Ag.block _ (Ajx hb1)).trans hb1;replace hb2:=(Ag.block _ (Ajx hb2)).trans hb2;replace hb3:=(Ag.block _ (Ajx hb3)).trans hb3;replace hb4:=(Ag.block _ (Ajx hb4)).trans hb4;replace hE:=hE.trans Ag;clear k1 k2 k3 k4 k5 k6 k7 k8 hno Jt HO IU CS Ag UB
    cases sh
    ·have k1:∀p:Af wr,p.w.cell? ⟨ba,0,none⟩=some (S (R a.x)):=Af.cell (Aa hb1 rfl);have k2:∀p:Af wr,p.w.cell? ⟨ba,1,none⟩=some (S (R a.y)):=Af.cell (Aa hb1 rfl);have k3:∀p:Af wr,p.w.cell? ⟨ba+1,0,none⟩=some (S (R b.x)):=Af.cell (Aa hb2 rfl);have k4:∀p:Af wr,p.w.cell? ⟨ba+1,1,none⟩=some (S (R b.y)):=Af.cell (Aa hb2 rfl);have k5:∀p:Af wr,p.w.cell? ⟨ba+1+1,0,none⟩=some (S (R c.x)):=Af.cell (Aa hb3 rfl);have k6:∀p:Af wr,p.w.cell? ⟨ba+1+1,1,none⟩=some (S (R c.y)):=Af.cell (Aa hb3 rfl);have k7:∀p:Af wr,p.w.cell? ⟨ba+1+1+1,0,none⟩=some (S (R d.x)):=Af.cell (Aa hb4 rfl);have k8:∀p:Af wr,p.w.cell? ⟨ba+1+1+1,1,none⟩=some (S (R d.y)):=Af.cell (Aa hb4 rfl);have hwr:=hw.ext hE;have Ha:r=Pm a b c d:=(by rw [Wh.out];simp);rw [HP.out]at Ha;unfold JD at Ha;generalize AM (Ar a b c)=u1 at *;generalize AM (Ar a b d)=u2 at *;generalize AM (Ar c d a)=u3 at *;generalize AM (Ar c d b)=u4 at *;obtain⟨UP,Q0⟩:=Ajv (u1*u2);obtain⟨m34,Q3⟩:=Ajv (u3*u4)
     have DW:IntKind.i64.wrap (u1*u2)=UP:=by
      rw [Q0];clear Q0 Q3 Ha;obtain rfl|rfl|rfl:u1 = -1∨u1=0∨u1=1:=by omega
      all_goals (obtain rfl|rfl|rfl:u2 = -1∨u2=0∨u2=1:=by omega)
      all_goals rfl
     have w34:IntKind.i64.wrap (u3*u4)=m34:=by
      rw [Q3];clear Q0 Q3 Ha;obtain rfl|rfl|rfl:u3 = -1∨u3=0∨u3=1:=by omega
      all_goals (obtain rfl|rfl|rfl:u4 = -1∨u4=0∨u4=1:=by omega)
      all_goals rfl
     rw [←Q0,←Q3]at Ha;clear hb1 hb2 hb3 hb4 r1 r2 r3 r4 Wh HP Q0 Q3;by_cases n1:UP<0
     ·have d1:decide (UP<0)=true:=decide_eq_true n1;rw [d1,Bool.true_and]at Ha;have j9:=Ajw Ha;clear Ha n1
      go_upto_region 8 with fail
      refine CW (by kernel_rfl) (by kernel_rfl) ?_
      repeat (go_big_quiet_step (first|(with_reducible refine FC (t1 _ (hwr.ext (Af.h _))))|(with_reducible refine FC (t2 _ (hwr.ext (Af.h _))))|(with_reducible refine FC (t3 _ (hwr.ext (Af.h _))))|(with_reducible refine FC (t4 _ (hwr.ext (Af.h _))))))
      refine wpQuiet_nil ?_;rintro _ ⟨p,rfl⟩;go_wp2;go_ret;exact⟨by rw [j9.out];rfl,hE.trans p.h⟩
     ·have d1:decide (UP<0)=false:=decide_eq_false n1;rw [d1,Bool.false_and]at Ha;subst Ha;clear t3 t4 n1
      go_upto_region 8 with fail
      refine CW (by kernel_rfl) (by kernel_rfl) ?_
      repeat (go_big_quiet_step (first|(with_reducible refine FC (t1 _ (hwr.ext (Af.h _))))|(with_reducible refine FC (t2 _ (hwr.ext (Af.h _))))|(with_reducible refine FC (t3 _ (hwr.ext (Af.h _))))|(with_reducible refine FC (t4 _ (hwr.ext (Af.h _))))))
      refine wpQuiet_nil ?_;rintro _ ⟨p,rfl⟩;go_wp2;go_ret;exact⟨rfl,hE.trans p.h⟩
    ·have hrt:r=false:=(by rw [Wh.out];rfl);subst hrt
     go_upto_region 8 with fail
     refine CW (by kernel_rfl) (by kernel_rfl) ?_
     repeat (go_big_quiet_step (first|(with_reducible refine FC (t1 _ (hwr.ext (Af.h _))))|(with_reducible refine FC (t2 _ (hwr.ext (Af.h _))))|(with_reducible refine FC (t3 _ (hwr.ext (Af.h _))))|(with_reducible refine FC (t4 _ (hwr.ext (Af.h _))))))
     refine wpQuiet_nil ?_;rintro _ ⟨p,rfl⟩;go_wp2;go_ret;exact⟨rfl,hE.trans p.h⟩
def DU(l:List Pt)(p:Pt):Int:=match l.findIdx? (Ay p)with|some j=>(j:Int)|none=>-1
theorem Ac4{l:List Pt}{p:Pt}{j:Nat}(hj:j<l.length)(hno:∀q∈l.take j,Ay p q=false)(h:Ay p l[j]=true):DU l p=(j:Int):=by
 unfold DU
 have:l.findIdx? (Ay p)=some j:=by rw [List.findIdx?_eq_some_iff_getElem];refine⟨hj,h,fun i hi=>?_⟩;rw [Bool.not_eq_true];refine hno l[i] ?_;rw [List.mem_take_iff_getElem];exact⟨i,by omega,rfl⟩
 rw [this]
theorem Ac6{l:List Pt}{p:Pt}(hno:∀q∈l,Ay p q=false):DU l p = -1:=by
 unfold DU
 have:l.findIdx? (Ay p)=none:=by rw [List.findIdx?_eq_none_iff];exact hno
 rw [this]
theorem Ac3(l:List Pt)(p:Pt):decide (0<=DU l p)=l.any (Ay p):=by
 unfold DU
 cases h:l.findIdx? (Ay p)with
 | none=>
  rw [List.findIdx?_eq_none_iff]at h
  symm
  simp only [Int.reduceNeg,Int.reduceLE,decide_false,List.any_eq_false];intro x hx;rw [h x hx];simp
 | some j=>
  rw [List.findIdx?_eq_some_iff_getElem]at h;obtain⟨hj,h1,_⟩:=h;rw [decide_eq_true (by simp)]
  symm
  rw [List.any_eq_true];exact⟨_,Aj0 hj,h1⟩
theorem UI(l:List Pt)(p:Pt)(A:Option Addr)(c:Nat)(w:World)(hr:Ae w A (flat (Ai l)))(hc:l.length<=c)(hcm:c<=9223372036854775807) :
  Calls Tryz.prog 173 #[.slice A l.length c,Ak p] w (AK (DU l p) w):=by
 have pe:=cZ;have hb0:=Ajy w (.cells #[S (R p.x),S (R p.y)] 27);have hE:=(Ac.refl w).alloc (.cells #[S (R p.x),S (R p.y)] 27);obtain⟨r,hr0⟩:=Ajv (DU l p);rw [←hr0];have HR:=Ajw hr0;unfold Ak;clear hr0;go_enter Tryz.func173,Tryz.ntmps173
 go_upto_region 2 with fail
 generalize w.alloc (.cells #[S (R p.x),S (R p.y)] 27)=V at *;obtain⟨bp,Aw⟩:=Ajv w.heap.size;rw [←Aw]at hb0 ⊢;clear Aw
 go_loopw [8] (fun i wr=>∃j:Nat,i=.int .i64 (j:Nat)/\j<=l.length/\(∀q∈l.take j,Ay p q=false)/\Ac V wr) (fun i _=>l.length-(intOf i).toNat)
 case atStart=>exact⟨0,rfl,by omega,by simp,Ac.refl _⟩
 case round=>
  obtain⟨j,rfl,hj,Ap,Ag⟩:=hrel;have HO:=Ajw Ap;clear Ap;have hbr:=(Ag.block _ (Ajx hb0)).trans hb0;have s1:=Aa (o:=0) hbr rfl;have s2:=Aa (o:=1) hbr rfl;clear hbr;by_cases hlt:j<l.length
  ·obtain⟨b,o,rfl,hg1,hg2⟩:=BW (hr.ext (hE.trans Ag)) hlt;obtain⟨q,hq⟩:=Ajv (l[j]);rw [←hq]at hg1 hg2;have hj0:(0:Int)<=(j:Int):=(by omega);have AP:(j:Int)<(l.length:Int):=(by omega);have HQ:=Ajw hq;clear hq
   cases e0:Ay p q
   ·have HE:=Ajw e0
    go_upto_region 4 with fail
    go_quiet (fail)
    go_wp2;go_roundw
    case rel=>
     refine⟨j+1,by go_num,hlt,?_,Ag.drewN _⟩;intro x hx;rw [Aj2 hlt,←HQ.out]at hx
     rcases List.mem_append.1 hx with h|h
     ·exact HO.out x h
     ·simp only [AjB]at h;rw [h];exact HE.out
    case measure=>simp [intOf];omega
   ·have Ee:r=(j:Int):=(by rw [HR.out];exact Ac4 hlt HO.out (by rw [←HQ.out];exact e0));subst Ee
    go_upto_region 4 with fail
    go_quiet (fail)
    go_wp2;go_ret;exact⟨rfl,(hE.trans Ag).drewN _⟩
  ·have hle:(l.length:Int)<=(j:Int):=(by omega);have Ee:r = -1:=(by rw [HR.out];exact Ac6 (by have:=HO.out;rw [Aj7 (by omega)]at this;exact this));subst Ee;clear s1 s2;go_wp2;go_ret;exact⟨rfl,hE.trans Ag⟩
theorem contains_c(l:List Pt)(p:Pt)(A:Option Addr)(c:Nat)(w:World)(hr:Ae w A (flat (Ai l)))(hc:l.length<=c)(hcm:c<=9223372036854775807) :
  Calls Tryz.prog 103 #[.slice A l.length c,Ak p] w (By (l.any (Ay p)) w):=by
 have hE:=(Ac.refl w).alloc (.cells #[S (R p.x),S (R p.y)] 27);have ix:=UI l p A c (w.alloc (.cells #[S (R p.x),S (R p.y)] 27)) (hr.ext hE) hc hcm;have ha:=Ac3 l p;obtain⟨r,hr0⟩:=Ajv (l.any (Ay p));rw [←hr0]at ha ⊢;generalize DU l p=z at *;unfold Ak at ix ⊢;clear hr hr0;go_enter Tryz.func103,Tryz.ntmps103;(go_wp2_with fail);(with_reducible refine ix.mono ?_);rintro e w1 ⟨rfl,hx⟩;go_wp2;go_ret;exact⟨by rw [←ha];rfl,hE.trans hx⟩
/-! ### Edges -/
structure EdZ where
 f:Int
 t:Int
 l:Int
 r:Int
def Hq(e:EdZ):Value:=.agg #[.int .i64 e.f,.int .i64 e.t,.int .i64 e.l,.int .i64 e.r]
def Au(l:List EdZ):List Value:=l.flatMap (fun e=>[.int .i64 e.f,.int .i64 e.t,.int .i64 e.l,.int .i64 e.r])
theorem Qr(l:List EdZ):(Au l).length=l.length*4:=by
 induction l with
 | nil=>rfl
 | cons e l ih=>unfold Au at *;simp only [List.flatMap_cons,List.length_append,ih,List.length_cons,List.length_nil];omega
theorem On:∀(l:List EdZ) (j:Nat) (h:j<l.length),(Au l)[j*4]?=some (.int .i64 l[j].f)/\(Au l)[j*4+1]?=some (.int .i64 l[j].t)/\(Au l)[j*4+2]?=some (.int .i64 l[j].l)/\(Au l)[j*4+3]?=some (.int .i64 l[j].r)
 | e::l,0,_=>⟨rfl,rfl,rfl,rfl⟩
 | e::l,j+1,h=>by
  have ih:=On l j (by simpa using h);have e0:Au (e::l)=.int .i64 e.f :: .int .i64 e.t :: .int .i64 e.l :: .int .i64 e.r::Au l:=rfl;rw [e0];have e1:(j+1)*4=j*4+1+1+1+1:=(by omega);rw [e1]
  simpa using ih
theorem KV{w:World}{A:Option Addr}{l:List EdZ}(hr:Ae w A (Au l)){j:Nat}(h:j<l.length):∃b o,A=some ⟨b,o,none⟩/\w.cell? ⟨b,o+j*4,none⟩=some (.int .i64 l[j].f)/\w.cell? ⟨b,o+j*4+1,none⟩=some (.int .i64 l[j].t)/\w.cell? ⟨b,o+j*4+2,none⟩=some (.int .i64 l[j].l)/\w.cell? ⟨b,o+j*4+3,none⟩=some (.int .i64 l[j].r):=by
 have hl:=Qr l;obtain⟨b,o,e,hcs⟩:=hr.ad (by omega);obtain⟨f1,f2,f3,f4⟩:=On l j h;have g1:=hcs (j*4) (by omega);have g2:=hcs (j*4+1) (by omega);have g3:=hcs (j*4+2) (by omega);have g4:=hcs (j*4+3) (by omega);rw [Aj4 (by omega),Aj3]at f1 f2 f3 f4;rw [f1]at g1;rw [f2,←Nat.add_assoc]at g2;rw [f3,←Nat.add_assoc]at g3;rw [f4,←Nat.add_assoc]at g4;exact⟨b,o,e,g1,g2,g3,g4⟩
theorem AfK{P:Program}{w:World}(ts:Array TypeId)(t:TypeId)(k:IntKind)(a b:Int):(Builtin.min_ ts t #[.int k a,.int k b]).run P w=.ok (.int k (min a b)) w:=by
 have m:∀x y:Int,(if y<x then y else x)=min x y:=(by intro x y;split<;>omega);simp only [Builtin.min_,List.foldlM_cons,List.foldlM_nil,Builtin.min2];simp [m]
theorem AfJ{P:Program}{w:World}(ts:Array TypeId)(t:TypeId)(k:IntKind)(a b:Int):(Builtin.max_ ts t #[.int k a,.int k b]).run P w=.ok (.int k (max a b)) w:=by
 have m:∀x y:Int,(if y>x then y else x)=max x y:=(by intro x y;split<;>omega);simp only [Builtin.max_,List.foldlM_cons,List.foldlM_nil,Builtin.max2];simp [m]
def Fb(f e:EdZ):Bool:=(decide (f.f=e.f)&&decide (f.t=e.t))||(decide (f.f=e.t)&&decide (f.t=e.f))
theorem xw(f e:EdZ)(b:Nat)(t:TypeId)(w:World)(hb:w.heap[b]?=some (.cells #[.int .i64 e.f,.int .i64 e.t,.int .i64 e.l,.int .i64 e.r] t)) :
  Calls Tryz.prog 188 #[Hq f,.pointer (some ⟨b,0,none⟩)] w (By (Fb f e) w):=by
 have k1:=Aa (o:=0) hb rfl;have k2:=Aa (o:=1) hb rfl;have hx:=(Ac.refl w).alloc (.cells #[.int .i64 f.f,.int .i64 f.t,.int .i64 f.l,.int .i64 f.r] 118);have j1:=hx.cellS k1;have j2:=hx.cellS k2;obtain⟨r,hr⟩:=Ajv (Fb f e);rw [←hr];have HR:=Ajw hr;have Jt:r=((f.f == e.f)&&(f.t == e.t)||(f.f == e.t)&&(f.t == e.f)):=hr;unfold Hq;clear hr hb k1 k2 HR
 cases h1:(f.f == e.f)<;>cases h2:(f.t == e.t)<;>cases h3:(f.f == e.t)<;>cases h4:(f.t == e.f)
 all_goals (
  rw [h1,h2,h3,h4]at Jt;have HH:=Ajw Jt;clear Jt;go_enter Tryz.func188,Tryz.ntmps188;go_wp2;go_ret
  exact⟨by rw [HH.out];rfl,hx⟩)
def Eg(n:Nat)(z:Int):Bool:=decide (-1<=z)&&decide (z<(n:Int))
theorem zK(z:Int)(b n g:Nat)(F:Option Addr)(v0 v1:Value)(t:TypeId)(w:World)(hb:w.heap[b]?=some (.cells #[v0,v1,.slice F n g] t)) :
  Calls Tryz.prog 187 #[.int .i64 z,.pointer (some ⟨b,0,none⟩)] w (By (Eg n z) w):=by
 have k1:=Aa (o:=2) hb rfl;obtain⟨r,hr⟩:=Ajv (Eg n z);rw [←hr];have HR:=Ajw hr;clear hr hb;by_cases h1:-1<=z
 ·have d1:decide (-1<=z)=true:=decide_eq_true h1;by_cases h2:z<(n:Int)
  ·have d2:decide (z<(n:Int))=true:=decide_eq_true h2;have HH:=Ajw (show r=true by rw [HR.out];unfold Eg;rw [d1,d2];rfl);go_enter Tryz.func187,Tryz.ntmps187;go_wp2;go_ret;exact⟨by rw [HH.out];rfl,Ac.refl _⟩
  ·have d2:decide (z<(n:Int))=false:=decide_eq_false h2;have HH:=Ajw (show r=false by rw [HR.out];unfold Eg;rw [d1,d2];rfl);clear h2;go_enter Tryz.func187,Tryz.ntmps187;go_wp2;go_ret;exact⟨by rw [HH.out];rfl,Ac.refl _⟩
 ·have d1:decide (-1<=z)=false:=decide_eq_false h1;have HH:=Ajw (show r=false by rw [HR.out];unfold Eg;rw [d1];rfl);clear h1;go_enter Tryz.func187,Tryz.ntmps187;go_wp2;go_ret;exact⟨by rw [HH.out];rfl,Ac.refl _⟩
end Go.Proofs.YtgnejnampofhoaaGreatDoor
