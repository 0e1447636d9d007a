/- I15: ShH2 ShH3 ShH4 ShS1 ShS2 ShRg ShS3 ShS4 ShS5. -/
import Derived.Test.YtnddllipjippnaaGreatDoorI10
import Derived.Test.YtnddllipjippnaaGreatDoorI12
set_option maxRecDepth 100000
set_option maxHeartbeats 16000000
namespace Go.Proofs.YtnddllipjippnaaGreatDoor
open Go.RowKit Kl
def Am(a b c:Pt):Rat:=(b.x-a.x)*(c.y-a.y)-(b.y-a.y)*(c.x-a.x)
theorem uU(a b c:Pt){k:Nat}(ha:Aw k a)(hb:Aw k b)(hc:Aw k c)(hk:0<k)(hk2:k<=1)(w:World)(hw:Aj w) :
  Calls Tryz.prog 133 #[Af a,Af b,Af c] w (BW (R (Am a b c)) w):=by
 have s1:=Ff b.x a.x (a:=k) (b:=k) ⟨hb.x,ha.x,hk,hk,by omega⟩;have s2:=Ff b.y a.y (a:=k) (b:=k) ⟨hb.y,ha.y,hk,hk,by omega⟩;have s3:=Ff c.x a.x (a:=k) (b:=k) ⟨hc.x,ha.x,hk,hk,by omega⟩;have s4:=Ff c.y a.y (a:=k) (b:=k) ⟨hc.y,ha.y,hk,hk,by omega⟩;have m1:=MB (b.x-a.x) (c.y-a.y) (a:=k+k+1) (b:=k+k+1) ⟨hb.x.sub ha.x,hc.y.sub ha.y,by omega,by omega,by omega⟩;have m2:=MB (b.y-a.y) (c.x-a.x) (a:=k+k+1) (b:=k+k+1) ⟨hb.y.sub ha.y,hc.x.sub ha.x,by omega,by omega,by omega⟩;have sb:=Ff ((b.x-a.x)*(c.y-a.y)) ((b.y-a.y)*(c.x-a.x)) (a:=k+k+1+(k+k+1)) (b:=k+k+1+(k+k+1)) ⟨(hb.x.sub ha.x).mul (hc.y.sub ha.y),(hb.y.sub ha.y).mul (hc.x.sub ha.x),by omega,by omega,by omega⟩;have e:Am a b c=(b.x-a.x)*(c.y-a.y)-(b.y-a.y)*(c.x-a.x):=rfl;rw [←e]at sb;obtain⟨r,hr⟩:=Asw (Am a b c);rw [←hr]at sb ⊢;unfold Af;clear ha hb hc e hr;go_enter Tryz.func133,Tryz.ntmps133;(go_wp2_with fail);obtain⟨W,hW,hE,hb1,hb2,hb3⟩:=J9 w (.cells #[S (R a.x),S (R a.y)] 24) (.cells #[S (R b.x),S (R b.y)] 24) (.cells #[S (R c.x),S (R c.y)] 24);rw [←hW];clear hW;have hA:Kx W w.heap.size a:=⟨Aa hb1 rfl,Aa hb1 rfl⟩;have hB:Kx W (w.heap.size+1) b:=⟨Aa hb2 rfl,Aa hb2 rfl⟩;have hC:Kx W (w.heap.size+1+1) c:=⟨Aa hb3 rfl,Aa hb3 rfl⟩;clear hb1 hb2 hb3;have I2:=(Ab.refl W).drew;have Gr:=hE.drew;obtain⟨k1,k2⟩:=hA;obtain⟨k3,k4⟩:=hB;have hA:=Kx.mk k1 k2;have hB:=Kx.mk k3 k4
 go_region_held3 (fun w'=>w'.cell? ⟨w.heap.size,0,none⟩=some (S (R a.x))/\w'.cell? ⟨w.heap.size,1,none⟩=some (S (R a.y))/\w'.cell? ⟨w.heap.size+1,0,none⟩=some (S (R b.x))/\w'.cell? ⟨w.heap.size+1,1,none⟩=some (S (R b.y)))
  (go_keep)
  (first|((with_reducible refine(s1 _ (hw.ext Gr)).mono ?_);rintro e w1 ⟨rfl,hx1⟩;obtain⟨q1,q2⟩:=hA.ext (I2.trans hx1);obtain⟨q3,q4⟩:=hB.ext (I2.trans hx1))|((with_reducible refine(s2 _ (hw.ext (Gr.trans hx1))).mono ?_);rintro e w2 ⟨rfl,hx2⟩;obtain⟨t1,t2⟩:=hA.ext (I2.trans (hx1.trans hx2));obtain⟨t3,t4⟩:=hB.ext (I2.trans (hx1.trans hx2))))
 have hV:=I2.trans (hx1.trans hx2);replace hE:=hE.trans hV;replace hA:=hA.ext hV;replace hC:=hC.ext hV;clear I2 Gr hx1 hx2 k1 k2 k3 k4 q1 q2 q3 q4 t1 t2 t3 t4 hV hB s1 s2;have I2:=(Ab.refl w2).drew;have Gr:=hE.drew;obtain⟨k1,k2⟩:=hA;obtain⟨k3,k4⟩:=hC;have hA:=Kx.mk k1 k2;have hC:=Kx.mk k3 k4;(go_wp2_with fail)
 go_region_held3 (fun w'=>w'.cell? ⟨w.heap.size,0,none⟩=some (S (R a.x))/\w'.cell? ⟨w.heap.size,1,none⟩=some (S (R a.y))/\w'.cell? ⟨w.heap.size+1+1,0,none⟩=some (S (R c.x))/\w'.cell? ⟨w.heap.size+1+1,1,none⟩=some (S (R c.y)))
  (go_keep)
  (first|((with_reducible refine(s3 _ (hw.ext Gr)).mono ?_);rintro e w3 ⟨rfl,hx1⟩;obtain⟨q1,q2⟩:=hA.ext (I2.trans hx1);obtain⟨q3,q4⟩:=hC.ext (I2.trans hx1))|((with_reducible refine(s4 _ (hw.ext (Gr.trans hx1))).mono ?_);rintro e w4 ⟨rfl,hx2⟩;obtain⟨t1,t2⟩:=hA.ext (I2.trans (hx1.trans hx2));obtain⟨t3,t4⟩:=hC.ext (I2.trans (hx1.trans hx2))))
 replace hE:=hE.trans (I2.trans (hx1.trans hx2));clear hA hC I2 Gr hx1 hx2 k1 k2 k3 k4 q1 q2 q3 q4 t1 t2 t3 t4 s3 s4;(go_wp2_with fail);(with_reducible refine(m1 _ (hw.ext hE)).mono ?_);rintro e w5 ⟨rfl,hx⟩;replace hE:=hE.trans hx;(go_wp2_with fail);(with_reducible refine(m2 _ (hw.ext hE)).mono ?_);rintro e w6 ⟨rfl,hx2⟩;replace hE:=hE.trans hx2;(go_wp2_with fail);(with_reducible refine(sb _ (hw.ext hE)).mono ?_);rintro e w7 ⟨rfl,hx3⟩;replace hE:=hE.trans hx3;go_wp2;go_ret;exact⟨rfl,hE⟩
theorem App(a b c:Pt){k:Nat}(ha:Aw k a)(hb:Aw k b)(hc:Aw k c)(hk:0<k)(hk2:k<=1)(w:World)(hw:Aj w) :
  Calls Tryz.prog 127 #[Af a,Af b,Af c] w (AI (AN (Am a b c)) w):=by
 have ar:=uU a b c ha hb hc hk hk2;have sg:=PU (Am a b c);have hE:=(((Ab.refl w).alloc (.cells #[S (R a.x),S (R a.y)] 24)).alloc (.cells #[S (R b.x),S (R b.y)] 24)).alloc (.cells #[S (R c.x),S (R c.y)] 24);unfold Af at ar ⊢;clear ha hb hc;go_enter Tryz.func127,Tryz.ntmps127;(go_wp2_with fail);(with_reducible refine(ar _ (hw.ext hE)).mono ?_);rintro e w1 ⟨rfl,hx⟩;(go_wp2_with fail);(with_reducible refine(sg _).mono ?_);rintro e w2 ⟨rfl,hx2⟩;go_wp2;go_ret;exact⟨rfl,hE.trans (hx.trans hx2)⟩
def AY(a b:Pt):Int:=if AO a.x b.x≠0 then AO a.x b.x else AO a.y b.y
theorem Alt(a b:Pt){k:Nat}(ha:Aw k a)(hb:Aw k b)(hk:0<k)(hk2:k<=1)(w:World)(hw:Aj w) :
  Calls Tryz.prog 128 #[Af a,Af b] w (AI (AY a b) w):=by
 have c1:=G0 a.x b.x (a:=k) (b:=k) ⟨ha.x,hb.x,hk,hk,by omega⟩;have c2:=G0 a.y b.y (a:=k) (b:=k) ⟨ha.y,hb.y,hk,hk,by omega⟩;have hE:=((Ab.refl w).alloc (.cells #[S (R a.x),S (R a.y)] 24)).alloc (.cells #[S (R b.x),S (R b.y)] 24);obtain⟨r,hr⟩:=Asw (AY a b);rw [←hr]
 have hA:(w.alloc (.cells #[S (R a.x),S (R a.y)] 24)).alloc (.cells #[S (R b.x),S (R b.y)] 24) |>.heap[w.heap.size]?=some (.cells #[S (R a.x),S (R a.y)] 24):=(Below.heap_alloc _ _ _ (by simp)).trans (Asz w _)
 have hB:=Asz (w.alloc (.cells #[S (R a.x),S (R a.y)] 24)) (.cells #[S (R b.x),S (R b.y)] 24);rw [As7]at hB;obtain⟨x,hx0⟩:=Asw (AO a.x b.x)
 have My:r=if x≠0 then x else AO a.y b.y:=by rw [hr,hx0];rfl
 rw [←hx0]at c1;unfold Af;clear ha hb hr hx0;by_cases h:x=0
 ·subst h;replace My:r=AO a.y b.y:=(by rw [My];rfl);simp only [←My]at c2;clear My;go_enter Tryz.func128,Tryz.ntmps128;(go_wp2_with fail);(with_reducible refine(c1 _ (hw.ext hE)).mono ?_);rintro e w1 ⟨rfl,hx⟩;replace hE:=hE.trans hx;replace hA:=(hx.block _ (Asy hA)).trans hA;replace hB:=(hx.block _ (Asy hB)).trans hB;have k1:=Aa (o:=1) hA rfl;have k2:=Aa (o:=1) hB rfl;(go_wp2_with fail);(with_reducible refine(c2 _ (hw.ext hE)).mono ?_);rintro e w2 ⟨rfl,hx2⟩;go_wp2;go_ret;exact⟨rfl,hE.trans hx2⟩
 ·replace My:r=x:=(by rw [My,if_pos h]);have hne:(x != 0)=true:=(by rw [bne_iff_ne];exact h);subst My;clear c2 h;go_enter Tryz.func128,Tryz.ntmps128;(go_wp2_with fail);(with_reducible refine(c1 _ (hw.ext hE)).mono ?_);rintro e w1 ⟨rfl,hx⟩;go_wp2;go_ret;exact⟨rfl,hE.trans hx⟩
def Ag(l:List Pt):List (Bs×Bs):=l.map Lo
theorem BN{w:World}{A:Option Addr}{l:List Pt}(hr:Ad w A (flat (Ag l))){j:Nat}(h:j<l.length):∃b o,A=some ⟨b,o,none⟩/\w.cell? ⟨b,o+j*2,none⟩=some (S (R l[j].x))/\w.cell? ⟨b,o+j*2+1,none⟩=some (S (R l[j].y)):=by
 have hl:(Ag l).length=l.length:=(by simp [Ag]);obtain⟨b,o,e,hcs⟩:=hr.ad (by rw [flat_length];omega);obtain⟨f1,f2⟩:=flat_get (Ag l) j (by omega);have hg1:=hcs (j*2) (by rw [flat_length];omega);have hg2:=hcs (j*2+1) (by rw [flat_length];omega);rw [As5 (by rw [flat_length];omega),As4]at f1 f2;rw [f1]at hg1;rw [f2,←Nat.add_assoc]at hg2;have e2:(Ag l)[j]'(by omega)=Lo l[j]:=(by simp [Ag]);rw [e2]at hg1 hg2;exact⟨b,o,e,hg1,hg2⟩
structure OK(l:List Pt):Prop where
 n3:3<=l.length
 n60:l.length<=60
 turn:∀(i n:Nat) (hi:i<l.length) (hn:n<l.length),n≠i→n≠(i+1)%l.length→0<Am l[i] (l[(i+1)%l.length]'(Nat.mod_lt _ (by omega))) l[n]
 less:∀(n:Nat) (h:n+1<l.length),¬AY l[n+1] (l[0]'(by omega))<0
theorem pH(l:List Pt)(hp:OK l){k:Nat}(hz:∀p∈l,Aw k p)(hk:0<k)(hk2:k<=1)(A:Option Addr)(c:Nat)(w:World)(hw:Aj w)(hr:Ad w A (flat (Ag l)))(hc:l.length<=c)(_:c<=9223372036854775807) :
  Calls Tryz.prog 79 #[.slice A l.length c] w (AI 0 w):=by
 obtain⟨h3,h60,hturn,pp⟩:=hp;have HT:=Asx hturn;have HL:=Asx pp;have HZ:=Asx hz;clear hturn pp hz;go_enter Tryz.func79,Tryz.ntmps79;go_wp2
 go_loopw [21] (fun i wr=>∃j:Nat,i=.int .i64 (j:Nat)/\j<=l.length/\Ab w wr) (fun i _=>l.length-(intOf i).toNat)
 case atStart=>exact⟨0,rfl,by omega,Ab.refl _⟩
 case round=>
  obtain⟨j,rfl,hj,Ae⟩:=hrel;by_cases hlt:j<l.length
  ·obtain⟨b,o,rfl,hg1,hg2⟩:=BN (hr.ext Ae) hlt;have RH:=HZ.out l[j] (As1 hlt);obtain⟨p,hp⟩:=Asw (l[j]);rw [←hp]at hg1 hg2 RH;have hx1:=Ae.alloc (.cells #[S (R p.x),S (R p.y)] 24);have ck:=Ns (R p.x) (R p.y) true (by simp only [true_iff];exact⟨Kp RH.x hk (by omega),Kp RH.y hk (by omega)⟩) (MO RH.x hk (by omega)) (MO RH.y hk (by omega)) _ (hw.ext hx1);rw [Iv]at ck;have hj0:(0:Int)<=(j:Int):=(by omega);have Ay:(j:Int)<(l.length:Int):=(by omega);clear hp RH;(go_wp2_with fail);(with_reducible refine ck.mono ?_);rintro e w2 ⟨rfl,hx2⟩;go_wp2;go_roundw
   case rel=>exact⟨j+1,by go_num,hlt,hx1.trans hx2⟩
   case measure=>simp [intOf];omega
  ·have hle:(l.length:Int)<=(j:Int):=(by omega);have hd:decide (j<l.length)=false:=(by simp [hlt]);have De:decide ((j:Int)<(l.length:Int))=false:=(by simp;omega);clear hlt;go_wp2
   (try first|simp only [hd]|simp only [De])
   clear hle hd De
   go_loopw [33] (fun i wr=>∃i':Nat,i=.int .i64 (i':Nat)/\i'<=l.length/\Ab w wr) (fun i _=>l.length-(intOf i).toNat)
   case atStart=>exact⟨0,rfl,by omega,Ae⟩
   case round=>
    obtain⟨i,rfl,hi,U8⟩:=hrel;by_cases hlt:i<l.length
    ·obtain⟨b,o,rfl,hg1,hg2⟩:=BN (hr.ext U8) hlt;obtain⟨kk,Ch⟩:=Asw ((i+1)%l.length);have C6:kk<l.length:=(by rw [Ch];exact Nat.mod_lt _ (by omega));have I8:((i:Int)+1)%(l.length:Int)=(kk:Int):=(by rw [Ch];simp);obtain⟨pa,FA⟩:=Asw (l[i]);have RG:=HZ.out l[i] (As1 hlt);rw [←FA]at hg1 hg2 RG;have EW:(0:Int)<=(i:Int):=(by omega);have Lc:(i:Int)<(l.length:Int):=(by omega);have hx1:=U8.alloc (.cells #[S (R pa.x),S (R pa.y)] 24);have Au:=Asz wr (.cells #[S (R pa.x),S (R pa.y)] 24);have sH:=Asx Ch;have Fo:=Asx FA;clear Ch FA;go_wp2;rw [I8];clear I8 hg1 hg2;generalize wr.alloc (.cells #[S (R pa.x),S (R pa.y)] 24)=V at *;obtain⟨ba,io⟩:=Asw wr.heap.size;rw [←io]at Au ⊢;clear io U8
     go_loopw [45] (fun i wr=>∃n:Nat,i=.int .i64 (n:Nat)/\n<=l.length/\Ab V wr) (fun i _=>l.length-(intOf i).toNat)
     case atStart=>exact⟨0,rfl,by omega,Ab.refl _⟩
     case round=>
      obtain⟨n,rfl,hn,Lb⟩:=hrel;by_cases Mr:n<l.length
      ·obtain⟨_,_,e1,hg1,hg2⟩:=BN (hr.ext (hx1.trans Lb)) Mr;obtain⟨_,_,e2,hg3,hg4⟩:=BN (hr.ext (hx1.trans Lb)) C6;simp only [As4,Addr.mk.injEq,and_true]at e1 e2;obtain⟨rfl,rfl⟩:=e1;obtain⟨e2,e3⟩:=e2;subst e2 e3;obtain⟨px,P9⟩:=Asw (l[n]);obtain⟨pk,Mx⟩:=Asw (l[kk]);have PM:=HZ.out l[n] (As1 Mr);have nA:=HZ.out l[kk] (As1 C6);rw [←P9]at hg1 hg2 PM;rw [←Mx]at hg3 hg4 nA;have Na:=Asx P9;have HPK:=Asx Mx;clear P9 Mx;have Uw:=(Lb.block _ (Asy Au)).trans Au;have Oj:=Lb.alloc (.cells #[S (R px.x),S (R px.y)] 24);have Ax:=Asz wr (.cells #[S (R px.x),S (R px.y)] 24);have DL:(0:Int)<=(n:Int):=(by omega);have hnl:(n:Int)<(l.length:Int):=(by omega);have hk0:(0:Int)<=(kk:Int):=(by omega);have Arf:(kk:Int)<(l.length:Int):=(by omega);have hxx:=(Ab.refl wr).alloc (.cells #[S (R px.x),S (R px.y)] 24);replace Uw:=(hxx.block _ (Asy Uw)).trans Uw;have hg3':=hxx.cellS hg3;have kF:=hxx.cellS hg4
       go_upto_region 19 with fail
       clear hg1 hg2 hg3 hg4;generalize wr.alloc (.cells #[S (R px.x),S (R px.y)] 24)=U at *;obtain⟨bx,JQ⟩:=Asw wr.heap.size;rw [←JQ]at Ax ⊢;clear JQ hxx;by_cases H6:n=i
       ·have t1:((n:Int) != (i:Int))=false:=(by rw [H6];simp);clear H6
        go_quiet (fail)
        go_wp2;go_roundw
        case rel=>exact⟨n+1,by go_num,Mr,Oj.drewN _⟩
        case measure=>simp [intOf];omega
       ·have t1:((n:Int) != (i:Int))=true:=(by rw [bne_iff_ne];omega);have t1n:(n != i)=true:=(by rw [bne_iff_ne];exact H6);have t1e:(n == i)=false:=(by rw [beq_eq_false_iff_ne];exact H6);by_cases Jm:n=kk
        ·have t2n:(n != kk)=false:=(by rw [Jm];simp);have t2:((n:Int) != (kk:Int))=false:=(by rw [Jm];simp);clear Jm H6
         go_quiet (fail)
         go_wp2;go_roundw
         case rel=>exact⟨n+1,by go_num,Mr,Oj.drewN _⟩
         case measure=>simp [intOf];omega
        ·have t2:((n:Int) != (kk:Int))=true:=(by rw [bne_iff_ne];omega);have t2n:(n != kk)=true:=(by rw [bne_iff_ne];exact Jm);have t2e:(n == kk)=false:=by rw [beq_eq_false_iff_ne];exact Jm
         have Uq:0<Am pa pk px:=by have h:=HT.out i n hlt Mr H6 (by rw [←sH.out];exact Jm);rw [Fo.out,HPK.out,Na.out];simp only [sH.out];exact h
         have tn:=App pa pk px RG nA PM hk (by omega);rw [qA Uq]at tn;have c1:=Aa (o:=0) Uw rfl;have c2:=Aa (o:=1) Uw rfl;have c3:=Aa (o:=0) Ax rfl;have c4:=Aa (o:=1) Ax rfl;have hU:=hw.ext (hx1.trans Oj);unfold Af at tn;clear PM nA Uq H6 Jm
         go_region_held3 (fun w'=>w'.cell? ⟨ba,0,none⟩=some (S (R pa.x))/\w'.cell? ⟨ba,1,none⟩=some (S (R pa.y))/\w'.cell? ⟨b,o+kk*2,none⟩=some (S (R pk.x))/\w'.cell? ⟨b,o+kk*2+1,none⟩=some (S (R pk.y))/\w'.cell? ⟨bx,0,none⟩=some (S (R px.x))/\w'.cell? ⟨bx,1,none⟩=some (S (R px.y)))
          (go_keep)
          (first|((with_reducible refine(tn _ (hU.ext (Ab.refl U).drew)).mono ?_);rintro e w5 ⟨rfl,As⟩;have X5:=(Ab.refl U).drew.trans As;have d1:=X5.cellS c1;have d2:=X5.cellS c2;have d3:=X5.cellS c3;have d4:=X5.cellS c4;have d5:=X5.cellS hg3';have d6:=X5.cellS kF))
         go_wp2;go_roundw
         case rel=>exact⟨n+1,by go_num,Mr,Oj.trans X5⟩
         case measure=>simp [intOf];omega
      ·have hle:(l.length:Int)<=(n:Int):=(by omega);go_wp2;go_roundw
       case rel=>exact⟨i+1,by go_num,hlt,hx1.trans Lb⟩
       case measure=>simp [intOf];omega
    ·have hle:(l.length:Int)<=(i:Int):=(by omega);have hd:decide (i<l.length)=false:=(by simp [hlt]);have De:decide ((i:Int)<(l.length:Int))=false:=(by simp;omega);have Ajp:0<l.length:=(by omega);obtain⟨b,o,rfl,_,_⟩:=BN (hr.ext U8) Ajp;have GM:(1:Int)<=(l.length:Int):=(by omega);have hlc:(l.length:Int)<=(c:Int):=(by omega);have hm1:(l.length:Int)-1=((l.length-1:Nat):Int):=(by omega);obtain⟨m,hme⟩:=Asw (l.length-1);rw [←hme]at hm1;have HM:=Asx hme;clear hme hlt;go_wp2;rw [←HM.out];clear hle hd De hm1 GM hlc
     go_loopw [73] (fun i wr=>∃n:Nat,i=.int .i64 (n:Nat)/\n<=m/\Ab w wr) (fun i _=>m-(intOf i).toNat)
     case atStart=>exact⟨0,rfl,by omega,U8⟩
     case round=>
      obtain⟨n,rfl,hn,Lb⟩:=hrel;by_cases Mr:n<m
      ·have FT:n+1<l.length:=(by rw [HM.out]at Mr;omega);have hl0:0<l.length:=(by omega);obtain⟨_,_,e1,hg1,hg2⟩:=BN (hr.ext Lb) FT;obtain⟨_,_,e2,hg3,hg4⟩:=BN (hr.ext Lb) hl0;simp only [As4,Addr.mk.injEq,and_true]at e1 e2;obtain⟨rfl,rfl⟩:=e1;obtain⟨e2,e3⟩:=e2;subst e2 e3;obtain⟨px,P9⟩:=Asw (l[n+1]);obtain⟨p0,Dp⟩:=Asw (l[0]);have PM:=HZ.out l[n+1] (As1 FT);have hz0:=HZ.out l[0] (As1 hl0);have DK:=HL.out n FT;rw [←P9]at hg1 hg2 PM;rw [←Dp]at hg3 hg4 hz0;rw [←P9,←Dp]at DK;have ls:=Alt px p0 PM hz0 hk (by omega);obtain⟨r,GQ⟩:=Asw (AY px p0);rw [←GQ]at DK ls;have hr0:0<=r:=(by omega);have e2:o+(n+1)*2=o+2+n*2:=(by omega);rw [e2]at hg1 hg2;rw [Nat.zero_mul,Nat.add_zero]at hg3 hg4;have DL:(0:Int)<=(n:Int):=(by omega);have hnl:(n:Int)<(m:Int):=(by omega);have hl0':(0:Int)<(l.length:Int):=(by omega);have Oj:=Lb.alloc (.cells #[S (R px.x),S (R px.y)] 24);have Ax:=Asz wr (.cells #[S (R px.x),S (R px.y)] 24);have hxx:=(Ab.refl wr).alloc (.cells #[S (R px.x),S (R px.y)] 24);have hg3':=hxx.cellS hg3;have kF:=hxx.cellS hg4;unfold Af at ls;clear DK GQ P9 Dp PM hz0 e2
       go_upto_region 26 with fail
       clear hg1 hg2 hg3 hg4;generalize wr.alloc (.cells #[S (R px.x),S (R px.y)] 24)=U at *;obtain⟨bx,JQ⟩:=Asw wr.heap.size;rw [←JQ]at Ax ⊢;clear JQ hxx;have c3:=Aa (o:=0) Ax rfl;have c4:=Aa (o:=1) Ax rfl;have hU:=hw.ext Oj
       go_region_held3 (fun w'=>w'.cell? ⟨b,o,none⟩=some (S (R p0.x))/\w'.cell? ⟨b,o+1,none⟩=some (S (R p0.y))/\w'.cell? ⟨bx,0,none⟩=some (S (R px.x))/\w'.cell? ⟨bx,1,none⟩=some (S (R px.y)))
        (go_keep)
        (first|((with_reducible refine(ls _ (hU.ext (Ab.refl U).drew)).mono ?_);rintro e w5 ⟨rfl,As⟩;have X5:=(Ab.refl U).drew.trans As;have d1:=X5.cellS c3;have d2:=X5.cellS c4;have d3:=X5.cellS hg3';have d4:=X5.cellS kF))
       go_wp2;go_roundw
       case rel=>exact⟨n+1,by go_num,Mr,Oj.trans X5⟩
       case measure=>simp [intOf];omega
      ·have hle:(m:Int)<=(n:Int):=(by omega);go_wp2;go_ret;exact⟨rfl,Lb⟩
theorem oU(x y:Int)(b o:Nat)(w:World)(h1:w.cell? ⟨b,o,none⟩=some (.int .i64 x))(h2:w.cell? ⟨b,o+1,none⟩=some (.int .i64 y)) :
  Calls Tryz.prog 141 #[.slice (some ⟨b,o,none⟩) 2 2] w (AI (if x≠0 then x else y) w):=by
 obtain⟨r,hr⟩:=Asw (if x≠0 then x else y);rw [←hr];have HR:=Asx hr;clear hr;go_enter Tryz.func141,Tryz.ntmps141;go_wp2
 go_loopw [8] (fun i wr=>∃j:Nat,i=.int .i64 (j:Nat)/\j<=2/\(1<=j→x=0)/\(2<=j→y=0)/\wr=w) (fun i _=>2-(intOf i).toNat)
 case atStart=>exact⟨0,rfl,by omega,by omega,by omega,rfl⟩
 case round=>
  obtain⟨j,rfl,hj,hx,hy,rfl⟩:=hrel;by_cases j0:j=0
  ·subst j0;by_cases hx0:x=0
   ·have t:(x != 0)=false:=(by rw [hx0];rfl);have HX:=Asx hx0;clear hx hy hx0;go_wp2;go_roundw
    case rel=>exact⟨1,rfl,by omega,fun _=>HX.out,by omega,by trivial⟩
    case measure=>simp [intOf]
   ·have t:(x != 0)=true:=(by rw [bne_iff_ne];exact hx0);have My:r=x:=(by rw [HR.out,if_pos hx0]);subst My;clear hx hy hx0;go_wp2;go_ret;exact⟨rfl,Ab.refl _⟩
  ·by_cases j1:j=1
   ·subst j1;have hx0:x=0:=hx (by omega);have hry:r=y:=(by rw [HR.out,if_neg (by omega)]);subst hry;have HX:=Asx hx0;by_cases EG:r=0
    ·have t:(r != 0)=false:=(by rw [EG];rfl);have HY:=Asx EG;clear hx hy hx0 EG j0;go_wp2;go_roundw
     case rel=>exact⟨2,rfl,by omega,fun _=>HX.out,fun _=>HY.out,by trivial⟩
     case measure=>simp [intOf]
    ·have t:(r != 0)=true:=(by rw [bne_iff_ne];exact EG);clear hx hy hx0 EG j0;go_wp2;go_ret;exact⟨rfl,Ab.refl _⟩
   ·have j2:j=2:=(by omega);subst j2;have hx0:x=0:=hx (by omega);have EG:y=0:=hy (by omega);have hr0:r=0:=(by rw [HR.out,if_neg (by omega),EG]);subst hr0;clear hx hy hx0 EG j0 j1;go_wp2;go_ret;exact⟨rfl,Ab.refl _⟩
theorem Ju(a b:Pt){k:Nat}(ha:Aw k a)(hb:Aw k b)(hk:0<k)(hk2:k<=1)(w:World)(hw:Aj w) :
  Calls Tryz.prog 88 #[Af a,Af b] w (AI (AY a b) w):=by
 have c1:=G0 a.x b.x (a:=k) (b:=k) ⟨ha.x,hb.x,hk,hk,by omega⟩;have c2:=G0 a.y b.y (a:=k) (b:=k) ⟨ha.y,hb.y,hk,hk,by omega⟩;have hE:=((Ab.refl w).alloc (.cells #[S (R a.x),S (R a.y)] 24)).alloc (.cells #[S (R b.x),S (R b.y)] 24);obtain⟨x,hx0⟩:=Asw (AO a.x b.x);obtain⟨y,EG⟩:=Asw (AO a.y b.y)
 have hr:AY a b=if x≠0 then x else y:=by rw [hx0,EG];rfl
 rw [hr];rw [←hx0]at c1;rw [←EG]at c2
 have hA:(w.alloc (.cells #[S (R a.x),S (R a.y)] 24)).alloc (.cells #[S (R b.x),S (R b.y)] 24) |>.heap[w.heap.size]?=some (.cells #[S (R a.x),S (R a.y)] 24):=(Below.heap_alloc _ _ _ (by simp)).trans (Asz w _)
 have hB:=Asz (w.alloc (.cells #[S (R a.x),S (R a.y)] 24)) (.cells #[S (R b.x),S (R b.y)] 24);rw [As7]at hB;obtain⟨r,GQ⟩:=Asw (if x≠0 then x else y:Int);have HRE:=Asx GQ;rw [←GQ];unfold Af
 have VF:∀(b o:Nat) (w:World),w.cell? ⟨b,o,none⟩=some (.int .i64 x)→w.cell? ⟨b,o+1,none⟩=some (.int .i64 y)→Calls Tryz.prog 141 #[.slice (some ⟨b,o,none⟩) 2 2] w (AI r w):=by intro b o w h1 h2;rw [GQ];exact oU x y b o w h1 h2
 clear ha hb hr hx0 EG GQ;go_enter Tryz.func88,Tryz.ntmps88
 go_upto_region 1 with fail
 generalize (w.alloc (.cells #[S (R a.x),S (R a.y)] 24)).alloc (.cells #[S (R b.x),S (R b.y)] 24)=V at *;have hs:=hE.size;obtain⟨ba,Au⟩:=Asw w.heap.size;rw [←Au]at hA hB ⊢;clear Au hs;have k1:=Aa (o:=0) hA rfl;have k2:=Aa (o:=1) hA rfl;have k3:=Aa (o:=0) hB rfl;have k4:=Aa (o:=1) hB rfl;have hV:=hw.ext hE;clear hA hB
 go_region_held3 (fun w'=>w'.cell? ⟨ba,0,none⟩=some (S (R a.x))/\w'.cell? ⟨ba,1,none⟩=some (S (R a.y))/\w'.cell? ⟨ba+1,0,none⟩=some (S (R b.x))/\w'.cell? ⟨ba+1,1,none⟩=some (S (R b.y)))
  (go_keep)
  (first|((with_reducible refine(c1 _ (hV.ext (Ab.refl V).drew)).mono ?_);rintro e w5 ⟨rfl,As⟩;have X5:Ab V w5:=(Ab.refl V).drew.trans As;have d1:=X5.cellS k1;have d2:=X5.cellS k2;have d3:=X5.cellS k3;have d4:=X5.cellS k4)|((with_reducible refine(c2 _ (hV.ext X5)).mono ?_);rintro e w6 ⟨rfl,AX⟩;have X6:Ab V w6:=X5.trans AX;have f1:=X6.cellS k1;have f2:=X6.cellS k2;have f3:=X6.cellS k3;have f4:=X6.cellS k4)|((with_reducible refine(VF w6.heap.size 0 (w6.alloc (.cells #[.int .i64 x,.int .i64 y] 3)) (Aa (o:=0) (Asz w6 _) rfl) (Aa (o:=1) (Asz w6 _) rfl)).mono ?_);rintro e w7 ⟨rfl,Az⟩;have X7:Ab V w7:=(X6.alloc _).trans Az;have g1:=X7.cellS k1;have g2:=X7.cellS k2;have g3:=X7.cellS k3;have g4:=X7.cellS k4))
 go_wp2;go_ret;exact⟨rfl,hE.trans X7⟩
theorem AaQ(a b c:Pt){k:Nat}(ha:Aw k a)(hb:Aw k b)(hc:Aw k c)(hk:0<k)(hk2:k<=1)(w:World)(hw:Aj w) :
  Calls Tryz.prog 150 #[Af a,Af b,Af c] w (BW (R (Am a b c)) w):=by
 have s1:=Ff b.x a.x (a:=k) (b:=k) ⟨hb.x,ha.x,hk,hk,by omega⟩;have s2:=Ff b.y a.y (a:=k) (b:=k) ⟨hb.y,ha.y,hk,hk,by omega⟩;have s3:=Ff c.x a.x (a:=k) (b:=k) ⟨hc.x,ha.x,hk,hk,by omega⟩;have s4:=Ff c.y a.y (a:=k) (b:=k) ⟨hc.y,ha.y,hk,hk,by omega⟩;have m1:=MB (b.x-a.x) (c.y-a.y) (a:=k+k+1) (b:=k+k+1) ⟨hb.x.sub ha.x,hc.y.sub ha.y,by omega,by omega,by omega⟩;have m2:=MB (b.y-a.y) (c.x-a.x) (a:=k+k+1) (b:=k+k+1) ⟨hb.y.sub ha.y,hc.x.sub ha.x,by omega,by omega,by omega⟩;have sb:=Ff ((b.x-a.x)*(c.y-a.y)) ((b.y-a.y)*(c.x-a.x)) (a:=k+k+1+(k+k+1)) (b:=k+k+1+(k+k+1)) ⟨(hb.x.sub ha.x).mul (hc.y.sub ha.y),(hb.y.sub ha.y).mul (hc.x.sub ha.x),by omega,by omega,by omega⟩;have e:Am a b c=(b.x-a.x)*(c.y-a.y)-(b.y-a.y)*(c.x-a.x):=rfl;rw [←e]at sb;obtain⟨r,hr⟩:=Asw (Am a b c);rw [←hr]at sb ⊢;unfold Af;clear ha hb hc e hr;go_enter Tryz.func150,Tryz.ntmps150;(go_wp2_with fail);obtain⟨W,hW,hE,hb1,hb2,hb3⟩:=J9 w (.cells #[S (R a.x),S (R a.y)] 24) (.cells #[S (R b.x),S (R b.y)] 24) (.cells #[S (R c.x),S (R c.y)] 24);rw [←hW];clear hW
 have SO:∀w',Ab W w'→(w'.cell? ⟨w.heap.size,0,none⟩=some (S (R a.x))/\w'.cell? ⟨w.heap.size,1,none⟩=some (S (R a.y))/\w'.cell? ⟨w.heap.size+1,0,none⟩=some (S (R b.x))/\w'.cell? ⟨w.heap.size+1,1,none⟩=some (S (R b.y))/\w'.cell? ⟨w.heap.size+1+1,0,none⟩=some (S (R c.x))/\w'.cell? ⟨w.heap.size+1+1,1,none⟩=some (S (R c.y))):=fun w' h=>⟨h.cellS (Aa hb1 rfl),h.cellS (Aa hb1 rfl),h.cellS (Aa hb2 rfl),h.cellS (Aa hb2 rfl),h.cellS (Aa hb3 rfl),h.cellS (Aa hb3 rfl)⟩
 have C0:=hw.ext hE;have X:Ab W W:=Ab.refl W;clear hb1 hb2 hb3
 go_region_held3 (fun w'=>w'.cell? ⟨w.heap.size,0,none⟩=some (S (R a.x))/\w'.cell? ⟨w.heap.size,1,none⟩=some (S (R a.y))/\w'.cell? ⟨w.heap.size+1,0,none⟩=some (S (R b.x))/\w'.cell? ⟨w.heap.size+1,1,none⟩=some (S (R b.y))/\w'.cell? ⟨w.heap.size+1+1,0,none⟩=some (S (R c.x))/\w'.cell? ⟨w.heap.size+1+1,1,none⟩=some (S (R c.y)))
  (first|with_reducible exact SO _ X|with_reducible exact SO _ X.drew)
  (first|((with_reducible refine(s1 _ (C0.ext (by first|exact X|exact X.drew))).mono ?_);rintro e w1 ⟨rfl,hx1⟩;replace X:Ab W w1:=(by first|exact X.trans hx1|exact X.drew.trans hx1))|((with_reducible refine(s2 _ (C0.ext (by first|exact X|exact X.drew))).mono ?_);rintro e w1 ⟨rfl,hx1⟩;replace X:Ab W w1:=(by first|exact X.trans hx1|exact X.drew.trans hx1))|((with_reducible refine(s3 _ (C0.ext (by first|exact X|exact X.drew))).mono ?_);rintro e w1 ⟨rfl,hx1⟩;replace X:Ab W w1:=(by first|exact X.trans hx1|exact X.drew.trans hx1))|((with_reducible refine(s4 _ (C0.ext (by first|exact X|exact X.drew))).mono ?_);rintro e w1 ⟨rfl,hx1⟩;replace X:Ab W w1:=(by first|exact X.trans hx1|exact X.drew.trans hx1))|((with_reducible refine(m1 _ (C0.ext (by first|exact X|exact X.drew))).mono ?_);rintro e w1 ⟨rfl,hx1⟩;replace X:Ab W w1:=(by first|exact X.trans hx1|exact X.drew.trans hx1))|((with_reducible refine(m2 _ (C0.ext (by first|exact X|exact X.drew))).mono ?_);rintro e w1 ⟨rfl,hx1⟩;replace X:Ab W w1:=(by first|exact X.trans hx1|exact X.drew.trans hx1))|((with_reducible refine(sb _ (C0.ext (by first|exact X|exact X.drew))).mono ?_);rintro e w1 ⟨rfl,hx1⟩;replace X:Ab W w1:=(by first|exact X.trans hx1|exact X.drew.trans hx1)))
 go_wp2;go_ret;exact⟨rfl,hE.trans X⟩
theorem MA(a b c:Pt){k:Nat}(ha:Aw k a)(hb:Aw k b)(hc:Aw k c)(hk:0<k)(hk2:k<=1)(w:World)(hw:Aj w) :
  Calls Tryz.prog 103 #[Af a,Af b,Af c] w (AI (AN (Am a b c)) w):=by
 have ar:=AaQ a b c ha hb hc hk hk2;have sg:=PU (Am a b c);have hE:=(((Ab.refl w).alloc (.cells #[S (R a.x),S (R a.y)] 24)).alloc (.cells #[S (R b.x),S (R b.y)] 24)).alloc (.cells #[S (R c.x),S (R c.y)] 24);unfold Af at ar ⊢;clear ha hb hc;go_enter Tryz.func103,Tryz.ntmps103;(go_wp2_with fail);(with_reducible refine(ar _ (hw.ext hE)).mono ?_);rintro e w1 ⟨rfl,hx⟩;(go_wp2_with fail);(with_reducible refine(sg _).mono ?_);rintro e w2 ⟨rfl,hx2⟩;go_wp2;go_ret;exact⟨rfl,hE.trans (hx.trans hx2)⟩
def Kj(y x:Int):Int:=if 0<y then 0 else if y=0 then (if 0<x then 0 else 1)else 1
def Cd(p q:Pt):Int:=Kj (AO q.y p.y) (AO q.x p.x)
theorem Al5{y x:Int}(h:0<y):Kj y x=0:=if_pos h
theorem Al6{y x:Int}(h:y=0)(hx:0<x):Kj y x=0:=by unfold Kj;rw [if_neg (by omega),if_pos h,if_pos hx]
theorem Al7{y x:Int}(h:y=0)(hx:¬0<x):Kj y x=1:=by unfold Kj;rw [if_neg (by omega),if_pos h,if_neg hx]
theorem Al8{y x:Int}(h:y<0):Kj y x=1:=by unfold Kj;rw [if_neg (by omega),if_neg (by omega)]
theorem Abb(p q:Pt){k:Nat}(hp:Aw k p)(hq:Aw k q)(hk:0<k)(hk2:k<=1)(w:World)(hw:Aj w) :
  Calls Tryz.prog 152 #[Af p,Af q] w (AI (Cd p q) w):=by
 have c1:=G0 q.y p.y (a:=k) (b:=k) ⟨hq.y,hp.y,hk,hk,by omega⟩;have c2:=G0 q.x p.x (a:=k) (b:=k) ⟨hq.x,hp.x,hk,hk,by omega⟩;unfold Cd;generalize AO q.y p.y=y at *;generalize AO q.x p.x=x at *;have hb1:=(Below.heap_alloc (w.alloc (.cells #[S (R p.x),S (R p.y)] 24)) (.cells #[S (R q.x),S (R q.y)] 24) w.heap.size (by simp)).trans (Asz w (.cells #[S (R p.x),S (R p.y)] 24));have hb2:=Asz (w.alloc (.cells #[S (R p.x),S (R p.y)] 24)) (.cells #[S (R q.x),S (R q.y)] 24);rw [As7]at hb2;have hE:=((Ab.refl w).alloc (.cells #[S (R p.x),S (R p.y)] 24)).alloc (.cells #[S (R q.x),S (R q.y)] 24);unfold Af;clear hp hq;obtain⟨r,hr⟩:=Asw (Kj y x);rw [←hr];have HR:=Asx hr;clear hr;go_enter Tryz.func152,Tryz.ntmps152
 go_upto_region 1 with fail
 generalize (w.alloc (.cells #[S (R p.x),S (R p.y)] 24)).alloc (.cells #[S (R q.x),S (R q.y)] 24)=V at *;obtain⟨ba,Au⟩:=Asw w.heap.size;rw [←Au]at hb1 hb2 ⊢;clear Au;have k1:=Aa (o:=0) hb1 rfl;have k2:=Aa (o:=1) hb1 rfl;have k3:=Aa (o:=0) hb2 rfl;have k4:=Aa (o:=1) hb2 rfl;clear hb1 hb2;(go_wp2_with fail);(with_reducible refine(c1 _ (hw.ext hE)).mono ?_);rintro e w1 ⟨rfl,hx1⟩;have j1:=hx1.cellS k1;have j2:=hx1.cellS k2;have j3:=hx1.cellS k3;have j4:=hx1.cellS k4;replace hE:=hE.trans hx1;clear k1 k2 k3 k4 hx1;by_cases y1:0<y
 ·have e0:r=0:=(by rw [HR.out,Al5 y1]);subst e0;have d1:decide (0<y)=true:=decide_eq_true y1;clear c2 c1;go_wp2;go_ret;exact⟨rfl,hE⟩
 ·by_cases y0:y=0
  ·subst y0;by_cases x1:0<x
   ·have e0:r=0:=(by rw [HR.out,Al6 rfl x1]);subst e0;have d1:decide (0<x)=true:=decide_eq_true x1;clear c1 y1;(go_wp2_with fail);(with_reducible refine(c2 _ (hw.ext hE)).mono ?_);rintro e w2 ⟨rfl,hx2⟩;go_wp2;go_ret;exact⟨rfl,hE.trans hx2⟩
   ·have e0:r=1:=(by rw [HR.out,Al7 rfl x1]);subst e0;have d1:decide (0<x)=false:=decide_eq_false x1;have x2:x<=0:=(by omega);clear c1 y1 x1;(go_wp2_with fail);(with_reducible refine(c2 _ (hw.ext hE)).mono ?_);rintro e w2 ⟨rfl,hx2⟩;go_wp2;go_ret;exact⟨rfl,hE.trans hx2⟩
  ·have e0:r=1:=(by rw [HR.out,Al8 (by omega)]);subst e0;have d1:decide (0<y)=false:=decide_eq_false y1;have d2:decide (y=0)=false:=decide_eq_false y0;have d3:(y == 0)=false:=(by rw [beq_eq_false_iff_ne];exact y0);have y2:y<0:=(by omega);clear c2 c1 y1;go_wp2;go_ret;exact⟨rfl,hE⟩
def Ln(u v t:Int):Bool:=decide (u<=0)&&(decide (v<=0)&&decide (t=0))
def Ov(a b p:Pt):Bool:=Ln (AY a p) (AY p b) (AN (Am a b p))
def FY(a b p:Pt):Bool:=if 0<AY a b then Ov b a p else Ov a b p
theorem Ang(a b p:Pt){k:Nat}(ha:Aw k a)(hb:Aw k b)(hp:Aw k p)(hk:0<k)(hk2:k<=1)(hz:¬0<AY a b)(w:World)(hw:Aj w) :
  Calls Tryz.prog 102 #[Af a,Af b,Af p] w (BP (Ov a b p) w):=by
 have c0:=Ju a b ha hb hk hk2;have c1:=Ju a p ha hp hk hk2;have c2:=Ju p b hp hb hk hk2;have c3:=MA a b p ha hb hp hk hk2;unfold Ov;generalize AY a b=z at *;generalize AY a p=u at *;generalize AY p b=v at *;generalize AN (Am a b p)=t at *;obtain⟨W,hW,hE,hb1,hb2,hb3⟩:=J9 w (.cells #[S (R a.x),S (R a.y)] 24) (.cells #[S (R b.x),S (R b.y)] 24) (.cells #[S (R p.x),S (R p.y)] 24);obtain⟨r,hr⟩:=Asw (Ln u v t);rw [←hr];have HR:=Asx hr;unfold Af at c0 c1 c2 c3 ⊢;clear ha hb hp hr;go_enter Tryz.func102,Tryz.ntmps102
 go_upto_region 1 with fail
 rw [←hW];clear hW;obtain⟨ba,Au⟩:=Asw w.heap.size;have hle:w.heap.size<=ba:=(by omega);rw [←Au]at hb1 hb2 hb3 ⊢;clear Au;have k1:=Aa (o:=0) hb1 rfl;have k2:=Aa (o:=1) hb1 rfl;have k3:=Aa (o:=0) hb2 rfl;have k4:=Aa (o:=1) hb2 rfl;(go_wp2_with fail);(with_reducible refine(c0 _ (hw.ext hE)).mono ?_);rintro e w1 ⟨rfl,hx1⟩;replace hb1:=(hx1.block _ (Asy hb1)).trans hb1;replace hb2:=(hx1.block _ (Asy hb2)).trans hb2;replace hb3:=(hx1.block _ (Asy hb3)).trans hb3;replace hE:=hE.trans hx1;clear k1 k2 k3 k4 hx1 c0;have dz:decide (0<z)=false:=decide_eq_false (by omega);have hz':z<=0:=(by omega);clear hz
 go_upto_region 3 with fail
 have DV:=hE;have n1:=hb1;have n2:=hb2;have n3:=hb3;obtain⟨V,hV⟩:=Asw w1;rw [←hV]at DV n1 n2 n3 ⊢;clear hV hb1 hb2 hb3 hE dz;have k1:=Aa (o:=0) n1 rfl;have k2:=Aa (o:=1) n1 rfl;have k3:=Aa (o:=0) n2 rfl;have k4:=Aa (o:=1) n2 rfl;have k5:=Aa (o:=0) n3 rfl;have k6:=Aa (o:=1) n3 rfl;clear n1 n2 n3;(go_wp2_with fail);(with_reducible refine(c1 _ (hw.ext DV)).mono ?_);rintro e w2 ⟨rfl,hx2⟩;have j1:=hx2.cellS k1;have j2:=hx2.cellS k2;have j3:=hx2.cellS k3;have j4:=hx2.cellS k4;have j5:=hx2.cellS k5;have j6:=hx2.cellS k6;replace DV:=DV.trans hx2;clear k1 k2 k3 k4 k5 k6 hx2 c1;by_cases hu:u<=0
 ·have du:decide (u<=0)=true:=decide_eq_true hu;(go_wp2_with fail);(with_reducible refine(c2 _ (hw.ext DV)).mono ?_);rintro e w3 ⟨rfl,hx3⟩;have i1:=hx3.cellS j1;have i2:=hx3.cellS j2;have i3:=hx3.cellS j3;have i4:=hx3.cellS j4;have i5:=hx3.cellS j5;have i6:=hx3.cellS j6;replace DV:=DV.trans hx3;clear j1 j2 j3 j4 j5 j6 hx3 c2;by_cases hv:v<=0
  ·have dv:decide (v<=0)=true:=decide_eq_true hv;have hrt:r=decide (t=0):=(by rw [HR.out];unfold Ln;rw [du,dv];rfl);have Qo:=Asx hrt;clear hrt;(go_wp2_with fail);(with_reducible refine(c3 _ (hw.ext DV)).mono ?_);rintro e w4 ⟨rfl,Ao⟩;go_wp2;go_ret;exact⟨by rw [Qo.out];rfl,DV.trans Ao⟩
  ·have dv:decide (v<=0)=false:=decide_eq_false hv;have hrt:r=false:=(by rw [HR.out];unfold Ln;rw [du,dv];rfl);subst hrt;have hv':0<v:=(by omega);clear hv c3;go_wp2;go_ret;exact⟨rfl,DV⟩
 ·have du:decide (u<=0)=false:=decide_eq_false hu;have hrt:r=false:=(by rw [HR.out];unfold Ln;rw [du];rfl);subst hrt;have Lf:0<u:=(by omega);clear hu c2 c3;go_wp2;go_ret;exact⟨rfl,DV⟩
theorem Anf(a b p:Pt){k:Nat}(ha:Aw k a)(hb:Aw k b)(hp:Aw k p)(hk:0<k)(hk2:k<=1)(hz:0<AY a b)(w:World)(hw:Aj w) :
  Calls Tryz.prog 102 #[Af a,Af b,Af p] w (BP (Ov b a p) w):=by
 have c0:=Ju a b ha hb hk hk2;have c1:=Ju b p hb hp hk hk2;have c2:=Ju p a hp ha hk hk2;have c3:=MA b a p hb ha hp hk hk2;unfold Ov;generalize AY a b=z at *;generalize AY b p=u at *;generalize AY p a=v at *;generalize AN (Am b a p)=t at *;obtain⟨W,hW,hE,hb1,hb2,hb3⟩:=J9 w (.cells #[S (R a.x),S (R a.y)] 24) (.cells #[S (R b.x),S (R b.y)] 24) (.cells #[S (R p.x),S (R p.y)] 24);obtain⟨r,hr⟩:=Asw (Ln u v t);rw [←hr];have HR:=Asx hr;unfold Af at c0 c1 c2 c3 ⊢;clear ha hb hp hr;go_enter Tryz.func102,Tryz.ntmps102
 go_upto_region 1 with fail
 rw [←hW];clear hW;obtain⟨ba,Au⟩:=Asw w.heap.size;have hle:w.heap.size<=ba:=(by omega);rw [←Au]at hb1 hb2 hb3 ⊢;clear Au;have k1:=Aa (o:=0) hb1 rfl;have k2:=Aa (o:=1) hb1 rfl;have k3:=Aa (o:=0) hb2 rfl;have k4:=Aa (o:=1) hb2 rfl;(go_wp2_with fail);(with_reducible refine(c0 _ (hw.ext hE)).mono ?_);rintro e w1 ⟨rfl,hx1⟩;replace hb1:=(hx1.block _ (Asy hb1)).trans hb1;replace hb2:=(hx1.block _ (Asy hb2)).trans hb2;replace hb3:=(hx1.block _ (Asy hb3)).trans hb3;replace hE:=hE.trans hx1;clear k1 k2 k3 k4 hx1 c0;have dz:decide (0<z)=true:=decide_eq_true hz;have k1:=Aa (o:=0) hb1 rfl;have k2:=Aa (o:=1) hb1 rfl;have k3:=Aa (o:=0) hb2 rfl;have k4:=Aa (o:=1) hb2 rfl;have f1:=Ah (o:=0) hb1;have f2:=Ah (o:=1) hb1;have f3:=Ah (o:=0) hb2;have f4:=Ah (o:=1) hb2
 go_upto_region 3 with fail
 obtain⟨V,hV⟩:=Asw ((((w1.setCell ⟨ba,0,none⟩ (S (R b.x))).setCell ⟨ba,1,none⟩ (S (R b.y))).setCell ⟨ba+1,0,none⟩ (S (R a.x))).setCell ⟨ba+1,1,none⟩ (S (R a.y)));rw [←hV]
 have DV:Ab w V:=by rw [hV];exact(((hE.setCell (p:=⟨ba,0,none⟩) hle _).setCell (p:=⟨ba,1,none⟩) hle _).setCell (p:=⟨ba+1,0,none⟩) (Nat.le_succ_of_le hle) _).setCell (p:=⟨ba+1,1,none⟩) (Nat.le_succ_of_le hle) _
 have n1:V.heap[ba]?=some (.cells #[S (R b.x),S (R b.y)] 24):=by rw [hV,Below.heap_setCell _ _ _ _ (show ba≠ba+1 by omega),Below.heap_setCell _ _ _ _ (show ba≠ba+1 by omega)];exact Qy _ _ hb1
 have n2:V.heap[ba+1]?=some (.cells #[S (R a.x),S (R a.y)] 24):=by rw [hV];exact Qy _ _ (by rw [Below.heap_setCell _ _ _ _ (show ba+1≠ba by omega),Below.heap_setCell _ _ _ _ (show ba+1≠ba by omega)];exact hb2)
 have n3:V.heap[ba+1+1]?=some (.cells #[S (R p.x),S (R p.y)] 24):=by rw [hV,Below.heap_setCell _ _ _ _ (show ba+1+1≠ba+1 by omega),Below.heap_setCell _ _ _ _ (show ba+1+1≠ba+1 by omega),Below.heap_setCell _ _ _ _ (show ba+1+1≠ba by omega),Below.heap_setCell _ _ _ _ (show ba+1+1≠ba by omega)];exact hb3
 clear hV k1 k2 k3 k4 f1 f2 f3 f4 hb1 hb2 hb3 hE dz;have k1:=Aa (o:=0) n1 rfl;have k2:=Aa (o:=1) n1 rfl;have k3:=Aa (o:=0) n2 rfl;have k4:=Aa (o:=1) n2 rfl;have k5:=Aa (o:=0) n3 rfl;have k6:=Aa (o:=1) n3 rfl;clear n1 n2 n3;(go_wp2_with fail);(with_reducible refine(c1 _ (hw.ext DV)).mono ?_);rintro e w2 ⟨rfl,hx2⟩;have j1:=hx2.cellS k1;have j2:=hx2.cellS k2;have j3:=hx2.cellS k3;have j4:=hx2.cellS k4;have j5:=hx2.cellS k5;have j6:=hx2.cellS k6;replace DV:=DV.trans hx2;clear k1 k2 k3 k4 k5 k6 hx2 c1;by_cases hu:u<=0
 ·have du:decide (u<=0)=true:=decide_eq_true hu;(go_wp2_with fail);(with_reducible refine(c2 _ (hw.ext DV)).mono ?_);rintro e w3 ⟨rfl,hx3⟩;have i1:=hx3.cellS j1;have i2:=hx3.cellS j2;have i3:=hx3.cellS j3;have i4:=hx3.cellS j4;have i5:=hx3.cellS j5;have i6:=hx3.cellS j6;replace DV:=DV.trans hx3;clear j1 j2 j3 j4 j5 j6 hx3 c2;by_cases hv:v<=0
  ·have dv:decide (v<=0)=true:=decide_eq_true hv;have hrt:r=decide (t=0):=(by rw [HR.out];unfold Ln;rw [du,dv];rfl);have Qo:=Asx hrt;clear hrt;(go_wp2_with fail);(with_reducible refine(c3 _ (hw.ext DV)).mono ?_);rintro e w4 ⟨rfl,Ao⟩;go_wp2;go_ret;exact⟨by rw [Qo.out];rfl,DV.trans Ao⟩
  ·have dv:decide (v<=0)=false:=decide_eq_false hv;have hrt:r=false:=(by rw [HR.out];unfold Ln;rw [du,dv];rfl);subst hrt;have hv':0<v:=(by omega);clear hv c3;go_wp2;go_ret;exact⟨rfl,DV⟩
 ·have du:decide (u<=0)=false:=decide_eq_false hu;have hrt:r=false:=(by rw [HR.out];unfold Ln;rw [du];rfl);subst hrt;have Lf:0<u:=(by omega);clear hu c2 c3;go_wp2;go_ret;exact⟨rfl,DV⟩
theorem pI(a b p:Pt){k:Nat}(ha:Aw k a)(hb:Aw k b)(hp:Aw k p)(hk:0<k)(hk2:k<=1)(w:World)(hw:Aj w) :
  Calls Tryz.prog 102 #[Af a,Af b,Af p] w (BP (FY a b p) w):=by
 unfold FY
 split
 ·exact Anf a b p ha hb hp hk hk2 (by assumption) w hw
 ·exact Ang a b p ha hb hp hk hk2 (by assumption) w hw
structure Ac(W:World) where
 w:World
 h:Ab W w
instance (W:World):Inhabited (Ac W):=⟨⟨W,Ab.refl W⟩⟩
theorem Ac.cell{W:World}{a:Addr}{v:Value}(h:W.cell? a=some v)(p:Ac W):p.w.cell? a=some v:=p.h.cellS h
theorem Bh{P:Program}{id:Nat}{Q:Exit→Act→World→Prop}{a:Act}{W:World}{l:List Oper}(hm:P.follows .mixedOrders=true)(hB:Region.lexB .any l.toArray=true)
  (h:wpQuiet P l.toArray (fun w'=>∃p:Ac W,w'=p.w) (fun a'=>∀w',(∃p:Ac W,w'=p.w)→Q .normal a' w') l a):(Code.region id l.toArray true).wp P Q a W:=
 wp_region_quiet (C:=fun w'=>∃p:Ac W,w'=p.w) hm hB ⟨⟨W.drew,(Ab.refl W).drew⟩,rfl⟩ (by simpa using h)
section
variable {P : Program} {f : FuncId} {args : Array Value} {W : World} {p : Ac W}
theorem eN{v:Value}(h:Calls P f args p.w (BA v p.w)):Calls P f args p.w fun e w''=>e=.returned v/\∃q:Ac W,w''=q.w:=
 h.mono fun _ w1 ⟨he,hx⟩=>⟨he,⟨w1,p.h.trans hx⟩,rfl⟩
theorem EN{n:Int}(h:Calls P f args p.w (AI n p.w)):Calls P f args p.w fun e w''=>e=.returned (.int .i64 n)/\∃q:Ac W,w''=q.w:=
 h.mono fun _ w1 ⟨he,hx⟩=>⟨he,⟨w1,p.h.trans hx⟩,rfl⟩
theorem LN{l:Bs}(h:Calls P f args p.w (BW l p.w)):Calls P f args p.w fun e w''=>e=.returned (S l)/\∃q:Ac W,w''=q.w:=
 h.mono fun _ w1 ⟨he,hx⟩=>⟨he,⟨w1,p.h.trans hx⟩,rfl⟩
theorem TL{b:Bool}(h:Calls P f args p.w (BP b p.w)):Calls P f args p.w fun e w''=>e=.returned (.bool b)/\∃q:Ac W,w''=q.w:=
 h.mono fun _ w1 ⟨he,hx⟩=>⟨he,⟨w1,p.h.trans hx⟩,rfl⟩
end
def Aq(p q:Pt):Bool:=decide (p.x=q.x)&&decide (p.y=q.y)
theorem Ca{p q:Pt} : Aq p q=true↔p=q:=by
 unfold Aq;rw [Bool.and_eq_true,decide_eq_true_eq,decide_eq_true_eq];constructor
 ·rintro⟨h1,h2⟩
  cases p;cases q;simp_all
 ·rintro rfl;exact⟨rfl,rfl⟩
theorem KC(p q:Rat):(R p == R q)=decide (p=q):=by
 by_cases h:p=q
 ·subst h;simp
 ·rw [decide_eq_false h,beq_eq_false_iff_ne];exact fun e=>h (WQ e)
theorem PY(p q:Pt)(W:World):(binOp .eql 24 (.agg #[S (R p.x),S (R p.y)]) (.agg #[S (R q.x),S (R q.y)])).run Tryz.prog W=.ok (.bool (Aq p q)) W:=by
 unfold Aq;rw [←KC,←KC]
 cases b1:(R p.x == R q.x)<;>cases b2:(R p.y == R q.y)<;>simp [go_sem,b1,b2]
theorem Sq(p q:Pt)(W:World):(binOp .neq 24 (.agg #[S (R p.x),S (R p.y)]) (.agg #[S (R q.x),S (R q.y)])).run Tryz.prog W=.ok (.bool (!Aq p q)) W:=by
 unfold Aq;rw [←KC,←KC]
 cases b1:(R p.x == R q.x)<;>cases b2:(R p.y == R q.y)<;>simp [go_sem,b1,b2]
theorem Ss(q:Rat):-1<=AN q/\AN q<=1:=by unfold AN;split<;>(try split)<;>omega
def LJ(x y z:Pt):Bool:=FY x y z&&(!Aq z x && !Aq z y)
def ZL(a b c d:Pt):Bool:=Aq a c||(Aq a d||(Aq b c||Aq b d))
def Ly(a b c:Pt):Int:=AN (Am a b c)
def Sf(a b c d:Pt):Bool:=decide (Ly a b c*Ly a b d<0)&&decide (Ly c d a*Ly c d b<0)
def Jy(a b c d:Pt):List (Pt×Pt×Pt):=[(c,d,a),(c,d,b),(a,b,c),(a,b,d)]
def Oy(a b c d:Pt):Bool:=(Jy a b c d).any (fun t=>LJ t.1 t.2.1 t.2.2)||(!ZL a b c d&&Sf a b c d)
def Sv(a b c d:Pt):Array Value:=#[S (R c.x),S (R c.y),S (R d.x),S (R d.y),S (R a.x),S (R a.y),S (R c.x),S (R c.y),S (R d.x),S (R d.y),S (R b.x),S (R b.y),S (R a.x),S (R a.y),S (R b.x),S (R b.y),S (R c.x),S (R c.y),S (R a.x),S (R a.y),S (R b.x),S (R b.y),S (R d.x),S (R d.y)]
theorem Apm(a b c d:Pt){k:Nat}(ha:Aw k a)(hb:Aw k b)(hc:Aw k c)(hd:Aw k d){j:Nat}(hj:j<4) :
  ∃x y z:Pt,(∀W,(Instr.index 165 (.agg (Sv a b c d)) (.int .i64 (j:Nat))).run Tryz.prog W=.ok (.agg #[S (R x.x),S (R x.y),S (R y.x),S (R y.y),S (R z.x),S (R z.y)]) W)/\(Jy a b c d)[j]?=some (x,y,z)/\Aw k x/\Aw k y/\Aw k z:=by
 obtain rfl|rfl|rfl|rfl:j=0∨j=1∨j=2∨j=3:=by omega
 ·exact⟨c,d,a,fun W=>by unfold Sv;kernel_rfl,rfl,hc,hd,ha⟩
 ·exact⟨c,d,b,fun W=>by unfold Sv;kernel_rfl,rfl,hc,hd,hb⟩
 ·exact⟨a,b,c,fun W=>by unfold Sv;kernel_rfl,rfl,ha,hb,hc⟩
 ·exact⟨a,b,d,fun W=>by unfold Sv;kernel_rfl,rfl,ha,hb,hd⟩
theorem AfL(w:World)(o1 o2 o3 o4:Obj):∃W,W=(((w.alloc o1).alloc o2).alloc o3).alloc o4/\Ab w W/\W.heap[w.heap.size]?=some o1/\W.heap[w.heap.size+1]?=some o2/\W.heap[w.heap.size+1+1]?=some o3/\W.heap[w.heap.size+1+1+1]?=some o4:=by
 obtain⟨V,hV,hE,h1,h2,h3⟩:=J9 w o1 o2 o3;have hs:V.heap.size=w.heap.size+1+1+1:=(by rw [hV];simp);have h4:=Asz V o4;have hx:=(Ab.refl V).alloc o4;rw [hs]at h4;exact⟨V.alloc o4,by rw [hV],hE.alloc o4,(hx.block _ (Asy h1)).trans h1,(hx.block _ (Asy h2)).trans h2,(hx.block _ (Asy h3)).trans h3,h4⟩
theorem AmS(a b c d:Pt){k:Nat}(ha:Aw k a)(hb:Aw k b)(hc:Aw k c)(hd:Aw k d)(hk:0<k)(hk2:k<=1)(w:World)(hw:Aj w) :
  Calls Tryz.prog 50 #[Af a,Af b,Af c,Af d] w (BP (Oy a b c d) w):=by
 have t1:=MA a b c ha hb hc hk hk2;have t2:=MA a b d ha hb hd hk hk2;have t3:=MA c d a hc hd ha hk hk2;have t4:=MA c d b hc hd hb hk hk2;have YU:=@Apm a b c d k ha hb hc hd;unfold Sv at YU;have r1:=Ss (Am a b c);have r2:=Ss (Am a b d);have r3:=Ss (Am c d a);have r4:=Ss (Am c d b);obtain⟨r,hr⟩:=Asw (Oy a b c d);rw [←hr];have HR:=Asx hr;have HP:=Asx (show Sf a b c d=(decide (Ly a b c*Ly a b d<0)&&decide (Ly c d a*Ly c d b<0))from rfl);have Qp:=Asx (show ZL a b c d=(Aq a c||(Aq a d||(Aq b c||Aq b d)))from rfl);have pe:=PY;have pn:=Sq;unfold Af at t1 t2 t3 t4 ⊢;obtain⟨W,hW,hE,hb1,hb2,hb3,hb4⟩:=AfL w (.cells #[S (R a.x),S (R a.y)] 24) (.cells #[S (R b.x),S (R b.y)] 24) (.cells #[S (R c.x),S (R c.y)] 24) (.cells #[S (R d.x),S (R d.y)] 24);clear hr ha hb hc hd;go_enter Tryz.func50,Tryz.ntmps50
 go_upto_region 1 with fail
 rw [←hW];clear hW;obtain⟨ba,Au⟩:=Asw w.heap.size;rw [←Au]at hb1 hb2 hb3 hb4 ⊢;clear Au;have k1:=Aa (o:=0) hb1 rfl;have k2:=Aa (o:=1) hb1 rfl;have k3:=Aa (o:=0) hb2 rfl;have k4:=Aa (o:=1) hb2 rfl;have k5:=Aa (o:=0) hb3 rfl;have k6:=Aa (o:=1) hb3 rfl;have k7:=Aa (o:=0) hb4 rfl;have k8:=Aa (o:=1) hb4 rfl
 go_cut [9] (fun v9 wx=>∃sh,v9=.bool sh/\sh=ZL a b c d/\wx=W)
 case first=>
  cases e1:Aq a c
  ·cases e2:Aq a d
   ·cases e3:Aq b c
    ·cases e4:Aq b d
     ·go_wp2;go_meet;exact⟨_,rfl,by rw [Qp.out,e1,e2,e3,e4];rfl,rfl⟩
     ·go_wp2;go_meet;exact⟨_,rfl,by rw [Qp.out,e1,e2,e3,e4];rfl,rfl⟩
    ·go_wp2;go_meet;exact⟨_,rfl,by rw [Qp.out,e1,e2,e3];rfl,rfl⟩
   ·go_wp2;go_meet;exact⟨_,rfl,by rw [Qp.out,e1,e2];rfl,rfl⟩
  ·go_wp2;go_meet;exact⟨_,rfl,by rw [Qp.out,e1];rfl,rfl⟩
 case rest=>
  obtain⟨sh,rfl,R7,rfl⟩:=hcut;have K2:=Asx R7;clear R7 Qp;have C0:=hw.ext hE
  go_upto_region 3 with fail
  go_loopw [47] (fun i wr=>∃j:Nat,i=.int .i64 (j:Nat)/\j<=4/\(∀t∈(Jy a b c d).take j,LJ t.1 t.2.1 t.2.2=false)/\Ab wc wr) (fun i _=>4-(intOf i).toNat)
  case atStart=>exact⟨0,rfl,by omega,by simp,Ab.refl _⟩
  case round=>
   obtain⟨j,rfl,hj,Ai,Ae⟩:=hrel;have HO:=Asx Ai;clear Ai;by_cases hlt:j<4
   ·obtain⟨x,y,z,hix,EU,zx,zy,zz⟩:=YU hlt;have RV:=pI x y z zx zy zz hk hk2;have HX:=Asx (show LJ x y z=(FY x y z&&(!Aq z x && !Aq z y))from rfl);have HG:=Asx EU;have hj0:(j:Int)<4:=(by omega);unfold Af at RV;clear EU YU zx zy zz t1 t2 t3 t4 r1 r2 r3 r4 k1 k2 k3 k4 k5 k6 k7 k8 hb1 hb2 hb3 hb4
    go_upto_region 5 with fail
    have D1:=Asz wr (.cells #[S (R x.x),S (R x.y),S (R y.x),S (R y.y),S (R z.x),S (R z.y)] 164);have FC:=Ae.alloc (.cells #[S (R x.x),S (R x.y),S (R y.x),S (R y.y),S (R z.x),S (R z.y)] 164);generalize wr.alloc (.cells #[S (R x.x),S (R x.y),S (R y.x),S (R y.y),S (R z.x),S (R z.y)] 164)=V at *;obtain⟨bv,ju⟩:=Asw wr.heap.size;rw [←ju]at D1 ⊢;clear ju;have s1:=Aa (o:=0) D1 rfl;have s2:=Aa (o:=1) D1 rfl;have s3:=Aa (o:=2) D1 rfl;have s4:=Aa (o:=3) D1 rfl;have s5:=Aa (o:=4) D1 rfl;have s6:=Aa (o:=5) D1 rfl;(go_wp2_with fail);(with_reducible refine(RV _ (C0.ext FC)).mono ?_);rintro e w1 ⟨rfl,hx1⟩;have Cp:=(hx1.block _ (Asy D1)).trans D1;have hxb:=FC.trans hx1;have q1:=Aa (o:=0) Cp rfl;have q2:=Aa (o:=1) Cp rfl;have q3:=Aa (o:=2) Cp rfl;have q4:=Aa (o:=3) Cp rfl;have q5:=Aa (o:=4) Cp rfl;have q6:=Aa (o:=5) Cp rfl;clear s1 s2 s3 s4 s5 s6 D1 hx1 FC RV Cp
    have hgo:LJ x y z=false→∀t∈(Jy a b c d).take (j+1),LJ t.1 t.2.1 t.2.2=false:=by
     intro h0 t ht;have hl:j<(Jy a b c d).length:=hlt;rw [As3 hl]at ht
     rcases List.mem_append.1 ht with h|h
     ·exact HO.out t h
     ·have e0:(Jy a b c d)[j]=(x,y,z):=Option.some.inj ((As5 hl).symm.trans HG.out);rw [e0,AsC]at h;rw [h];exact h0
    have hst:LJ x y z=true→r=true:=by
     intro h0;rw [HR.out];unfold Oy;rw [Bool.or_eq_true]
     left
     rw [List.any_eq_true];exact⟨(x,y,z),List.mem_of_getElem? HG.out,h0⟩
    have aO:=Asx hgo;have HST:=Asx hst;clear hgo hst
    cases e0:FY x y z
    ·have HE:=Asx e0;clear e0;go_wp2;go_roundw
     case rel=>exact⟨j+1,by go_num,by omega,aO.out (by rw [HX.out,HE.out];rfl),hxb⟩
     case measure=>simp [intOf];omega
    ·cases e1:Aq z x
     ·cases e2:Aq z y
      ·have HE:=Asx (And.intro e0 (And.intro e1 e2));have hrt:r=true:=HST.out (by rw [HX.out,e0,e1,e2];rfl);subst hrt;go_wp2;go_ret;exact⟨rfl,hE.trans hxb⟩
      ·have HE:=Asx (And.intro e0 (And.intro e1 e2));go_wp2;go_roundw
       case rel=>exact⟨j+1,by go_num,by omega,aO.out (by rw [HX.out,HE.out.1,HE.out.2.1,HE.out.2.2];rfl),hxb⟩
       case measure=>simp [intOf];omega
     ·have HE:=Asx (And.intro e0 e1);go_wp2;go_roundw
      case rel=>exact⟨j+1,by go_num,by omega,aO.out (by rw [HX.out,HE.out.1,HE.out.2];rfl),hxb⟩
      case measure=>simp [intOf];omega
   ·have hle:(4:Int)<=(j:Int):=(by omega);obtain rfl:j=4:=by omega
    have hno:(Jy a b c d).any (fun t=>LJ t.1 t.2.1 t.2.2)=false:=by rw [List.any_eq_false];intro t ht;rw [HO.out t (by rw [As8 (by simp [Jy])];exact ht)];simp
    have H9:r=(!sh&&Sf a b c d):=(by rw [HR.out,K2.out];unfold Oy;rw [hno];rfl);have bI:=Asx H9;replace hb1:=(Ae.block _ (Asy hb1)).trans hb1;replace hb2:=(Ae.block _ (Asy hb2)).trans hb2;replace hb3:=(Ae.block _ (Asy hb3)).trans hb3;replace hb4:=(Ae.block _ (Asy hb4)).trans hb4;replace hE:=hE.trans Ae;clear k1 k2 k3 k4 k5 k6 k7 k8 hno H9 HO K2 C0 Ae YU
    cases sh
    ·have k1:∀p:Ac wr,p.w.cell? ⟨ba,0,none⟩=some (S (R a.x)):=Ac.cell (Aa hb1 rfl);have k2:∀p:Ac wr,p.w.cell? ⟨ba,1,none⟩=some (S (R a.y)):=Ac.cell (Aa hb1 rfl);have k3:∀p:Ac wr,p.w.cell? ⟨ba+1,0,none⟩=some (S (R b.x)):=Ac.cell (Aa hb2 rfl);have k4:∀p:Ac wr,p.w.cell? ⟨ba+1,1,none⟩=some (S (R b.y)):=Ac.cell (Aa hb2 rfl);have k5:∀p:Ac wr,p.w.cell? ⟨ba+1+1,0,none⟩=some (S (R c.x)):=Ac.cell (Aa hb3 rfl);have k6:∀p:Ac wr,p.w.cell? ⟨ba+1+1,1,none⟩=some (S (R c.y)):=Ac.cell (Aa hb3 rfl);have k7:∀p:Ac wr,p.w.cell? ⟨ba+1+1+1,0,none⟩=some (S (R d.x)):=Ac.cell (Aa hb4 rfl);have k8:∀p:Ac wr,p.w.cell? ⟨ba+1+1+1,1,none⟩=some (S (R d.y)):=Ac.cell (Aa hb4 rfl);have hwr:=hw.ext hE;have IB:r=Sf a b c d:=(by rw [bI.out];simp);rw [HP.out]at IB;unfold Ly at IB;generalize AN (Am a b c)=u1 at *;generalize AN (Am a b d)=u2 at *;generalize AN (Am c d a)=u3 at *;generalize AN (Am c d b)=u4 at *;obtain⟨Zg,TU⟩:=Asw (u1*u2);obtain⟨m34,TV⟩:=Asw (u3*u4)
     have Cu:IntKind.i64.wrap (u1*u2)=Zg:=by
      rw [TU];clear TU TV IB;obtain rfl|rfl|rfl:u1 = -1∨u1=0∨u1=1:=by omega
      all_goals (obtain rfl|rfl|rfl:u2 = -1∨u2=0∨u2=1:=by omega)
      all_goals rfl
     have w34:IntKind.i64.wrap (u3*u4)=m34:=by
      rw [TV];clear TU TV IB;obtain rfl|rfl|rfl:u3 = -1∨u3=0∨u3=1:=by omega
      all_goals (obtain rfl|rfl|rfl:u4 = -1∨u4=0∨u4=1:=by omega)
      all_goals rfl
     rw [←TU,←TV]at IB;clear hb1 hb2 hb3 hb4 r1 r2 r3 r4 bI HP TU TV;by_cases n1:Zg<0
     ·have d1:decide (Zg<0)=true:=decide_eq_true n1;rw [d1,Bool.true_and]at IB;have HRP:=Asx IB;clear IB n1
      go_upto_region 8 with fail
      refine Bh (by kernel_rfl) (by kernel_rfl) ?_
      repeat (go_big_quiet_step (first|(with_reducible refine EN (t1 _ (hwr.ext (Ac.h _))))|(with_reducible refine EN (t2 _ (hwr.ext (Ac.h _))))|(with_reducible refine EN (t3 _ (hwr.ext (Ac.h _))))|(with_reducible refine EN (t4 _ (hwr.ext (Ac.h _))))))
      refine wpQuiet_nil ?_;rintro _ ⟨p,rfl⟩;go_wp2;go_ret;exact⟨by rw [HRP.out];rfl,hE.trans p.h⟩
     ·have d1:decide (Zg<0)=false:=decide_eq_false n1;rw [d1,Bool.false_and]at IB;subst IB;clear t3 t4 n1
      go_upto_region 8 with fail
      refine Bh (by kernel_rfl) (by kernel_rfl) ?_
      repeat (go_big_quiet_step (first|(with_reducible refine EN (t1 _ (hwr.ext (Ac.h _))))|(with_reducible refine EN (t2 _ (hwr.ext (Ac.h _))))|(with_reducible refine EN (t3 _ (hwr.ext (Ac.h _))))|(with_reducible refine EN (t4 _ (hwr.ext (Ac.h _))))))
      refine wpQuiet_nil ?_;rintro _ ⟨p,rfl⟩;go_wp2;go_ret;exact⟨rfl,hE.trans p.h⟩
    ·have hrt:r=false:=(by rw [bI.out];rfl);subst hrt
     go_upto_region 8 with fail
     refine Bh (by kernel_rfl) (by kernel_rfl) ?_
     repeat (go_big_quiet_step (first|(with_reducible refine EN (t1 _ (hwr.ext (Ac.h _))))|(with_reducible refine EN (t2 _ (hwr.ext (Ac.h _))))|(with_reducible refine EN (t3 _ (hwr.ext (Ac.h _))))|(with_reducible refine EN (t4 _ (hwr.ext (Ac.h _))))))
     refine wpQuiet_nil ?_;rintro _ ⟨p,rfl⟩;go_wp2;go_ret;exact⟨rfl,hE.trans p.h⟩
def CW(l:List Pt)(p:Pt):Int:=match l.findIdx? (Aq p)with|some j=>(j:Int)|none=>-1
theorem xk{l:List Pt}{p:Pt}{j:Nat}(hj:j<l.length)(hno:∀q∈l.take j,Aq p q=false)(h:Aq p l[j]=true):CW l p=(j:Int):=by
 unfold CW
 have:l.findIdx? (Aq p)=some j:=by rw [List.findIdx?_eq_some_iff_getElem];refine⟨hj,h,fun i hi=>?_⟩;rw [Bool.not_eq_true];refine hno l[i] ?_;rw [List.mem_take_iff_getElem];exact⟨i,by omega,rfl⟩
 rw [this]
theorem xm{l:List Pt}{p:Pt}(hno:∀q∈l,Aq p q=false):CW l p = -1:=by
 unfold CW
 have:l.findIdx? (Aq p)=none:=by rw [List.findIdx?_eq_none_iff];exact hno
 rw [this]
theorem Ak4(l:List Pt)(p:Pt):decide (0<=CW l p)=l.any (Aq p):=by
 unfold CW
 cases h:l.findIdx? (Aq p)with
 | none=>
  rw [List.findIdx?_eq_none_iff]at h
  symm
  simp only [Int.reduceNeg,Int.reduceLE,decide_false,List.any_eq_false];intro x hx;rw [h x hx];simp
 | some j=>
  rw [List.findIdx?_eq_some_iff_getElem]at h;obtain⟨hj,h1,_⟩:=h;rw [decide_eq_true (by simp)]
  symm
  rw [List.any_eq_true];exact⟨_,As1 hj,h1⟩
theorem YX(l:List Pt)(p:Pt)(A:Option Addr)(c:Nat)(w:World)(hr:Ad w A (flat (Ag l)))(hc:l.length<=c)(hcm:c<=9223372036854775807) :
  Calls Tryz.prog 75 #[.slice A l.length c,Af p] w (AI (CW l p) w):=by
 have pe:=PY;have hb0:=Asz w (.cells #[S (R p.x),S (R p.y)] 24);have hE:=(Ab.refl w).alloc (.cells #[S (R p.x),S (R p.y)] 24);obtain⟨r,hr0⟩:=Asw (CW l p);rw [←hr0];have HR:=Asx hr0;unfold Af;clear hr0;go_enter Tryz.func75,Tryz.ntmps75
 go_upto_region 2 with fail
 generalize w.alloc (.cells #[S (R p.x),S (R p.y)] 24)=V at *;obtain⟨bp,Ap⟩:=Asw w.heap.size;rw [←Ap]at hb0 ⊢;clear Ap
 go_loopw [8] (fun i wr=>∃j:Nat,i=.int .i64 (j:Nat)/\j<=l.length/\(∀q∈l.take j,Aq p q=false)/\Ab V wr) (fun i _=>l.length-(intOf i).toNat)
 case atStart=>exact⟨0,rfl,by omega,by simp,Ab.refl _⟩
 case round=>
  obtain⟨j,rfl,hj,Ai,Ae⟩:=hrel;have HO:=Asx Ai;clear Ai;have hbr:=(Ae.block _ (Asy hb0)).trans hb0;have s1:=Aa (o:=0) hbr rfl;have s2:=Aa (o:=1) hbr rfl;clear hbr;by_cases hlt:j<l.length
  ·obtain⟨b,o,rfl,hg1,hg2⟩:=BN (hr.ext (hE.trans Ae)) hlt;obtain⟨q,hq⟩:=Asw (l[j]);rw [←hq]at hg1 hg2;have hj0:(0:Int)<=(j:Int):=(by omega);have Ay:(j:Int)<(l.length:Int):=(by omega);have HQ:=Asx hq;clear hq
   cases e0:Aq p q
   ·have HE:=Asx e0
    go_upto_region 4 with fail
    go_quiet (fail)
    go_wp2;go_roundw
    case rel=>
     refine⟨j+1,by go_num,hlt,?_,Ae.drewN _⟩;intro x hx;rw [As3 hlt,←HQ.out]at hx
     rcases List.mem_append.1 hx with h|h
     ·exact HO.out x h
     ·simp only [AsC]at h;rw [h];exact HE.out
    case measure=>simp [intOf];omega
   ·have CZ:r=(j:Int):=(by rw [HR.out];exact xk hlt HO.out (by rw [←HQ.out];exact e0));subst CZ
    go_upto_region 4 with fail
    go_quiet (fail)
    go_wp2;go_ret;exact⟨rfl,(hE.trans Ae).drewN _⟩
  ·have hle:(l.length:Int)<=(j:Int):=(by omega);have CZ:r = -1:=(by rw [HR.out];exact xm (by have:=HO.out;rw [As8 (by omega)]at this;exact this));subst CZ;clear s1 s2;go_wp2;go_ret;exact⟨rfl,hE.trans Ae⟩
theorem contains_c(l:List Pt)(p:Pt)(A:Option Addr)(c:Nat)(w:World)(hr:Ad w A (flat (Ag l)))(hc:l.length<=c)(hcm:c<=9223372036854775807) :
  Calls Tryz.prog 48 #[.slice A l.length c,Af p] w (BP (l.any (Aq p)) w):=by
 have hE:=(Ab.refl w).alloc (.cells #[S (R p.x),S (R p.y)] 24);have ix:=YX l p A c (w.alloc (.cells #[S (R p.x),S (R p.y)] 24)) (hr.ext hE) hc hcm;have ha:=Ak4 l p;obtain⟨r,hr0⟩:=Asw (l.any (Aq p));rw [←hr0]at ha ⊢;generalize CW l p=z at *;unfold Af at ix ⊢;clear hr hr0;go_enter Tryz.func48,Tryz.ntmps48;(go_wp2_with fail);(with_reducible refine ix.mono ?_);rintro e w1 ⟨rfl,hx⟩;go_wp2;go_ret;exact⟨by rw [←ha];rfl,hE.trans hx⟩
/-! ### Edges -/
structure EdZ where
 f:Int
 t:Int
 l:Int
 r:Int
def IZ(e:EdZ):Value:=.agg #[.int .i64 e.f,.int .i64 e.t,.int .i64 e.l,.int .i64 e.r]
def Ar(l:List EdZ):List Value:=l.flatMap (fun e=>[.int .i64 e.f,.int .i64 e.t,.int .i64 e.l,.int .i64 e.r])
theorem Ny(l:List EdZ):(Ar l).length=l.length*4:=by
 induction l with
 | nil=>rfl
 | cons e l ih=>unfold Ar at *;simp only [List.flatMap_cons,List.length_append,ih,List.length_cons,List.length_nil];omega
theorem Nw:∀(l:List EdZ) (j:Nat) (h:j<l.length),(Ar l)[j*4]?=some (.int .i64 l[j].f)/\(Ar l)[j*4+1]?=some (.int .i64 l[j].t)/\(Ar l)[j*4+2]?=some (.int .i64 l[j].l)/\(Ar l)[j*4+3]?=some (.int .i64 l[j].r)
 | e::l,0,_=>⟨rfl,rfl,rfl,rfl⟩
 | e::l,j+1,h=>by
  have ih:=Nw l j (by simpa using h);have e0:Ar (e::l)=.int .i64 e.f :: .int .i64 e.t :: .int .i64 e.l :: .int .i64 e.r::Ar l:=rfl;rw [e0];have e1:(j+1)*4=j*4+1+1+1+1:=(by omega);rw [e1]
  simpa using ih
theorem MD{w:World}{A:Option Addr}{l:List EdZ}(hr:Ad w A (Ar l)){j:Nat}(h:j<l.length):∃b o,A=some ⟨b,o,none⟩/\w.cell? ⟨b,o+j*4,none⟩=some (.int .i64 l[j].f)/\w.cell? ⟨b,o+j*4+1,none⟩=some (.int .i64 l[j].t)/\w.cell? ⟨b,o+j*4+2,none⟩=some (.int .i64 l[j].l)/\w.cell? ⟨b,o+j*4+3,none⟩=some (.int .i64 l[j].r):=by
 have hl:=Ny l;obtain⟨b,o,e,hcs⟩:=hr.ad (by omega);obtain⟨f1,f2,f3,f4⟩:=Nw l j h;have g1:=hcs (j*4) (by omega);have g2:=hcs (j*4+1) (by omega);have g3:=hcs (j*4+2) (by omega);have g4:=hcs (j*4+3) (by omega);rw [As5 (by omega),As4]at f1 f2 f3 f4;rw [f1]at g1;rw [f2,←Nat.add_assoc]at g2;rw [f3,←Nat.add_assoc]at g3;rw [f4,←Nat.add_assoc]at g4;exact⟨b,o,e,g1,g2,g3,g4⟩
theorem Aoi{P:Program}{w:World}(ts:Array TypeId)(t:TypeId)(k:IntKind)(a b:Int):(Builtin.min_ ts t #[.int k a,.int k b]).run P w=.ok (.int k (min a b)) w:=by
 have m:∀x y:Int,(if y<x then y else x)=min x y:=(by intro x y;split<;>omega);simp only [Builtin.min_,List.foldlM_cons,List.foldlM_nil,Builtin.min2];simp [m]
theorem Aog{P:Program}{w:World}(ts:Array TypeId)(t:TypeId)(k:IntKind)(a b:Int):(Builtin.max_ ts t #[.int k a,.int k b]).run P w=.ok (.int k (max a b)) w:=by
 have m:∀x y:Int,(if y>x then y else x)=max x y:=(by intro x y;split<;>omega);simp only [Builtin.max_,List.foldlM_cons,List.foldlM_nil,Builtin.max2];simp [m]
def Gk(f e:EdZ):Bool:=(decide (f.f=e.f)&&decide (f.t=e.t))||(decide (f.f=e.t)&&decide (f.t=e.f))
theorem AgT(f e:EdZ)(b:Nat)(t:TypeId)(w:World)(hb:w.heap[b]?=some (.cells #[.int .i64 e.f,.int .i64 e.t,.int .i64 e.l,.int .i64 e.r] t)) :
  Calls Tryz.prog 101 #[IZ f,.pointer (some ⟨b,0,none⟩)] w (BP (Gk f e) w):=by
 have k1:=Aa (o:=0) hb rfl;have k2:=Aa (o:=1) hb rfl;have hx:=(Ab.refl w).alloc (.cells #[.int .i64 f.f,.int .i64 f.t,.int .i64 f.l,.int .i64 f.r] 51);have j1:=hx.cellS k1;have j2:=hx.cellS k2;obtain⟨r,hr⟩:=Asw (Gk f e);rw [←hr];have HR:=Asx hr;have H9:r=((f.f == e.f)&&(f.t == e.t)||(f.f == e.t)&&(f.t == e.f)):=hr;unfold IZ;clear hr hb k1 k2 HR
 cases h1:(f.f == e.f)<;>cases h2:(f.t == e.t)<;>cases h3:(f.f == e.t)<;>cases h4:(f.t == e.f)
 all_goals (
  rw [h1,h2,h3,h4]at H9;have HH:=Asx H9;clear H9;go_enter Tryz.func101,Tryz.ntmps101;go_wp2;go_ret
  exact⟨by rw [HH.out];rfl,hx⟩)
def Fg(n:Nat)(z:Int):Bool:=decide (-1<=z)&&decide (z<(n:Int))
theorem AbU(z:Int)(b n g:Nat)(F:Option Addr)(v0 v1:Value)(t:TypeId)(w:World)(hb:w.heap[b]?=some (.cells #[v0,v1,.slice F n g] t)) :
  Calls Tryz.prog 99 #[.int .i64 z,.pointer (some ⟨b,0,none⟩)] w (BP (Fg n z) w):=by
 have k1:=Aa (o:=2) hb rfl;obtain⟨r,hr⟩:=Asw (Fg n z);rw [←hr];have HR:=Asx hr;clear hr hb;by_cases h1:-1<=z
 ·have d1:decide (-1<=z)=true:=decide_eq_true h1;by_cases h2:z<(n:Int)
  ·have d2:decide (z<(n:Int))=true:=decide_eq_true h2;have HH:=Asx (show r=true by rw [HR.out];unfold Fg;rw [d1,d2];rfl);go_enter Tryz.func99,Tryz.ntmps99;go_wp2;go_ret;exact⟨by rw [HH.out];rfl,Ab.refl _⟩
  ·have d2:decide (z<(n:Int))=false:=decide_eq_false h2;have HH:=Asx (show r=false by rw [HR.out];unfold Fg;rw [d1,d2];rfl);clear h2;go_enter Tryz.func99,Tryz.ntmps99;go_wp2;go_ret;exact⟨by rw [HH.out];rfl,Ab.refl _⟩
 ·have d1:decide (-1<=z)=false:=decide_eq_false h1;have HH:=Asx (show r=false by rw [HR.out];unfold Fg;rw [d1];rfl);clear h1;go_enter Tryz.func99,Tryz.ntmps99;go_wp2;go_ret;exact⟨by rw [HH.out];rfl,Ab.refl _⟩
end Go.Proofs.YtnddllipjippnaaGreatDoor
