/- Z30: H8 H9 K1 T1 K2 K3. -/
import Derived.Test.YtdaefncphfeaeaaGreatDoorZ27
set_option maxRecDepth 100000
set_option maxHeartbeats 16000000
namespace Go.Proofs.YtdaefncphfeaeaaGreatDoor
open Go.RowKit Kl
theorem AjY(x y:Int)(hx:Av x)(hy:Av y)(w:World)(hw:Ai w):Calls Tryz.prog 75 #[S (I x),S (I y)] w (A0 (I (x-y)) w):=by
 have hn:=P6 y hy;have ha:=NS x (-y) hx hy.neg;rw [←Int.sub_eq_add_neg]at ha;clear hx hy;go_enter Tryz.func75,Tryz.ntmps75;(go_wp2_with fail);(with_reducible refine(hn _).mono ?_);rintro e w1 ⟨rfl,hx1⟩;(go_wp2_with fail);(with_reducible refine(ha _ (hw.ext hx1)).mono ?_);rintro e w2 ⟨rfl,hx2⟩;go_wp2;go_ret;exact⟨rfl,hx1.trans hx2⟩
def Xg(nm:Pt)(st:Rat)(q:Pt):Rat:=(nm.x*q.x+nm.y*q.y)/st
def BG(nm:Pt)(st:Rat)(p:List Pt):List Rat:=p.map (Xg nm st)
def IJ(l:List Rat):Int:=(CP BE l).floor+1
def KT(l:List Rat):Int:=-((-(CP BD l)).floor+1)
def EN(l:List Rat)(k:Int):List Rat:=l.map fun d=>d-(k:Rat)
def Kn(p:List Pt)(l:List Rat)(k:Int):Sg:=⟨CO Fy (Cq p (EN l k) p.length),CO Fx (Cq p (EN l k) p.length)⟩
def J7(p:List Pt)(l:List Rat)(lo:Int)(n:Nat):List Sg:=(List.range n).map fun (i:Nat)=>Kn p l (lo+(i:Int))
theorem AnO(p:List Pt)(l:List Rat)(lo:Int)(n:Nat):J7 p l lo (n+1)=J7 p l lo n ++ [Kn p l (lo+(n:Int))]:=by unfold J7;rw [List.range_succ,List.map_append];rfl
def cO(L:List Sg)(w:World)(e:Ending)(w':World):Prop:=
 ∃A c,e=.returned (.tuple #[.slice A L.length c,.int .i64 0])/\Am w' A (Cb L)/\L.length<=c/\c<=9223372036854775807/\Aa w w'
structure rR(p:List Pt)(B:List Rat)(kb kd km ko:Nat):Prop where
 zb:∀q∈B,Sz kb q
 zd:∀i<p.length,Sz kd (bx B i-bx B ((i+1)%p.length))
 zm:∀i<p.length,Sz km (PM B i ((i+1)%p.length))
 on:Cq p B p.length≠[]
 zo:∀q∈Cq p B p.length,Aq ko q
structure rN(p:List Pt)(nm:Pt)(st:Rat)(kz kb kd km ko:Nat):Prop where
 poly:cJ p
 zp:∀q∈p,Aq kz q
 zn:Aq kz nm
 zs:Sz kz st
 st0:0<st
 nz:nm.x≠0∨nm.y≠0
 lo:-1000000000<=IJ (BG nm st p)
 lo':IJ (BG nm st p)<=1000000000
 hi:-1000000000<=KT (BG nm st p)
 hi':KT (BG nm st p)<=1000000000
 cnt:KT (BG nm st p)-IJ (BG nm st p)+1<=200
 line:∀k,IJ (BG nm st p)<=k→k<=KT (BG nm st p)→rR p (EN (BG nm st p) k) kb kd km ko
 kz0:0<kz
 kz1:kz<=100
 kb0:0<kb
 kb1:kb<=1000
 kd0:0<kd
 kd1:kd<=1000
 km0:0<km
 km1:3*kz+km<=3900
 ko0:0<ko
 ko1:ko<=200
theorem wR(f:Rat→Rat→Rat)(hf:∀x y,f x y=x∨f x y=y){l:List Rat}(h0:0<l.length){k:Nat}(hz:∀q∈l,Sz k q):Sz k (CP f l):=by
 match l,h0 with
 | x::t,_=>
  rcases Xn f hf t x with h|h
  ·show Sz k (t.foldl f x);rw [h];exact hz x (List.mem_cons_self ..)
  ·exact hz _ (List.mem_cons_of_mem _ h)
theorem wP(f:Pt→Pt→Pt)(hf:∀x y,f x y=x∨f x y=y){l:List Pt}(h0:0<l.length){k:Nat}(hz:∀q∈l,Aq k q):Aq k (CO f l):=by
 match l,h0 with
 | x::t,_=>
  rcases Xm f hf t x with h|h
  ·show Aq k (t.foldl f x);rw [h];exact hz x (List.mem_cons_self ..)
  ·exact hz _ (List.mem_cons_of_mem _ h)
theorem Adz(p:List Pt)(nm:Pt)(st:Rat){kz kb kd km ko:Nat}(H:rN p nm st kz kb kd km ko)(A:Option Addr)(c:Nat)(w:World)(hw:Ai w)(hr:Am w A (flat (AI p)))(hc:p.length<=c)(hcm:c<=9223372036854775807) :
  Calls Tryz.prog 24 #[.slice A p.length c,Ak nm,S (R st)] w (cO (J7 p (BG nm st p) (IJ (BG nm st p)) (KT (BG nm st p)-IJ (BG nm st p)+1).toNat) w):=by
 have h3:=H.poly.n3;have eO:=H.poly.n60;have ck:=fun w hw hr=>Amg p H.poly H.zp H.kz0 (by have:=H.kz1;omega) A c w hw hr hc hcm;have mE:∀q∈[nm],Aq kz q:=(by intro q hq;rw [Ass]at hq;rw [hq];exact H.zn);have pc:=Aaj (FW nm) true (by simp only [true_iff];exact Vl mE H.kz0 (by have:=H.kz1;omega)) (V9 mE H.kz0 (by have:=H.kz1;omega));have rc:=Aau (R st) (PP H.zs H.kz0 (by have:=H.kz1;omega));have Au:EK (R st):=Li H.zs H.kz0 (by have:=H.kz1;omega);simp only [Au,decide_true]at rc;rw [GA]at rc pc;have sg:=Lo st;rw [ZT H.st0]at sg;have HH:=Asb H;obtain⟨L,hL⟩:=AcG (J7 p (BG nm st p) (IJ (BG nm st p)) (KT (BG nm st p)-IJ (BG nm st p)+1).toNat);rw [←hL];have HL:=Asb hL;have hx0:=(Aa.refl w).alloc (.cells #[S (R nm.x),S (R nm.y)] 35);have BJ:=Ase w (.cells #[S (R nm.x),S (R nm.y)] 35);unfold FW at pc
 dsimp only at pc
 unfold Ak;clear hL mE H Au;go_enter Tryz.func24,Tryz.ntmps24;(go_wp2_with fail);(with_reducible refine(ck _ (hw.ext hx0) (hr.ext hx0)).mono ?_);rintro e w1 ⟨rfl,hx1⟩;have Kh:=hx0.trans hx1;have JU:=(hx1.block _ (Asd BJ)).trans BJ;obtain⟨bn,I7⟩:=AcG w.heap.size;rw [←I7]at JU ⊢;clear I7 BJ hx0 hx1 ck;have k1:=Ab (o:=0) JU rfl;have k2:=Ab (o:=1) JU rfl;(go_wp2_with fail);(with_reducible refine(pc _ (hw.ext Kh)).mono ?_);rintro e w2 ⟨rfl,hx2⟩;have lV:=((Aa.refl w1).alloc (.cells #[S (R nm.x),S (R nm.y)] 35)).trans hx2;have LV:=(lV.block _ (Asd JU)).trans JU;have Ii:=Kh.trans lV;clear JU Kh lV hx2 k1 k2 pc;have k1:=Ab (o:=0) LV rfl;have k2:=Ab (o:=1) LV rfl;(go_wp2_with fail);(with_reducible refine(rc _ (hw.ext Ii)).mono ?_);rintro e w3 ⟨rfl,hx3⟩;have OZ:=(hx3.block _ (Asd LV)).trans LV;have si:=Ii.trans hx3;clear LV Ii hx3 k1 k2 rc;have k1:=Ab (o:=0) OZ rfl;have k2:=Ab (o:=1) OZ rfl
 go_upto_region 6 with fail
 go_cut [37] (fun v37 wx=>v37=.bool false/\wx=w3)
 case first=>
  have hnz:=HH.out.nz;by_cases Ep:nm.x=0
  ·have hny:=D4 (hnz.resolve_left (fun h=>h Ep));have Ajb:(R nm.x == [48])=true:=(by rw [Ep,G7];rfl);clear hnz Ep;go_wp2;go_meet;exact⟨rfl,rfl⟩
  ·have Ajb:=D4 Ep;clear hnz Ep;go_wp2;go_meet;exact⟨rfl,rfl⟩
 case rest=>
  obtain⟨rfl,rfl⟩:=hcut;(go_wp2_with fail);(with_reducible refine(sg _).mono ?_);rintro e w4 ⟨rfl,Af⟩;have Jm:=(Af.block _ (Asd OZ)).trans OZ;have YW:=si.trans Af;clear OZ si Af k1 k2 sg;go_wp2;have Kt:=Asb (show (BG nm st p).length=p.length by unfold BG;simp)
  go_loopw [9,52] (fun v i wr=>∃j:Nat,i=.int .i64 (j:Nat)/\j<=p.length/\wr.ownsRow w4.heap.size 33 1 v j (GP ((BG nm st p).take j))/\Aa w4 wr) (fun _ i _=>p.length-(intOf i).toNat)
  case atStart=>exact⟨0,rfl,by omega,⟨rfl,.inl ⟨rfl,rfl⟩⟩,Aa.refl _⟩
  case round=>
   obtain⟨j,rfl,hj,hown,Ac⟩:=hrel;by_cases hlt:j<p.length
   ·have hX:=YW.trans Ac;obtain⟨b,o,rfl,hg1,hg2⟩:=ZI (hr.ext hX) hlt;have IF:=HH.out.zp p[j] (Asg hlt);rw [←ZB]at IF;have Mq:=HH.out.zn;have hzs:=HH.out.zs;have hk0:=HH.out.kz0;have Bv:=HH.out.kz1
    have hst:(BG nm st p).take (j+1)=(BG nm st p).take j ++ [Xg nm st (px p j)]:=by rw [Asi (by rw [Kt.out];exact hlt)];simp [BG,ZB hlt]
    generalize px p j=q at *;have xp:=Io nm.x q.x (a:=kz) (b:=kz) ⟨Mq.x,IF.x,hk0,hk0,by omega⟩;have xq:=Io nm.y q.y (a:=kz) (b:=kz) ⟨Mq.y,IF.y,hk0,hk0,by omega⟩;have hz1:=Mq.x.mul IF.x;have hz2:=Mq.y.mul IF.y;have ad:=Ol (nm.x*q.x) (nm.y*q.y) (a:=kz+kz) (b:=kz+kz) ⟨hz1,hz2,by omega,by omega,by omega⟩;have dv:=PI (nm.x*q.x+nm.y*q.y) st (by have:=HH.out.st0;grind) (a:=kz+kz+(kz+kz)+1) (b:=kz) ⟨hz1.add hz2,hzs,by omega,hk0,by omega⟩;have N6:Xg nm st q=(nm.x*q.x+nm.y*q.y)/st:=rfl;rw [←N6]at dv;unfold GQ at dv;generalize Xg nm st q=d at *;generalize nm.x*q.x+nm.y*q.y=sm at *;generalize nm.x*q.x=m1 at *;generalize nm.y*q.y=m2 at *;have HST:=Asb hst;have hj0:(0:Int)<=(j:Int):=(by omega);have AG:(j:Int)<(p.length:Int):=(by omega);have jd:(p.length:Int)<=60:=(by omega);have hx1:=Ac.alloc (.cells #[S (R q.x),S (R q.y)] 35);have Dj:=Ase wr (.cells #[S (R q.x),S (R q.y)] 35);have hxx:=(Aa.refl wr).alloc (.cells #[S (R q.x),S (R q.y)] 35);have NH:=Ap hown hxx;have gW:=(hx1.block _ (Asd Jm)).trans Jm;have Apt:=Asb Jm;clear hst N6 IF Mq hzs hk0 Bv hz1 hz2 Jm
    go_upto_region 14 with fail
    clear hg1 hg2;generalize wr.alloc (.cells #[S (R q.x),S (R q.y)] 35)=U at *;obtain⟨bq,TJ⟩:=AcG wr.heap.size;rw [←TJ]at Dj ⊢;have hU:=hw.ext (YW.trans hx1);have hsz:=hx1.size;clear TJ hxx hown Ac hX;have c1:=Ab (o:=0) gW rfl;have c2:=Ab (o:=1) gW rfl;have c3:=Ab (o:=0) Dj rfl;have c4:=Ab (o:=1) Dj rfl;clear gW Dj
    go_region_held3 (fun w'=>w'.cell? ⟨bn,0,none⟩=some (S (R nm.x))/\w'.cell? ⟨bn,1,none⟩=some (S (R nm.y))/\w'.cell? ⟨bq,0,none⟩=some (S (R q.x))/\w'.cell? ⟨bq,1,none⟩=some (S (R q.y)))
     (go_keep)
     (first|((with_reducible refine(xp _ (hU.ext (Aa.refl U).drew)).mono ?_);rintro e w5 ⟨rfl,Ae⟩;have X5:Aa U w5:=(Aa.refl U).drew.trans Ae;have d1:=X5.cellS c1;have d2:=X5.cellS c2;have d3:=X5.cellS c3;have d4:=X5.cellS c4)|((with_reducible refine(xq _ (hU.ext X5)).mono ?_);rintro e w6 ⟨rfl,Ao⟩;have X6:Aa U w6:=X5.trans Ao;have f1:=X6.cellS c1;have f2:=X6.cellS c2;have f3:=X6.cellS c3;have f4:=X6.cellS c4)|((with_reducible refine(ad _ (hU.ext X6)).mono ?_);rintro e w7 ⟨rfl,Aj⟩;have X7:Aa U w7:=X6.trans Aj;have g1:=X7.cellS c1;have g2:=X7.cellS c2;have g3:=X7.cellS c3;have g4:=X7.cellS c4)|((with_reducible refine(dv _ (hU.ext X7)).mono ?_);rintro e w8 ⟨rfl,AE⟩;have X8:Aa U w8:=X7.trans AE;have l1:=X8.cellS c1;have l2:=X8.cellS c2;have l3:=X8.cellS c3;have l4:=X8.cellS c4))
    have Tq:=hx1.trans X8;have IC:=Ap NH X8;have NE:j<200000:=(by omega);have ET:=Tq.size;clear X5 X6 X7 X8 Ae Ao Aj AE d1 d2 d3 d4 f1 f2 f3 f4 g1 g2 g3 g4 l1 l2 l3 l4 c1 c2 c3 c4 NH hU hx1 xp xq ad dv
    go_wp2_with (at_builtin;go_loud (refine sP rfl _ _ rfl _ w4.heap.size u9 j ((BG nm st p).take j) rfl (Ap IC ((Aa.refl w8).alloc _)) NE d w8.heap.size (Ase w8 _) rfl (by simp;omega) ?_);intro v9 w9 BN Az)
    have HX9:=Asb (Az w4 (Tq.alloc _) (Asf _));clear Az;go_wp2;go_roundw
    case rel=>exact⟨j+1,by go_num,hlt,by rw [HST.out];exact BN,HX9.out⟩
    case measure=>simp [intOf];omega
   ·have BK:j=p.length:=(by omega);subst BK;have NN:(BG nm st p).take p.length=BG nm st p:=Aso (by rw [Kt.out];omega);rw [NN]at hown;have hX:=YW.trans Ac;have gV:=(Ac.block _ (Asd Jm)).trans Jm;obtain⟨A9,c9,rfl,AU,Bv,hk2⟩:=Am.of_own' (by omega) hown;have hwr:=hw.ext hX
    have N7:∀d∈BG nm st p,Sz 600 d:=by intro d hd;obtain⟨q,hq,rfl⟩:=List.mem_map.1 hd;have IF:=HH.out.zp q hq;exact(((HH.out.zn.x.mul IF.x).add (HH.out.zn.y.mul IF.y)).div HH.out.kz0 HH.out.zs).mono (by have:=HH.out.kz1;omega)
    have hlo:=HH.out.lo;have AqF:=HH.out.lo';have Yl:=HH.out.hi;have Aqx:=HH.out.hi';have TP:=HH.out.cnt;have TV:0<(BG nm st p).length:=(by rw [Kt.out];omega);have KU:=wR BE xm TV N7;have Jr:=wR BD xj TV N7;have mn:=AkW (BG nm st p) TV (k:=600) (by omega) (by omega) N7 A9 c9;have mx:=AkT (BG nm st p) TV (k:=600) (by omega) (by omega) N7 A9 c9;have jo:IJ (BG nm st p)=(CP BE (BG nm st p)).floor+1:=rfl;have iq:KT (BG nm st p) = -((-(CP BD (BG nm st p))).floor+1):=rfl;have Su:=HL.out;have AcB:=Asb HH.out.line;rw [Kt.out]at mn mx;generalize BG nm st p=ds at *;generalize CP BE ds=mi at *;generalize CP BD ds=ma at *;have wK:=nW mi (k:=600) (by omega) (by omega) KU;have yj:=Vt ma (k:=600) (by omega) (by omega) Jr;have wL:=nW (-ma) (k:=600) (by omega) (by omega) Jr.neg;generalize KT ds=hi at *;generalize IJ ds=lo at *;generalize mi.floor=f1 at *;generalize (-ma).floor=f2 at *;have B1:Av 1:=Av.small (by omega) (by omega);have O5:=NS f1 1 (Av.small (by omega) (by omega)) B1;rw [←jo]at O5;have Qi:=NS f2 1 (Av.small (by omega) (by omega)) B1;have mU:=P6 (f2+1) (Av.small (by omega) (by omega));rw [←iq]at mU;generalize f2+1=f3 at *;have blo:Av lo:=Av.small (by omega) (by omega);have tH:Av hi:=Av.small (by omega) (by omega);have sb:=AjY hi lo tH blo;have SC:=NS (hi-lo) 1 (Av.small (by omega) (by omega)) B1;have ym:=P7 200 (by omega) (by omega);have cp:=UO (hi-lo+1) 200 (Av.small (by omega) (by omega)) (Av.small (by omega) (by omega));obtain⟨z,hz,hz0⟩:∃z,z=Dt (hi-lo+1) 200/\z<=0:=⟨_,rfl,by unfold Dt;split<;>(try split)<;>omega⟩;rw [←hz]at cp;have HN:=Asb Su;obtain⟨cn,By⟩:=AcG (hi-lo+1);rw [←By]at cp HN SC;obtain⟨hl,ir⟩:=AcG (hi-lo);rw [←ir]at sb SC;have Sq:=Asb By;rw [Wm]at O5 Qi SC;have UY:=mn wr hwr AU Bv hk2;have Vb:=fun w' hx=>mx w' (hwr.ext hx) (AU.ext hx) Bv hk2;have HDZ:=Asb N7;have Acs:=Asb TP;clear N7 jo iq Su hz By ir mn mx KU Jr B1 TV TP hown Ac Jm hlt;(go_wp2_with fail);(with_reducible refine UY.mono ?_);rintro e w5 ⟨rfl,Ae⟩;have Rk:=hwr.ext Ae;(go_wp2_with fail);(with_reducible refine(wK _ Rk).mono ?_);rintro e w6 ⟨rfl,Ao⟩;replace Ao:=Ae.trans Ao;have NP:=hwr.ext Ao;(go_wp2_with fail);(with_reducible refine(O5 _ NP).mono ?_);rintro e w7 ⟨rfl,Aj⟩;replace Aj:=Ao.trans Aj;have hw7:=hwr.ext Aj;have xt:=Vb w7 Aj;(go_wp2_with fail);(with_reducible refine xt.mono ?_);rintro e w8 ⟨rfl,AE⟩;replace AE:=Aj.trans AE;have Py:=hwr.ext AE;(go_wp2_with fail);(with_reducible refine(yj _).mono ?_);rintro e w9 ⟨rfl,Az⟩;replace Az:=AE.trans Az;have Rl:=hwr.ext Az;(go_wp2_with fail);(with_reducible refine(wL _ Rl).mono ?_);rintro e FZ ⟨rfl,C4⟩;replace C4:=Az.trans C4;have Rh:=hwr.ext C4;(go_wp2_with fail);(with_reducible refine(Qi _ Rh).mono ?_);rintro e w11 ⟨rfl,hx11⟩;replace hx11:=C4.trans hx11;have UG:=hwr.ext hx11;(go_wp2_with fail);(with_reducible refine(mU _).mono ?_);rintro e Ff ⟨rfl,BB⟩;replace BB:=hx11.trans BB;have Ri:=hwr.ext BB;(go_wp2_with fail);(with_reducible refine(sb _ Ri).mono ?_);rintro e w13 ⟨rfl,IE⟩;replace IE:=BB.trans IE;have Rj:=hwr.ext IE;(go_wp2_with fail)
    (with_reducible refine(SC _ Rj).mono ?_);rintro e w14 ⟨rfl,hx14⟩;replace hx14:=IE.trans hx14;have UH:=hwr.ext hx14;(go_wp2_with fail);(with_reducible refine(ym _ UH).mono ?_);rintro e w15 ⟨rfl,P0⟩;replace P0:=hx14.trans P0;have AjC:=hwr.ext P0;(go_wp2_with fail);(with_reducible refine(cp _).mono ?_);rintro e Si ⟨rfl,Mn⟩;replace Mn:=P0.trans Mn;have lQ:=hwr.ext Mn;clear Ae Ao Aj AE Az C4 hx11 BB IE hx14 P0 Rk NP hw7 Py Rl Rh UG Ri Rj UH AjC Vb xt UY wK wL O5 Qi SC sb ym cp yj mU;go_wp2;have yY:=hX.trans Mn;have Ajl:=hr.ext yY;have Ajv:=AU.ext Mn;have Aqe:=Asb ((Mn.block _ (Asd gV)).trans gV);clear gV AU hX YW hwr Mn;obtain⟨cN,iL⟩:=AcG cn.toNat;rw [←iL]at HN;have aV:=Asb iL;clear iL
    go_loopg [17,18] cN (fun g v kv wr=>∃m:Nat,g+m=cN/\kv=S (I (lo+(m:Int)))/\wr.ownsRow Si.heap.size 74 4 v m (Cb (J7 p ds lo m))/\Aa Si wr)
    case atStart=>exact⟨0,by omega,by simp,⟨rfl,.inl ⟨rfl,rfl⟩⟩,Aa.refl _⟩
    case round=>
     obtain⟨m,JZ,rfl,hown,Ac⟩:=hrel;obtain⟨k,hk⟩:=AcG (lo+(m:Int):Int);rw [←hk];have NC:m<cN↔k<=hi:=(by have:=Sq.out;have:=aV.out;omega);have Aq4:-1000000001<=k:=(by omega);have jV:k<=1000000001:=(by have:=Sq.out;have:=aV.out;omega);have bk:Av k:=Av.small (by omega) (by omega);have cp:=UO k hi bk tH;by_cases hmc:m<cN
     ·obtain⟨z,hz,hz0⟩:∃z,z=Dt k hi/\z<=0:=⟨_,rfl,by have:=NC.1 hmc;unfold Dt;split<;>(try split)<;>omega⟩;rw [←hz]at cp;have hlk:lo<=k:=(by omega);have jw:=AcB.out k hlk (NC.1 hmc);have HLI:=Asb jw;have HK:=Asb hk;have HKM:=Asb NC;have bG:=Asb JZ;clear hz hk NC jw JZ;(go_wp2_with fail);(with_reducible refine(cp _).mono ?_);rintro e w17 ⟨rfl,hx17⟩;have mf:=Ap hown hx17;have xI:=Ac.trans hx17;have hzb:decide (z<=0)=true:=(by simp [hz0]);clear hown Ac hx17 cp;go_wp2
      (try simp only [hzb])
      clear hzb
      go_loopw [19,104] (fun v i wr=>∃j:Nat,i=.int .i64 (j:Nat)/\j<=p.length/\wr.ownsRow w17.heap.size 33 1 v j (GP ((EN ds k).take j))/\Aa w17 wr) (fun _ i _=>p.length-(intOf i).toNat)
      case atStart=>exact⟨0,rfl,by omega,⟨rfl,.inl ⟨rfl,rfl⟩⟩,Aa.refl _⟩
      case round=>
       obtain⟨j,rfl,hj,Ux,TY⟩:=hrel;by_cases hlt:j<p.length
       ·have fY:=xI.trans TY;obtain⟨b9,o9,rfl,hg1⟩:=ZH (Ajv.ext fY) (show j<ds.length by rw [Kt.out];exact hlt);have hzd:Sz 600 (bx ds j):=HDZ.out _ (by rw [WQ (by rw [Kt.out];exact hlt)];exact Asg _);have oO:=BS (bx ds j) (k:Rat) (a:=600) (b:=10) ⟨hzd,Sz.int (by omega) (by omega),by omega,by omega,by omega⟩;rw [Wr]at oO
        have hst:(EN ds k).take (j+1)=(EN ds k).take j ++ [bx ds j-(k:Rat)]:=by rw [Asi (by unfold EN;rw [List.length_map,Kt.out];exact hlt)];simp [EN,WQ (show j<ds.length by rw [Kt.out];exact hlt)]
        have HST:=Asb hst;generalize bx ds j=d at *;generalize d-(k:Rat)=dk at *;have hj0:(0:Int)<=(j:Int):=(by omega);have AG:(j:Int)<(p.length:Int):=(by omega);have jd:(p.length:Int)<=60:=(by omega);clear hst hzd;(go_wp2_with fail);(with_reducible refine(oO _ (lQ.ext fY)).mono ?_);rintro e w18 ⟨rfl,hx18⟩;have Aje:=Ap Ux hx18;have xJ:=TY.trans hx18;have AiQ:j<200000:=(by omega);have Arh:=xJ.size;clear Ux TY hx18 fY oO hg1
        go_wp2_with (at_builtin;go_loud (refine sP rfl _ _ rfl _ w17.heap.size u19 j ((EN ds k).take j) rfl (Ap Aje ((Aa.refl w18).alloc _)) AiQ dk w18.heap.size (Ase w18 _) rfl (by simp;omega) ?_);intro v19 w19 hown19 hx19)
        have Adp:=Asb (hx19 w17 (xJ.alloc _) (Asf _));clear hx19;go_wp2;go_roundw
        case rel=>exact⟨j+1,by go_num,hlt,by rw [HST.out];exact hown19,Adp.out⟩
        case measure=>simp [intOf];omega
       ·have BK:j=p.length:=(by omega);subst BK;have ql:(EN ds k).take p.length=EN ds k:=Aso (by unfold EN;rw [List.length_map,Kt.out];omega);rw [ql]at Ux;have jm:(EN ds k).length=p.length:=(by unfold EN;rw [List.length_map,Kt.out]);obtain⟨A19,c19,rfl,nl,_,_⟩:=Am.of_own' (by omega) Ux;have hE:=xI.trans TY;have lS:=lQ.ext hE;have mh:=Ap mf TY;have HI:=HLI.out;have hh:=AhJ p (EN ds k) jm (by omega) eO HH.out.zp HI.zb HI.zd HI.zm HI.on HI.zo HH.out.kz0 HH.out.kb0 HH.out.kd0 HH.out.km0 HH.out.ko0 HH.out.km1 HH.out.kb1 HH.out.kd1 (by have:=HH.out.ko1;omega) A A19 c c19 wr lS (Ajl.ext hE) nl;have U6:Kn p ds k=⟨CO Fy (Cq p (EN ds k) p.length),CO Fx (Cq p (EN ds k) p.length)⟩:=rfl;rw [←U6]at hh;have kM:0<(Cq p (EN ds k) p.length).length:=List.length_pos_iff.2 HI.on;have Ra:Aq ko (Kn p ds k).a:=wP Fy xl kM HI.zo;have KX:Aq ko (Kn p ds k).b:=wP Fx xi kM HI.zo
        have hz2:∀q∈[(Kn p ds k).a,(Kn p ds k).b],Aq ko q:=by
         intro q hq;simp only [List.mem_cons,Asr,or_false]at hq
         rcases hq with rfl|rfl
         ·exact Ra
         ·exact KX
        have Vp:=Aak (FW (Kn p ds k).a) (FW (Kn p ds k).b) true (by simp only [true_iff];exact Vl hz2 HH.out.ko0 HH.out.ko1) (V9 hz2 HH.out.ko0 HH.out.ko1);rw [GA]at Vp;have EH:J7 p ds lo (m+1)=J7 p ds lo m ++ [Kn p ds k]:=(by rw [AnO,←HK.out]);have PY:=Asb EH;generalize Kn p ds k=sg at *;have cY:=NS k 1 bk (Av.small (by omega) (by omega));rw [Wm]at cY;have je:k+1=lo+((m+1:Nat):Int):=(by rw [HK.out];omega);rw [je]at cY;unfold FW at Vp
        dsimp only at Vp
        unfold Ax at hh;have hmn:m<200000:=(by have:=bG.out;have:=Sq.out;have:=aV.out;have:=Acs.out;omega);clear Ra KX hz2 U6 kM HI EH je ql jm Ux nl mf hlt;(go_wp2_with fail);(with_reducible refine hh.mono ?_);rintro e w20 ⟨rfl,hx20⟩;clear hh;have xK:=hE.trans hx20;have mj:=Ap mh hx20;have ru:=lS.ext hx20;have gJ:=Ase w20 (.cells #[S (R sg.a.x),S (R sg.a.y),S (R sg.b.x),S (R sg.b.y)] 74);have lT:=(Aa.refl w20).alloc (.cells #[S (R sg.a.x),S (R sg.a.y),S (R sg.b.x),S (R sg.b.y)] 74);clear mh hx20 hE lS;have nK:=Vp (w20.alloc (.cells #[S (R sg.a.x),S (R sg.a.y),S (R sg.b.x),S (R sg.b.y)] 74)) (ru.ext lT);rw [Asn]at nK;(go_wp2_with fail);(with_reducible refine nK.mono ?_);rintro e w22 ⟨rfl,hx22⟩;have lU:=lT.trans (((Aa.refl _).alloc _).trans hx22);have XP:=((((Aa.refl _).alloc _).trans hx22).block _ (Asd gJ)).trans gJ;have eT:=xK.trans lU;have mg:=Ap mj lU;have Arj:=eT.size;have k1:=Ab (o:=0) XP rfl;have k2:=Ab (o:=1) XP rfl;have k3:=Ab (o:=2) XP rfl;have k4:=Ab (o:=3) XP rfl;clear Vp nK hx22 lU lT gJ mj xK ru
        go_wp2_with (at_builtin;go_loud (refine Aer rfl _ _ rfl _ Si.heap.size u17 m (J7 p ds lo m) rfl (Ap mg ((Aa.refl w22).alloc _)) hmn sg w22.heap.size (Ase w22 _) rfl (by simp;omega) ?_);intro v23 w23 hown23 UJ)
        have xM:=UJ Si (eT.alloc _) (Asf _);clear UJ mg eT;have AjD:=lQ.ext xM;(go_wp2_with fail);(with_reducible refine(cY _ AjD).mono ?_);rintro e w24 ⟨rfl,P1⟩;go_wp2
        go_roundg (gk-1)
        case measure=>have:=bG.out;omega
        case rel=>exact⟨m+1,by have:=bG.out;omega,rfl,by rw [PY.out];exact Ap hown23 P1,xM.trans P1⟩
     ·have hme:m=cN:=(by omega);obtain⟨z,hz,hz0⟩:∃z,z=Dt k hi/\0<z:=⟨_,rfl,by have:¬k<=hi:=fun h=>hmc (NC.2 h);unfold Dt;rw [if_neg (by omega),if_neg (by omega)];omega⟩;rw [←hz]at cp;subst hme;have hzb:decide (z<=0)=false:=(by simp;omega);have kA:(J7 p ds lo m).length=m:=(by unfold J7;simp);clear hz hk NC JZ hmc;obtain⟨pW,c17,rfl,hrS,hk3,hk4⟩:=Am.of_own' (by omega) hown;(go_wp2_with fail);(with_reducible refine(cp _).mono ?_);rintro e w17 ⟨rfl,hx17⟩;have hR:Hid (cO L w (.returned (.tuple #[.slice pW m c17,.int .i64 0])) w17):=Asb ⟨pW,c17,by rw [HN.out,kA],by rw [HN.out];exact hrS.ext hx17,by rw [HN.out,kA];exact hk3,hk4,yY.trans (Ac.trans hx17)⟩;clear kA;go_wp2;go_ret2;exact hR.out
instance decPt(p q:Pt):Decidable (p=q):=decidable_of_iff (p.x=q.x/\p.y=q.y) (by cases p;cases q;simp)
instance decSg(p q:Sg):Decidable (p=q):=decidable_of_iff (p.a=q.a/\p.b=q.b) (by cases p;cases q;simp)
def IS:List Pt:=[⟨0,0⟩,⟨4,0⟩,⟨4,4⟩,⟨0,4⟩]
theorem four{i:Nat}(h:i<4):i=0∨i=1∨i=2∨i=3:=by omega
theorem Aoo:cJ IS where
 n3:=by decide
 n60:=by decide
 turn:=by
  intro i n hi hn h1 h2
  rcases four hi with rfl|rfl|rfl|rfl<;>rcases four hn with rfl|rfl|rfl|rfl<;>(first|(exact absurd rfl h1)|(exact absurd rfl h2)|(clear h1 h2;decide +kernel +revert))
 less:=by
  intro n h;have:n<4:=by have:n+1<4:=h;omega
  rcases four this with rfl|rfl|rfl|rfl<;>(first|(exact absurd h (by decide))|decide +kernel +revert)
theorem PO:BG ⟨1,0⟩ 1 IS = [0,4,4,0]:=by decide +kernel
theorem VB:IJ [0,4,4,0]=1:=by decide +kernel
theorem VA:KT [0,4,4,0]=3:=by decide +kernel
theorem GT{q:Rat}(h:q.num.natAbs<10^2/\q.den<10^2):Sz 2 q:=⟨h.1,h.2⟩
theorem Aon(k:Int)(h1:1<=k)(h3:k<=3):Cq IS (EN [0,4,4,0] k) IS.length = [⟨k,0⟩,⟨k,4⟩]:=by
 have:k=1∨k=2∨k=3:=by omega
 rcases this with rfl|rfl|rfl<;>decide +kernel
theorem Aom(k:Int)(h1:1<=k)(h3:k<=3):rR IS (EN [0,4,4,0] k) 2 2 2 2:=by
 have hk:k=1∨k=2∨k=3:=(by omega);have Uv:=Aon k h1 h3;refine⟨?_,?_,?_,by rw [Uv];simp,?_⟩
 ·intro q hq;refine GT ?_
  revert q
  rcases hk with rfl|rfl|rfl<;>decide +kernel
 ·intro i hi;refine GT ?_
  rcases hk with rfl|rfl|rfl<;>rcases four hi with rfl|rfl|rfl|rfl<;>decide +kernel
 ·intro i hi;refine GT ?_
  rcases hk with rfl|rfl|rfl<;>rcases four hi with rfl|rfl|rfl|rfl<;>decide +kernel
 ·rw [Uv];intro q hq;simp only [List.mem_cons,Asr,or_false]at hq
  rcases hk with rfl|rfl|rfl<;>rcases hq with rfl|rfl<;>exact⟨GT (by decide +kernel),GT (by decide +kernel)⟩
theorem Aol:rN IS ⟨1,0⟩ 1 2 2 2 2 2 where
 poly:=Aoo
 zp:=by
  intro q hq;unfold IS at hq;simp only [List.mem_cons,Asr,or_false]at hq
  rcases hq with rfl|rfl|rfl|rfl<;>exact⟨GT (by decide +kernel),GT (by decide +kernel)⟩
 zn:=⟨GT (by decide +kernel),GT (by decide +kernel)⟩
 zs:=GT (by decide +kernel)
 st0:=by decide +kernel
 nz:=.inl (by decide +kernel)
 lo:=by rw [PO,VB];omega
 lo':=by rw [PO,VB];omega
 hi:=by rw [PO,VA];omega
 hi':=by rw [PO,VA];omega
 cnt:=by rw [PO,VB,VA];omega
 line:=by rw [PO,VB,VA];exact Aom
 kz0:=by omega
 kz1:=by omega
 kb0:=by omega
 kb1:=by omega
 kd0:=by omega
 kd1:=by omega
 km0:=by omega
 km1:=by omega
 ko0:=by omega
 ko1:=by omega
theorem Aoq:J7 IS (BG ⟨1,0⟩ 1 IS) (IJ (BG ⟨1,0⟩ 1 IS)) (KT (BG ⟨1,0⟩ 1 IS)-IJ (BG ⟨1,0⟩ 1 IS)+1).toNat = [⟨⟨1,0⟩,⟨1,4⟩⟩,⟨⟨2,0⟩,⟨2,4⟩⟩,⟨⟨3,0⟩,⟨3,4⟩⟩]:=by
 rw [PO,VB,VA]
 decide +kernel
theorem xz{part whole:Rat}{size:Nat}(h1:-20<=part)(h2:part<=20)(hw:1/2<=whole)(hs:size<=30):-1000000<=Fa part whole size/\Fa part whole size<=1000000:=by
 have hs0:(0:Rat)<=(size:Rat):=Rat.natCast_nonneg
 have hs1:(size:Rat)<=30:=by
  have:((size:Nat):Rat)<=((30:Nat):Rat):=by exact_mod_cast hs
  simpa using this
 have hw0:0<whole:=(by grind);have a1:part*(size:Rat)<=20*(size:Rat):=Rat.mul_le_mul_of_nonneg_right h2 hs0;have a2:(-20)*(size:Rat)<=part*(size:Rat):=Rat.mul_le_mul_of_nonneg_right h1 hs0
 have x1:part*(size:Rat)/whole<=2000:=by
  rw [←Rat.not_lt,Rat.lt_div_iff hw0,Rat.not_lt]
  grind
 have x2:-2000<=part*(size:Rat)/whole:=by
  rw [←Rat.not_lt,Rat.div_lt_iff hw0,Rat.not_lt]
  grind
 unfold Fa;generalize part*(size:Rat)/whole=x at *;constructor
 ·rw [Rat.le_floor_iff];have:((-1000000:Int):Rat) = -1000000:=(by rfl);rw [this];grind
 ·have:(x+1/2).floor<1000001:=by rw [Rat.floor_lt_iff];have:((1000001:Int):Rat)=1000001:=(by rfl);rw [this];grind
  omega
theorem zH(s:Int):(1/2:Rat)<=mkRat (1+s%12) 2/\mkRat (1+s%12) 2<=6:=by
 rw [Rat.mkRat_eq_div]
 have h1:(1:Rat)<=((1+s%12:Int):Rat):=by
  have:((1:Int):Rat)<=((1+s%12:Int):Rat):=Rat.intCast_le_intCast.2 (by omega)
  simpa using this
 have h2:((1+s%12:Int):Rat)<=12:=by
  have:((1+s%12:Int):Rat)<=((12:Int):Rat):=Rat.intCast_le_intCast.2 (by omega)
  simpa using this
 have e:((2:Nat):Rat)=2:=rfl;rw [e];generalize ((1+s%12:Int):Rat)=x at *;constructor<;>grind
theorem Ab5(a:Int)(h:-7<=a.tmod 8/\a.tmod 8<=7):(-7:Rat)<=((a.tmod 8:Int):Rat)/\((a.tmod 8:Int):Rat)<=7:=by
 constructor
 ·have:((-7:Int):Rat)<=((a.tmod 8:Int):Rat):=Rat.intCast_le_intCast.2 (by omega)
  simpa using this
 ·have:((a.tmod 8:Int):Rat)<=((7:Int):Rat):=Rat.intCast_le_intCast.2 (by omega)
  simpa using this
theorem zJ(u:Int)(h0:0<=u)(h1:u<=6):(0:Rat)<=(u:Rat)/2/\(u:Rat)/2<=3:=by
 have a:((0:Int):Rat)<=(u:Rat):=Rat.intCast_le_intCast.2 h0;have b:(u:Rat)<=((6:Int):Rat):=Rat.intCast_le_intCast.2 h1;have e0:((0:Int):Rat)=0:=rfl;have e6:((6:Int):Rat)=6:=rfl;rw [e0]at a;rw [e6]at b;constructor<;>grind
theorem Abb{p:Pt}(h:BL p):(0<=p.x/\p.x<=3)/\(0<=p.y/\p.y<=3):=by
 obtain⟨u,hu,rfl⟩:=h;exact⟨zJ _ hu.x0 hu.x1,zJ _ hu.y0 hu.y1⟩
theorem AgL(f:Fr){p:Pt}(hp:BL p):-1000000<=Br (DT f) p/\Br (DT f) p<=1000000:=by
 have h1:=(Abb hp).1;have h2:=zH f.s;have h3:=Ab5 f.a (RY f.a);unfold Br;have e1:(DT f).low.x=((f.a.tmod 8:Int):Rat):=rfl;have e2:(DT f).high.x=((f.a.tmod 8:Int):Rat)+mkRat (1+f.s%12) 2:=rfl;have e3:(DT f).W=(1+f.u%30).toNat:=rfl;rw [e1,e2,e3];exact xz (by grind) (by grind) (by grind) (by omega)
theorem AgN(f:Fr){p:Pt}(hp:BL p):-1000000<=Bt (DT f) p/\Bt (DT f) p<=1000000:=by
 have h1:=(Abb hp).2;have h2:=zH f.t;have h3:=Ab5 f.b (RY f.b);unfold Bt;have e1:(DT f).low.y=((f.b.tmod 8:Int):Rat):=rfl;have e2:(DT f).high.y=((f.b.tmod 8:Int):Rat)+mkRat (1+f.t%12) 2:=rfl;have e3:(DT f).H=(1+f.v%30).toNat:=rfl;rw [e1,e2,e3];exact xz (by grind) (by grind) (by grind) (by omega)
def Na:Cv:=⟨⟨0,0⟩,⟨4,4⟩,8,8⟩
def Zg:Sg:=⟨⟨-4,2⟩,⟨4,2⟩⟩
def nQ:Sg:=⟨⟨0,2⟩,⟨4,2⟩⟩
theorem uX:It Na:=⟨⟨by decide +kernel,by decide +kernel,by decide,by decide,by decide,by decide⟩,⟨⟨by decide +kernel,by decide +kernel⟩,⟨by decide +kernel,by decide +kernel⟩⟩,⟨⟨by decide +kernel,by decide +kernel⟩,⟨by decide +kernel,by decide +kernel⟩⟩⟩
theorem dU:Br Na ⟨1,1⟩=2:=by decide +kernel
theorem oI:Bt Na ⟨1,1⟩=6:=by decide +kernel
theorem Afo:Eg Na Zg=some nQ:=by decide +kernel
theorem AfU:Ta Na nQ = [(0,4),(1,4),(2,4),(3,4),(4,4),(5,4),(6,4),(7,4),(8,4)]:=by decide +kernel
theorem AkC:DK 2 Zg:=⟨⟨GT (by decide +kernel),GT (by decide +kernel)⟩,⟨GT (by decide +kernel),GT (by decide +kernel)⟩⟩
theorem K2(x y:Int)(hx:x.natAbs<10000000)(hy:y.natAbs<10000000)(p:Pt)(hp:(⟨(x:Rat),(y:Rat)⟩:Pt)=p)(w:World)(hw:Ai w) :
  Calls Tryz.prog 21 #[.int .i64 x,.int .i64 y] w (Bg (.agg #[S (R p.x),S (R p.y)]) w):=by
 subst hp;exact vk x y hx hy w hw
theorem Akz(w:World)(hw:Ai w):Calls Tryz.prog 5 #[] w (Dq true w):=by
 have cT:=K2 0 0 (by decide) (by decide) ⟨0,0⟩ (by decide +kernel);have a44:=K2 4 4 (by decide) (by decide) ⟨4,4⟩ (by decide +kernel);have Wx:=K2 1 1 (by decide) (by decide) ⟨1,1⟩ (by decide +kernel);have sO:=K2 (-4) 2 (by decide) (by decide) ⟨-4,2⟩ (by decide +kernel);have sD:=K2 4 2 (by decide) (by decide) ⟨4,2⟩ (by decide +kernel);have sC:=K2 4 0 (by decide) (by decide) ⟨4,0⟩ (by decide +kernel);have sB:=K2 0 4 (by decide) (by decide) ⟨0,4⟩ (by decide +kernel);have cX:=K2 1 0 (by decide) (by decide) ⟨1,0⟩ (by decide +kernel);have a20:=K2 2 0 (by decide) (by decide) ⟨2,0⟩ (by decide +kernel);have a24:=K2 2 4 (by decide) (by decide) ⟨2,4⟩ (by decide +kernel);have px:=AdI Na ⟨1,1⟩ uX (a:=2) ⟨GT (by decide +kernel),GT (by decide +kernel)⟩ (by omega) (by omega) (by rw [dU];omega) (by rw [dU];omega) (by rw [oI];omega) (by rw [oI];omega);rw [dU,oI]at px;have ln:=Ad9 Na uX Zg AkC (by omega) (by omega) nQ Afo;rw [AfU]at ln
 have ht:∀(A:Option Addr) (c:Nat) (w:World),Ai w→Am w A [S (R 0),S (R 0),S (R 4),S (R 0),S (R 4),S (R 4),S (R 0),S (R 4)]→4<=c→c<=9223372036854775807→Calls Tryz.prog 24 #[.slice A 4 c,Ak ⟨1,0⟩,S (R 1)] w (cO [⟨⟨1,0⟩,⟨1,4⟩⟩,⟨⟨2,0⟩,⟨2,4⟩⟩,⟨⟨3,0⟩,⟨3,4⟩⟩] w):=by intro A c w hw hr hc hcm;have h:=Adz IS ⟨1,0⟩ 1 Aol A c w hw hr hc hcm;rw [Aoq]at h;exact h
 have hR1:R 1 = [49]:=(by have:=Wr 1;rw [Wm]at this;exact this);unfold BQ Ak I2 at px;unfold BQ Ax at ln;unfold Ak at ht;unfold Na at px ln;unfold Zg at ln
 dsimp only at cT a44 Wx sO sD sC sB cX a20 a24 px ln ht
 rw [show ((8:Nat):Int)=8 from rfl]at px ln;generalize hr0:R 0=r0 at *;have Hr0:=Asb hr0;clear hr0;rw [hR1]at ht Wx px cX;clear hR1;generalize hr2:R 2=r2 at *;have Hr2:=Asb hr2;clear hr2;generalize hr4:R 4=r4 at *;have Hr4:=Asb hr4;clear hr4;generalize R (-4)=rm4 at *;go_enter Tryz.func5,Tryz.ntmps5;(go_wp2_with fail);(with_reducible refine(cT _ hw).mono ?_);rintro e w1 ⟨rfl,hx1⟩;(go_wp2_with fail);(with_reducible refine(a44 _ (hw.ext hx1)).mono ?_);rintro e w2 ⟨rfl,hx2⟩;have Ii:=hx1.trans hx2;have hb:=Ase w2 (.cells #[S r0,S r0,S r4,S r4,.int .i64 8,.int .i64 8] 37);have NQ:=Ii.alloc (.cells #[S r0,S r0,S r4,S r4,.int .i64 8,.int .i64 8] 37)
 go_upto_region 2 with fail
 generalize w2.alloc (.cells #[S r0,S r0,S r4,S r4,.int .i64 8,.int .i64 8] 37)=V at *;obtain⟨bc,ai⟩:=AcG w2.heap.size;rw [←ai]at hb ⊢;have La:=hw.ext NQ;clear ai hx1 hx2 Ii;have q1:=Ab (o:=0) hb rfl;have q2:=Ab (o:=1) hb rfl;have q3:=Ab (o:=2) hb rfl;have q4:=Ab (o:=3) hb rfl;have q5:=Ab (o:=4) hb rfl;have q6:=Ab (o:=5) hb rfl;have hs1:bc<V.heap.size:=World.block_lt_of_cell? V _ q1;have HB:=Asb hb;clear hb
 go_cut [2,3] (fun v2 v3 wx=>∃b,v2=.pointer (some ⟨b,0,none⟩)/\v3=.int .i64 0/\wx.heap[b]?=some (.cells #[.int .i64 2,.int .i64 6] 61)/\Aa V wx)
 case first=>
  go_region_held3 (fun w'=>w'.cell? ⟨bc,0,none⟩=some (S r0)/\w'.cell? ⟨bc,1,none⟩=some (S r0)/\w'.cell? ⟨bc,2,none⟩=some (S r4)/\w'.cell? ⟨bc,3,none⟩=some (S r4)/\w'.cell? ⟨bc,4,none⟩=some (.int .i64 8)/\w'.cell? ⟨bc,5,none⟩=some (.int .i64 8))
   (first|go_keep|(refine⟨?_,?_,?_,?_,?_,?_⟩<;>(rw [World.cell?_setCell_far _ _ _ _ (by simp only [ne_eq];omega),World.cell?_setCell_far _ _ _ _ (by simp only [ne_eq];omega)];assumption)))
   (first|((with_reducible refine(Wx _ ?_).mono ?_);(exact La.ext (by first|exact(Aa.refl _).drew|exact((Aa.refl _).alloc _).drew));rintro e w6 ⟨rfl,Ao⟩;have X6:Aa V w6:=(by first|exact(Aa.refl _).drew.trans Ao|exact((Aa.refl _).alloc _).drew.trans Ao);have g1:=X6.cellS q1;have g2:=X6.cellS q2;have g3:=X6.cellS q3;have g4:=X6.cellS q4;have g5:=X6.cellS q5;have g6:=X6.cellS q6;have s6:=X6.size;(first|(have Z6:w6.heap[V.heap.size]?=some (.cells #[.int .i64 0,.int .i64 0] 61):=(Ao.block _ (by simp)).trans (Ase V _))|skip))|((with_reducible refine(px _ ?_).mono ?_);(exact La.ext (by first|exact X6|exact X6.alloc _));rintro e w7 ⟨rfl,Aj⟩;have X7:Aa V w7:=(by first|exact X6.trans Aj|exact(X6.alloc _).trans Aj);have i1:=X7.cellS q1;have i2:=X7.cellS q2;have i3:=X7.cellS q3;have i4:=X7.cellS q4;have i5:=X7.cellS q5;have i6:=X7.cellS q6;have s7:=X7.size;(first|(have Z7:w7.heap[V.heap.size]?=some (.cells #[.int .i64 0,.int .i64 0] 61):=(Aj.block _ (Asd Z6)).trans Z6;have y1:=Ab (o:=0) Z7 rfl;have y2:=Ab (o:=1) Z7 rfl;have y3:=An (o:=0) Z7;have y4:=An (o:=1) Z7)|(have Z7:w7.heap[w6.heap.size]?=some (.cells #[.int .i64 0,.int .i64 0] 61):=(Aj.block _ (by simp)).trans (Ase w6 _);have y1:=Ab (o:=0) Z7 rfl;have y2:=Ab (o:=1) Z7 rfl;have y3:=An (o:=0) Z7;have y4:=An (o:=1) Z7)|skip)))
  all_goals go_wp2
  all_goals go_meet
  all_goals first
   | exact⟨_,rfl,rfl,Ase w7 _,X7.alloc _⟩
   | exact⟨_,rfl,rfl,D6 _ _ Z7,(X7.setCell (by simp only [];omega) _).setCell (by simp only [];omega) _⟩
   | exact⟨_,rfl,rfl,D6 _ _ Z7,(X7.setCell (Asf _) _).setCell (Asf _) _⟩
 case rest=>
  obtain⟨bd,rfl,rfl,C6,Dz⟩:=hcut;have aT:=Asb C6;have hwc:=La.ext Dz;have j1:=Dz.cellS q1;have j2:=Dz.cellS q2;have j3:=Dz.cellS q3;have j4:=Dz.cellS q4;have j5:=Dz.cellS q5;have j6:=Dz.cellS q6;clear C6 Wx px q1 q2 q3 q4 q5 q6
  go_upto_region 3 with fail
  go_region_held3 (fun w'=>w'.cell? ⟨bc,0,none⟩=some (S r0)/\w'.cell? ⟨bc,1,none⟩=some (S r0)/\w'.cell? ⟨bc,2,none⟩=some (S r4)/\w'.cell? ⟨bc,3,none⟩=some (S r4)/\w'.cell? ⟨bc,4,none⟩=some (.int .i64 8)/\w'.cell? ⟨bc,5,none⟩=some (.int .i64 8))
   (go_keep)
   (first|((with_reducible refine(sO _ (hwc.ext (Aa.refl wc).drew)).mono ?_);rintro e w6 ⟨rfl,Ao⟩;have X6:Aa wc w6:=(Aa.refl wc).drew.trans Ao;have g1:=X6.cellS j1;have g2:=X6.cellS j2;have g3:=X6.cellS j3;have g4:=X6.cellS j4;have g5:=X6.cellS j5;have g6:=X6.cellS j6)|((with_reducible refine(sD _ (hwc.ext X6)).mono ?_);rintro e w7 ⟨rfl,Aj⟩;have X7:Aa wc w7:=X6.trans Aj;have i1:=X7.cellS j1;have i2:=X7.cellS j2;have i3:=X7.cellS j3;have i4:=X7.cellS j4;have i5:=X7.cellS j5;have i6:=X7.cellS j6)|((with_reducible refine(ln _ (hwc.ext X7)).mono ?_);rintro e w8 ⟨A8,c8,rfl,U0,N2,Aqj,AE⟩;have X8:Aa wc w8:=X7.trans AE;have l1:=X8.cellS j1;have l2:=X8.cellS j2;have l3:=X8.cellS j3;have l4:=X8.cellS j4;have l5:=X8.cellS j5;have l6:=X8.cellS j6))
  have Py:=hwc.ext X8;clear g1 g2 g3 g4 g5 g6 i1 i2 i3 i4 i5 i6 l1 l2 l3 l4 l5 l6 Ao Aj AE X6 X7;(go_wp2_with fail);(with_reducible refine(cT _ Py).mono ?_);rintro e w9 ⟨rfl,Az⟩;have Rl:=Py.ext Az;(go_wp2_with fail);(with_reducible refine(sC _ Rl).mono ?_);rintro e FZ ⟨rfl,C4⟩;have Rh:=Rl.ext C4;(go_wp2_with fail);(with_reducible refine(a44 _ Rh).mono ?_);rintro e w11 ⟨rfl,hx11⟩;have UG:=Rh.ext hx11;(go_wp2_with fail);(with_reducible refine(sB _ UG).mono ?_);rintro e Ff ⟨rfl,BB⟩;have Ri:=UG.ext BB;have hrl:=Am.lit Ff #[S r0,S r0,S r4,S r0,S r4,S r4,S r0,S r4] 35;have Lc:=(Aa.refl Ff).alloc (.cells #[S r0,S r0,S r4,S r0,S r4,S r4,S r0,S r4] 35);(go_wp2_with fail);(with_reducible refine(cX _ (Ri.ext Lc)).mono ?_);rintro e w13 ⟨rfl,IE⟩;have Rj:=(Ri.ext Lc).ext IE;have Rc:=ht _ 4 w13 Rj (hrl.ext IE) (by omega) (by omega);(go_wp2_with fail);(with_reducible refine Rc.mono ?_);rintro e w14 ⟨A14,c14,rfl,hrd14,hc14,hc14',hx14⟩;have Xy:Aa w8 w14:=(((((Az.trans C4).trans hx11).trans BB).trans Lc).trans IE).trans hx14;have UH:=Rj.ext hx14;clear hrl Lc ht Rc Az C4 hx11 BB IE hx14 Rl Rh UG Ri Rj;obtain⟨b8,o8,rfl,Dy⟩:=U0.ad (by decide);obtain⟨MW,NY,rfl,UE⟩:=hrd14.ad (by decide);have e1:=Xy.cellS (Dy 16 (by decide));have e2:=Xy.cellS (Dy 17 (by decide));have e3:=UE 4 (by decide);have e4:=UE 5 (by decide);have e5:=UE 6 (by decide);have e6:=UE 7 (by decide);replace e1:w14.cell? ⟨b8,o8+16,none⟩=some (.int .i64 8):=e1;replace e2:w14.cell? ⟨b8,o8+17,none⟩=some (.int .i64 4):=e2;replace e3:w14.cell? ⟨MW,NY+4,none⟩=some (S (R 2)):=e3;replace e4:w14.cell? ⟨MW,NY+5,none⟩=some (S (R 0)):=e4;replace e5:w14.cell? ⟨MW,NY+6,none⟩=some (S (R 2)):=e5;replace e6:w14.cell? ⟨MW,NY+7,none⟩=some (S (R 4)):=e6;rw [Hr2.out]at e3 e5;rw [Hr0.out]at e4;rw [Hr4.out]at e6;have gR:=((X8.trans Xy).block _ (Asd aT.out)).trans aT.out;have e7:=Ab (o:=0) gR rfl;have e8:=Ab (o:=1) gR rfl;have HE:=Asb (NQ.trans (Dz.trans (X8.trans Xy)));clear gR Dy UE U0 hrd14 X8
  go_upto_region 5 with fail
  go_region_held3 (fun w'=>w'.cell? ⟨b8,o8+16,none⟩=some (.int .i64 8)/\w'.cell? ⟨b8,o8+17,none⟩=some (.int .i64 4)/\w'.cell? ⟨MW,NY+4,none⟩=some (S r2)/\w'.cell? ⟨MW,NY+5,none⟩=some (S r0)/\w'.cell? ⟨MW,NY+6,none⟩=some (S r2)/\w'.cell? ⟨MW,NY+7,none⟩=some (S r4)/\w'.cell? ⟨bd,0,none⟩=some (.int .i64 2)/\w'.cell? ⟨bd,1,none⟩=some (.int .i64 6))
   (go_keep)
   (first|((with_reducible refine(a20 _ (UH.ext (Aa.refl w14).drew)).mono ?_);rintro e w15 ⟨rfl,P0⟩;have K0:Aa w14 w15:=(Aa.refl w14).drew.trans P0;have g1:=K0.cellS e1;have g2:=K0.cellS e2;have g3:=K0.cellS e3;have g4:=K0.cellS e4;have g5:=K0.cellS e5;have g6:=K0.cellS e6;have g7:=K0.cellS e7;have g8:=K0.cellS e8)|((with_reducible refine(a24 _ (UH.ext K0)).mono ?_);rintro e Si ⟨rfl,Mn⟩;have LH:Aa w14 Si:=K0.trans Mn;have i1:=LH.cellS e1;have i2:=LH.cellS e2;have i3:=LH.cellS e3;have i4:=LH.cellS e4;have i5:=LH.cellS e5;have i6:=LH.cellS e6;have i7:=LH.cellS e7;have i8:=LH.cellS e8))
  go_wp2;go_ret;exact⟨rfl,HE.out.trans LH⟩
end Go.Proofs.YtdaefncphfeaeaaGreatDoor
