/- Z45: T5. -/
import Derived.Test.YtdaefncphfeaeaaGreatDoorZ42
set_option maxRecDepth 100000
set_option maxHeartbeats 16000000
namespace Go.Proofs.YtdaefncphfeaeaaGreatDoor
open Go.RowKit Kl
def AdT(n:Nat)(w:World)(e:Ending)(w':World):Prop:=∃k:Int,e=.returned (.int .i64 k)/\-1<=k/\k<(n:Int)/\Aa w w'
def pX(m:B7)(bz:Int)(ls:Bs):Prop:=
 (bz = -1/\ls = [])∨∃(j:Nat) (h:j<m.eds.length) (u:Rat),bz=(j:Int)/\ls=R u/\Sz 210 u/\(AA m.pts m.eds[j].t).x-(AA m.pts m.eds[j].f).x≠0
structure qA(m:B7):Prop where
 f0:∀e∈m.eds,0<=e.f
 f1:∀e∈m.eds,e.f<(m.pts.length:Int)
 t0:∀e∈m.eds,0<=e.t
 t1:∀e∈m.eds,e.t<(m.pts.length:Int)
 l0:∀e∈m.eds,-1<=e.l/\e.l<(m.nf:Int)
 r0:∀e∈m.eds,-1<=e.r/\e.r<(m.nf:Int)
theorem Ag5(m:B7)(hgr:∀p∈m.pts,Gg p)(xH:qA m)(A B F:Option Addr)(c d g:Nat)(BF:IW m c d g)(p:Pt)(hp:Aq 40 p)(w:World)(hw:Ai w)(hA:Am w A (flat (AI m.pts)))(hB:Am w B (Ce m.eds)) :
  Calls Tryz.prog 34 #[Dh A B F m c d g,Ak p] w (AdT m.nf w):=by
 have PW:=Asb BF;have Ku:=Asb hgr;have F4:=Asb xH;obtain⟨c1,c2,d1,d2,g1,g2⟩:=BF
 obtain⟨V,hV,EV,hM,hP⟩:∃V,V=(w.alloc (.cells #[.slice A m.pts.length c,.slice B m.eds.length d,.slice F m.nf g] 43)).alloc (.cells #[S (R p.x),S (R p.y)] 35)/\Aa w V/\V.heap[w.heap.size]?=some (.cells #[.slice A m.pts.length c,.slice B m.eds.length d,.slice F m.nf g] 43)/\V.heap[w.heap.size+1]?=some (.cells #[S (R p.x),S (R p.y)] 35):=by
  refine⟨_,rfl,((Aa.refl _).alloc _).alloc _,(Below.heap_alloc _ _ _ (by simp)).trans (Ase w _),?_⟩;have h:=Ase (w.alloc (.cells #[.slice A m.pts.length c,.slice B m.eds.length d,.slice F m.nf g] 43)) (.cells #[S (R p.x),S (R p.y)] 35)
  rwa [Asn]at h
 have hA:=hA.ext EV;have hB:=hB.ext EV;unfold Dh Ak;have hl0:(0:Int)<=(m.eds.length:Int):=(by omega);clear hgr xH;go_enter Tryz.func34,Tryz.ntmps34
 go_upto_region 3 with fail
 rw [←hV];obtain⟨bm,Cj⟩:=AcG w.heap.size;rw [←Cj]at hM hP ⊢;clear hV Cj;have m1:=Ab (o:=1) hM rfl
 go_upto_region 4 with fail
 clear m1
 go_loopw [5,6,19] (fun bv lv iv wr=>∃(i:Nat) (bz:Int) (ls:Bs),bv=.int .i64 bz/\lv=S ls/\iv=.int .i64 (i:Nat)/\i<=m.eds.length/\pX m bz ls/\Aa V wr) (fun _ _ iv _=>m.eds.length-(intOf iv).toNat)
 case atStart=>exact⟨0,-1,[],rfl,rfl,rfl,by omega,.inl ⟨rfl,rfl⟩,Aa.refl _⟩
 case round=>
  obtain⟨i,bz,ls,rfl,rfl,rfl,hi,Hg,Ac⟩:=hrel;have Ks:=Asb Hg;clear Hg;have Ej:=(Ac.block _ (Asd hM)).trans hM;have JP:=(Ac.block _ (Asd hP)).trans hP;have hwr:=hw.ext (EV.trans Ac);by_cases CB:i<m.eds.length
  ·have hmem:=Asg CB;have hr1:=F4.out.f0 _ hmem;have hr2:=F4.out.f1 _ hmem;have hr3:=F4.out.t0 _ hmem;have hr4:=F4.out.t1 _ hmem;have sa:=(Ku.out _ (Im hr1 hr2)).sz (K:=20) (by omega);have sb:=(Ku.out _ (Im hr3 hr4)).sz (K:=20) (by omega);obtain⟨b,o,rfl,hg1,hg2,hg3,hg4⟩:=Lq (hB.ext Ac) CB;have qV:=Asb (show ∀u:Rat,Sz 210 u→(AA m.pts m.eds[i].t).x-(AA m.pts m.eds[i].f).x≠0→pX m (i:Int) (R u)from fun u hu hn=>.inr ⟨i,CB,u,rfl,rfl,hu,hn⟩);obtain⟨e,he⟩:=AcG (m.eds[i]);rw [←he]at hg1 hg2 hg3 hg4 hr1 hr2 hr3 hr4 sa sb qV;clear he hmem;obtain⟨ef,CZ⟩:∃n:Nat,e.f=(n:Int):=⟨e.f.toNat,by omega⟩;obtain⟨et,Da⟩:∃n:Nat,e.t=(n:Int):=⟨e.t.toNat,by omega⟩;have ED:ef<m.pts.length:=(by omega);have EE:et<m.pts.length:=(by omega);rw [CZ]at hg1;rw [Da]at hg2;obtain⟨ba,oa,rfl,ha1,ha2⟩:=BO (hA.ext Ac) ED;obtain⟨b3,o3,FN,Ct,Cu⟩:=BO (hA.ext Ac) EE;obtain⟨rfl,rfl⟩:ba=b3/\oa=o3:=(by simpa using FN);have e1:m.pts[ef]=AA m.pts e.f:=(by rw [CZ];unfold AA;simp [ED]);have e2:m.pts[et]=AA m.pts e.t:=(by rw [Da];unfold AA;simp [EE]);rw [e1]at ha1 ha2;rw [e2]at Ct Cu;generalize AA m.pts e.f=pa at *;generalize AA m.pts e.t=pb at *;have f0:(0:Int)<=(ef:Int):=(by omega);have f1:(ef:Int)<(m.pts.length:Int):=(by omega);have f2:(0:Int)<=(et:Int):=(by omega);have f3:(et:Int)<(m.pts.length:Int):=(by omega);have i0:(0:Int)<=(i:Int):=(by omega);have i1:(i:Int)<(m.eds.length:Int):=(by omega);clear CZ Da e1 e2 hr1 hr2 hr3 hr4;have Bu:=Ase wr (.cells #[.int .i64 (ef:Int),.int .i64 (et:Int),.int .i64 e.l,.int .i64 e.r] 59);have E2:=(Aa.refl wr).alloc (.cells #[.int .i64 (ef:Int),.int .i64 (et:Int),.int .i64 e.l,.int .i64 e.r] 59);have n0:=E2.cellS (Ab (o:=0) Ej rfl);replace ha1:=E2.cellS ha1;replace ha2:=E2.cellS ha2;replace Ct:=E2.cellS Ct;replace Cu:=E2.cellS Cu;have fE:=(E2.block _ (Asd Ej)).trans Ej;have fL:=(E2.block _ (Asd JP)).trans JP;have DV:=Ac.trans E2
   go_upto_region 6 with fail
   generalize wr.alloc (.cells #[.int .i64 (ef:Int),.int .i64 (et:Int),.int .i64 e.l,.int .i64 e.r] 59)=W at *;obtain⟨be,JR⟩:=AcG wr.heap.size;rw [←JR]at Bu ⊢;clear JR E2 hg1 hg2 hg3 hg4 Ej JP;have n1:W.cell? ⟨be,0,none⟩=some (.int .i64 (ef:Int)):=Ab Bu rfl;have n2:W.cell? ⟨be,1,none⟩=some (.int .i64 (et:Int)):=Ab Bu rfl;have X:Aa W W:=Aa.refl W;have SO:∀w',Aa W w'→(w'.cell? ⟨bm,0,none⟩=some (.slice (some ⟨ba,oa,none⟩) m.pts.length c)/\w'.cell? ⟨be,0,none⟩=some (.int .i64 (ef:Int))/\w'.cell? ⟨be,1,none⟩=some (.int .i64 (et:Int))/\w'.cell? ⟨ba,oa+ef*2,none⟩=some (S (R pa.x))/\w'.cell? ⟨ba,oa+ef*2+1,none⟩=some (S (R pa.y))/\w'.cell? ⟨ba,oa+et*2,none⟩=some (S (R pb.x))/\w'.cell? ⟨ba,oa+et*2+1,none⟩=some (S (R pb.y))):=fun w' h=>⟨h.cellS n0,h.cellS n1,h.cellS n2,h.cellS ha1,h.cellS ha2,h.cellS Ct,h.cellS Cu⟩
   go_cut [9,10] (fun v9 v10 wx=>∃b1 b2,v9=.pointer (some ⟨b1,0,none⟩)/\v10=.pointer (some ⟨b2,0,none⟩)/\wx.heap[b1]?=some (.cells #[S (R pa.x),S (R pa.y)] 35)/\wx.heap[b2]?=some (.cells #[S (R pb.x),S (R pb.y)] 35)/\b1≠b2/\W.heap.size<=b1/\W.heap.size<=b2/\Aa W wx)
   case first=>
    go_region_held3 (fun w'=>w'.cell? ⟨bm,0,none⟩=some (.slice (some ⟨ba,oa,none⟩) m.pts.length c)/\w'.cell? ⟨be,0,none⟩=some (.int .i64 (ef:Int))/\w'.cell? ⟨be,1,none⟩=some (.int .i64 (et:Int))/\w'.cell? ⟨ba,oa+ef*2,none⟩=some (S (R pa.x))/\w'.cell? ⟨ba,oa+ef*2+1,none⟩=some (S (R pa.y))/\w'.cell? ⟨ba,oa+et*2,none⟩=some (S (R pb.x))/\w'.cell? ⟨ba,oa+et*2+1,none⟩=some (S (R pb.y)))
     ((refine SO _ ?_;repeat (first|exact X|(with_reducible refine Aa.drew ?_)|(with_reducible refine Aa.alloc ?_ _))))
     (fail)
    all_goals go_wp2
    all_goals go_meet
    all_goals (
     refine⟨_,_,rfl,rfl,?_,?_,by omega,by omega,by omega,?_⟩
     all_goals try unfold S
     all_goals first
      | with_reducible exact(Sc _ _ _).1
      | with_reducible exact(Sc _ _ _).2.1
      | with_reducible exact(Sc _ _ _).2.2)
   case rest=>
    obtain⟨b1,b2,rfl,rfl,hb1,hb2,Q6,AhP,Q9,Af⟩:=hcut;obtain⟨W4,rfl⟩:=GN Af;clear SO X n0 n1 n2 ha1 ha2 Ct Cu Bu f0 f1 f2 f3;have XB:=(Af.block _ (Asd fE)).trans fE;have OS:=(Af.block _ (Asd fL)).trans fL;have Dv:=DV.trans Af;have od:=Xf pa pb sa sb (by omega) (by omega) W4 (hw.ext (EV.trans Dv));unfold Ak at od;have z0:=Ab (o:=0) hb1 rfl;have z1:=Ab (o:=1) hb1 rfl;have z2:=Ab (o:=0) hb2 rfl;have z3:=Ab (o:=1) hb2 rfl;(go_wp2_with fail);(with_reducible refine od.mono ?_);rintro e' w5 ⟨rfl,Ae⟩;have Gm:=Dv.trans Ae;have Nr:=(Ae.block _ (Asd hb1)).trans hb1;have Ns:=(Ae.block _ (Asd hb2)).trans hb2;have Ie:=Asd Nr;have hlt2:=Asd Ns;have XM:=DV.size;clear z0 z1 z2 z3 od hb1 hb2 Ae;obtain⟨lo,hlo⟩:=AcG (Bp pa pb);rw [←hlo];clear hlo
    go_upto_if 39 with fail
    go_cut [9] (fun v9 wx=>v9=.pointer (some ⟨b1,0,none⟩)/\∃qa qb:Pt,wx.heap[b1]?=some (.cells #[S (R qa.x),S (R qa.y)] 35)/\wx.heap[b2]?=some (.cells #[S (R qb.x),S (R qb.y)] 35)/\((qa=pa/\qb=pb)∨(qa=pb/\qb=pa))/\Aa V wx)
    case first=>
     have z0:=Ab (o:=0) Nr rfl;have z1:=Ab (o:=1) Nr rfl;have z2:=Ab (o:=0) Ns rfl;have z3:=Ab (o:=1) Ns rfl;by_cases Dc:0<lo
     ·have Pb:decide (0<lo)=true:=decide_eq_true Dc;have ApV:¬b2=b1:=fun e=>Q6 e.symm;have ApU:¬b1=b2:=Q6;have y0:=An (o:=0) Nr;have y1:=An (o:=1) Nr;have y2:=An (o:=0) Ns;have y3:=An (o:=1) Ns;have s1:=D6 (S (R pb.x)) (S (R pb.y)) Nr
      have zO:((w5.setCell ⟨b1,0,none⟩ (S (R pb.x))).setCell ⟨b1,1,none⟩ (S (R pb.y))).heap[b2]?=some (.cells #[S (R pb.x),S (R pb.y)] 35):=by rw [EP (by show b2≠b1;exact fun e=>Q6 e.symm),EP (by show b2≠b1;exact fun e=>Q6 e.symm)];exact Ns
      have s2:=D6 (S (R pa.x)) (S (R pa.y)) zO
      have s1':((((w5.setCell ⟨b1,0,none⟩ (S (R pb.x))).setCell ⟨b1,1,none⟩ (S (R pb.y))).setCell ⟨b2,0,none⟩ (S (R pa.x))).setCell ⟨b2,1,none⟩ (S (R pa.y))).heap[b1]?=some (.cells #[S (R pb.x),S (R pb.y)] 35):=by rw [EP (by show b1≠b2;exact Q6),EP (by show b1≠b2;exact Q6)];exact s1
      have BI:=(((Gm.setCell (p:=⟨b1,0,none⟩) (by show V.heap.size<=b1;omega) (S (R pb.x))).setCell (p:=⟨b1,1,none⟩) (by show V.heap.size<=b1;omega) (S (R pb.y))).setCell (p:=⟨b2,0,none⟩) (by show V.heap.size<=b2;omega) (S (R pa.x))).setCell (p:=⟨b2,1,none⟩) (by show V.heap.size<=b2;omega) (S (R pa.y));have HH:=Asb (And.intro s1' (And.intro s2 BI));clear s1 s2 s1' zO BI;go_wp2;go_meet;exact⟨rfl,pb,pa,HH.out.1,HH.out.2.1,.inr ⟨rfl,rfl⟩,HH.out.2.2⟩
     ·have Pb:decide (0<lo)=false:=decide_eq_false Dc;have Yk:lo<=0:=(by omega);go_wp2;go_meet;exact⟨rfl,pa,pb,Nr,Ns,.inl ⟨rfl,rfl⟩,Gm⟩
    case rest=>
     obtain⟨rfl,qa,qb,QW,YD,hsw,BI⟩:=hcut;obtain⟨W6,rfl⟩:=GN BI
     have Ht:Aq 20 qa:=by rcases hsw with⟨rfl,rfl⟩|⟨rfl,rfl⟩<;>assumption
     have Lu:Aq 20 qb:=by rcases hsw with⟨rfl,rfl⟩|⟨rfl,rfl⟩<;>assumption
     have FT:qa.x≠qb.x→pb.x-pa.x≠0:=by
      rcases hsw with⟨rfl,rfl⟩|⟨rfl,rfl⟩
      ·intro h;grind
      ·intro h;grind
     have HNN:=Asb FT;clear Nr Ns hsw Gm Dv Af fE fL DV XB OS Ie hlt2 XM AhP Q9 sa sb FT;have fC:=(BI.block _ (Asd hM)).trans hM;have XF:=(BI.block _ (Asd hP)).trans hP;have c1':=CJ p.x qa.x (a:=40) (b:=20) ⟨hp.x,Ht.x,by omega,by omega,by omega⟩ W6 (hw.ext (EV.trans BI));have WR:=fun (w':World) (h:Aa W6 w')=>CJ p.x qb.x (a:=40) (b:=20) ⟨hp.x,Lu.x,by omega,by omega,by omega⟩ w' (hw.ext (EV.trans (BI.trans h)));have z0:=Ab (o:=0) QW rfl;have z2:=Ab (o:=0) YD rfl;have y0:=Ab (o:=0) XF rfl;obtain⟨k1,Bv⟩:=AcG (AD p.x qa.x);obtain⟨k2,hk2⟩:=AcG (AD p.x qb.x);rw [←Bv]at c1';simp only [←hk2]at WR;clear Bv hk2;(go_wp2_with fail);(with_reducible refine c1'.mono ?_);rintro e' w7 ⟨rfl,Aj⟩;by_cases Bv:k1<0
     ·have Eo:decide (k1<0)=true:=decide_eq_true Bv;have BW:=BI.trans Aj;clear z0 z2 y0 c1' WR;go_wp2;go_roundw
      case rel=>exact⟨i+1,bz,ls,rfl,rfl,by go_num,CB,Ks.out,BW⟩
      case measure=>simp [intOf];omega
     ·have Eo:decide (k1<0)=false:=decide_eq_false Bv;have z2':=Aj.cellS z2;have y0':=Aj.cellS y0;have cc:=WR w7 Aj;clear z0 z2 y0 c1' WR Bv;(go_wp2_with fail);(with_reducible refine cc.mono ?_);rintro e' w8 ⟨rfl,AE⟩;have Ro:=Aj.trans AE;have GF:=BI.trans Ro;clear z2' y0' cc;by_cases hk2:0<k2
      ·have C3:decide (0<k2)=true:=decide_eq_true hk2;go_wp2;go_roundw
       case rel=>exact⟨i+1,bz,ls,rfl,rfl,by go_num,CB,Ks.out,GF⟩
       case measure=>simp [intOf];omega
      ·have C3:decide (0<k2)=false:=decide_eq_false hk2;have QX:=(Ro.block _ (Asd QW)).trans QW;have QY:=(Ro.block _ (Asd YD)).trans YD;have Tv:=(Ro.block _ (Asd XF)).trans XF;have OP:=(Ro.block _ (Asd fC)).trans fC;clear hk2 QW YD XF fC Aj AE Ro BI;have z0:w8.cell? ⟨b1,0,none⟩=some (S (R qa.x)):=Ab QX rfl;have z2:w8.cell? ⟨b2,0,none⟩=some (S (R qb.x)):=Ab QY rfl;by_cases hxx:qa.x=qb.x
       ·have NR:(R qa.x == R qb.x)=true:=(by rw [hxx];simp);have z1:w8.cell? ⟨b1,1,none⟩=some (S (R qa.y)):=Ab QX rfl;have z3:w8.cell? ⟨b2,1,none⟩=some (S (R qb.y)):=Ab QY rfl;have y1:w8.cell? ⟨bm+1,1,none⟩=some (S (R p.y)):=Ab Tv rfl;have WX:=CJ qa.y p.y (a:=20) (b:=40) ⟨Ht.y,hp.y,by omega,by omega,by omega⟩ w8 (hw.ext (EV.trans GF));have WY:=fun (w':World) (h:Aa w8 w')=>CJ p.y qb.y (a:=40) (b:=20) ⟨hp.y,Lu.y,by omega,by omega,by omega⟩ w' (hw.ext (EV.trans (GF.trans h)));obtain⟨k3,hk3⟩:=AcG (AD qa.y p.y);obtain⟨k4,hk4⟩:=AcG (AD p.y qb.y);rw [←hk3]at WX;simp only [←hk4]at WY;clear hk3 hk4 hxx;(go_wp2_with fail);(with_reducible refine WX.mono ?_);rintro e' w9 ⟨rfl,Az⟩;by_cases h3:k3<=0
        ·have er:decide (k3<=0)=true:=decide_eq_true h3;have z3':=Az.cellS z3;have y1':=Az.cellS y1;have dd:=WY w9 Az;clear z0 z1 z2 z3 y1 WX WY h3;(go_wp2_with fail);(with_reducible refine dd.mono ?_);rintro e' FZ ⟨rfl,C4⟩;have JQ:=GF.trans (Az.trans C4);clear z3' y1' dd;by_cases h4:k4<=0
         ·have Yd:decide (k4<=0)=true:=decide_eq_true h4;go_wp2;go_ret;exact⟨-1,rfl,by omega,by omega,EV.trans JQ⟩
         ·have Yd:decide (k4<=0)=false:=decide_eq_false h4;clear h4;go_wp2;go_roundw
          case rel=>exact⟨i+1,bz,ls,rfl,rfl,by go_num,CB,Ks.out,JQ⟩
          case measure=>simp [intOf];omega
        ·have er:decide (k3<=0)=false:=decide_eq_false h3;have H8:=GF.trans Az;clear h3 z0 z1 z2 z3 y1 WX WY;go_wp2;go_roundw
         case rel=>exact⟨i+1,bz,ls,rfl,rfl,by go_num,CB,Ks.out,H8⟩
         case measure=>simp [intOf];omega
       ·have NR:(R qa.x == R qb.x)=false:=beq_false_of_ne (fun e=>hxx (JH e));have hne:qb.x-qa.x≠0:=(by grind);have yB:=HNN.out hxx;have AcM:=Asb yB;have s1:=BS p.x qa.x (a:=40) (b:=20) ⟨hp.x,Ht.x,by omega,by omega,by omega⟩;have s2:=BS qb.x qa.x (a:=20) (b:=20) ⟨Lu.x,Ht.x,by omega,by omega,by omega⟩;have dv:=PI (p.x-qa.x) (qb.x-qa.x) hne (a:=61) (b:=41) ⟨hp.x.sub Ht.x,Lu.x.sub Ht.x,by omega,by omega,by omega⟩;have zk:=(hp.x.sub Ht.x).div (by omega) (Lu.x.sub Ht.x);have s3:=BS qb.y qa.y (a:=20) (b:=20) ⟨Lu.y,Ht.y,by omega,by omega,by omega⟩;have mu:=Io ((p.x-qa.x)/(qb.x-qa.x)) (qb.y-qa.y) (a:=102) (b:=41) ⟨zk.mono (by omega),Lu.y.sub Ht.y,by omega,by omega,by omega⟩;have zm:=(zk.mono (by omega):Sz 102 _).mul (Lu.y.sub Ht.y);have ad:=Ol qa.y ((p.x-qa.x)/(qb.x-qa.x)*(qb.y-qa.y)) (a:=20) (b:=143) ⟨Ht.y,zm.mono (by omega),by omega,by omega,by omega⟩;have za:=Ht.y.add (zm.mono (by omega):Sz 143 _);have su:=BS (qa.y+(p.x-qa.x)/(qb.x-qa.x)*(qb.y-qa.y)) p.y (a:=164) (b:=40) ⟨za.mono (by omega),hp.y,by omega,by omega,by omega⟩;have zu:=((za.mono (by omega):Sz 164 _).sub hp.y).mono (show 164+40+1<=210 by omega);have Kf:(MA qa qb=MA qa qb):=rfl;have ZX:=Abd qa qb Ht Lu hne;have zsl:=Ab1 Ht Lu hne;obtain⟨sv,Rb⟩:=AcG (MA qa qb);rw [←Rb]at ZX zsl;unfold GQ at dv;unfold Ak at ZX;generalize (p.x-qa.x)/(qb.x-qa.x)=kk at *;generalize p.x-qa.x=u1 at *;generalize qb.x-qa.x=u2 at *;generalize qb.y-qa.y=u3 at *;generalize kk*u3=u4 at *;generalize qa.y+u4=u5 at *;obtain⟨up,UC⟩:=AcG (u5-p.y);rw [←UC]at su zu;have Lb:∀q:Ad w8,Ai q.w:=fun q=>hw.ext (EV.trans (GF.trans q.h));have t1:=fun q:Ad w8=>s1 q.w (Lb q);have t2:=fun q:Ad w8=>s2 q.w (Lb q);have t3:=fun q:Ad w8=>dv q.w (Lb q);have q0:∀q:Ad w8,q.w.cell? ⟨bm+1,0,none⟩=some (S (R p.x)):=Ad.cell (Ab Tv rfl);have q1:∀q:Ad w8,q.w.cell? ⟨b1,0,none⟩=some (S (R qa.x)):=Ad.cell (Ab QX rfl);have q2:∀q:Ad w8,q.w.cell? ⟨b2,0,none⟩=some (S (R qb.x)):=Ad.cell (Ab QY rfl);clear Rb Kf hne yB UC zk zm za s1 s2 dv
        go_upto_region 13 with fail
        refine Bi (by kernel_rfl) (by kernel_rfl) ?_
        repeat (go_big_quiet_step (first|(with_reducible refine D8 (t1 _))|(with_reducible refine D8 (t2 _))|(with_reducible refine eG (t3 _))))
        refine wpQuiet_nil ?_;rintro W9 ⟨q,hq⟩;have Az:Aa w8 W9:=hq▸q.h;have H8:=GF.trans Az;have YC:=(Az.block _ (Asd QX)).trans QX;have YF:=(Az.block _ (Asd QY)).trans QY;have XG:=(Az.block _ (Asd Tv)).trans Tv;have H6:=(Az.block _ (Asd OP)).trans OP;clear hq q q0 q1 q2 t1 t2 t3 Lb z0 z2 QX QY Tv OP GF Az;have Lb:∀q:Ad W9,Ai q.w:=fun q=>hw.ext (EV.trans (H8.trans q.h));have t1:=fun q:Ad W9=>s3 q.w (Lb q);have t2:=fun q:Ad W9=>mu q.w (Lb q);have t3:=fun q:Ad W9=>ad q.w (Lb q);have t4:=fun q:Ad W9=>su q.w (Lb q);have q0:∀q:Ad W9,q.w.cell? ⟨bm+1,1,none⟩=some (S (R p.y)):=Ad.cell (Ab XG rfl);have q1:∀q:Ad W9,q.w.cell? ⟨b1,1,none⟩=some (S (R qa.y)):=Ad.cell (Ab YC rfl);have q2:∀q:Ad W9,q.w.cell? ⟨b2,1,none⟩=some (S (R qb.y)):=Ad.cell (Ab YF rfl);clear s3 mu ad su
        go_upto_region 14 with fail
        refine Bi (by kernel_rfl) (by kernel_rfl) ?_
        repeat (go_big_quiet_step (first|(with_reducible refine D8 (t1 _))|(with_reducible refine D8 (t2 _))|(with_reducible refine D8 (t3 _))|(with_reducible refine D8 (t4 _))))
        refine wpQuiet_nil ?_;rintro Wu ⟨q,hq⟩;have C4:Aa W9 Wu:=hq▸q.h;have JQ:=H8.trans C4;have kU:=(C4.block _ (Asd YC)).trans YC;have YE:=(C4.block _ (Asd YF)).trans YF;have yF:=(C4.block _ (Asd XG)).trans XG;have eY:=(C4.block _ (Asd H6)).trans H6;clear hq q q0 q1 q2 t1 t2 t3 t4 Lb YC YF XG H6 H8 C4;by_cases YR:up=0
        ·have hue:(R up == [48])=true:=(by rw [YR,G7];rfl);clear YR;go_wp2;go_ret;exact⟨-1,rfl,by omega,by omega,EV.trans JQ⟩
        ·have hue:(R up == [48])=false:=beq_false_of_ne (fun e=>YR (JH (e.trans G7.symm)));have y0:Wu.cell? ⟨bm+1,0,none⟩=some (S (R p.x)):=Ab yF rfl;have z2:Wu.cell? ⟨b2,0,none⟩=some (S (R qb.x)):=Ab YE rfl;by_cases Fv:p.x=qb.x
         ·have If:(R p.x == R qb.x)=true:=(by rw [Fv];simp);clear Fv;go_wp2;go_roundw
          case rel=>exact⟨i+1,bz,ls,rfl,rfl,by go_num,CB,Ks.out,JQ⟩
          case measure=>simp [intOf];omega
         ·have If:(R p.x == R qb.x)=false:=beq_false_of_ne (fun e=>Fv (JH e));have sg:=Lo up;obtain⟨k5,hk5⟩:=AcG (AN up);rw [←hk5]at sg;clear hk5 Fv;(go_wp2_with fail);(with_reducible refine(sg _).mono ?_);rintro e' w11 ⟨rfl,hx11⟩;have GE:=JQ.trans hx11;have kV:=(hx11.block _ (Asd kU)).trans kU;have kW:=(hx11.block _ (Asd YE)).trans YE;have eZ:=(hx11.block _ (Asd eY)).trans eY;clear y0 z2 sg kU YE yF eY JQ hx11;by_cases h5:k5<0
          ·have iT:decide (k5<0)=true:=decide_eq_true h5;go_wp2;go_roundw
           case rel=>exact⟨i+1,bz,ls,rfl,rfl,by go_num,CB,Ks.out,GE⟩
           case measure=>simp [intOf];omega
          ·have iT:decide (k5<0)=false:=decide_eq_false h5;clear h5;have hnew:=qV.out up zu AcM.out;have bN:=Asb hnew;clear hnew
           rcases Ks.out with⟨rfl,rfl⟩|⟨j,hj,u,rfl,rfl,hu,hnv⟩
           ·go_wp2;go_roundw
            case rel=>exact⟨i+1,i,R up,rfl,rfl,by go_num,CB,bN.out,GE⟩
            case measure=>simp [intOf];omega
           ·have hRu:(R u == [])=false:=by
             cases hh:R u with
             | nil=>exact absurd hh (AdL u)
             | cons a b=>rfl
            have cm:=CJ up u (a:=210) (b:=210) ⟨zu,hu,by omega,by omega,by omega⟩ w11 (hw.ext (EV.trans GE));obtain⟨k6,Ui⟩:=AcG (AD up u);rw [←Ui]at cm;clear Ui;(go_wp2_with fail);(with_reducible refine cm.mono ?_);rintro e' Ff ⟨rfl,BB⟩;have LR:=GE.trans BB;have m6:=(BB.block _ (Asd kV)).trans kV;have m7:=(BB.block _ (Asd kW)).trans kW;have fB:=(BB.block _ (Asd eZ)).trans eZ;clear cm kV kW eZ GE BB;have Hk:=Asg hj;have so:=fun q:Ad Ff=>AnZ m Ku.out (some ⟨ba,oa,none⟩) (some ⟨b,o,none⟩) F c d g PW.out j hj (F4.out.f0 _ Hk) (F4.out.f1 _ Hk) (F4.out.t0 _ Hk) (F4.out.t1 _ Hk) hnv q.w (hw.ext (EV.trans (LR.trans q.h))) (hA.ext (LR.trans q.h)) (hB.ext (LR.trans q.h));have zso:=Ab1 ((Ku.out _ (Im (F4.out.f0 _ Hk) (F4.out.f1 _ Hk))).sz (K:=20) (by omega)) ((Ku.out _ (Im (F4.out.t0 _ Hk) (F4.out.t1 _ Hk))).sz (K:=20) (by omega)) hnv;generalize MA (AA m.pts m.eds[j].f) (AA m.pts m.eds[j].t)=sw at *;have t1:=fun q:Ad Ff=>ZX q.w (hw.ext (EV.trans (LR.trans q.h)));have t3:=fun q:Ad Ff=>CJ sv sw (a:=82) (b:=82) ⟨zsl,zso,by omega,by omega,by omega⟩ q.w (hw.ext (EV.trans (LR.trans q.h)));obtain⟨k7,jf⟩:=AcG (AD sv sw);simp only [←jf]at t3;unfold Dh at so;have q0:∀q:Ad Ff,q.w.cell? ⟨b1,0,none⟩=some (S (R qa.x)):=Ad.cell (Ab m6 rfl);have q1:∀q:Ad Ff,q.w.cell? ⟨b1,1,none⟩=some (S (R qa.y)):=Ad.cell (Ab m6 rfl);have q2:∀q:Ad Ff,q.w.cell? ⟨b2,0,none⟩=some (S (R qb.x)):=Ad.cell (Ab m7 rfl);have q3:∀q:Ad Ff,q.w.cell? ⟨b2,1,none⟩=some (S (R qb.y)):=Ad.cell (Ab m7 rfl);have q4:∀q:Ad Ff,q.w.cell? ⟨bm,0,none⟩=some (.slice (some ⟨ba,oa,none⟩) m.pts.length c):=Ad.cell (Ab fB rfl);have q5:∀q:Ad Ff,q.w.cell? ⟨bm,1,none⟩=some (.slice (some ⟨b,o,none⟩) m.eds.length d):=Ad.cell (Ab fB rfl);have q6:∀q:Ad Ff,q.w.cell? ⟨bm,2,none⟩=some (.slice F m.nf g):=Ad.cell (Ab fB rfl);clear jf Hk hnv zso ZX
            go_upto_region 20 with fail
            rcases(show 0<k6∨k6=0∨k6<0 by omega)with h6|h6|h6
            ·have hd6:decide (0<k6)=true:=decide_eq_true h6;refine Bi (by kernel_rfl) (by kernel_rfl) ?_
             repeat (go_big_quiet_step (first|(with_reducible refine D8 (t1 _))|(with_reducible refine D8 (so _))|(with_reducible refine D7 (t3 _))))
             refine wpQuiet_nil ?_;rintro cS ⟨q,hq⟩;have OV:=LR.trans (hq▸q.h);clear hq q q0 q1 q2 q3 q4 q5 q6 t1 t3 so;go_wp2;go_roundw
             case rel=>exact⟨i+1,j,R u,rfl,rfl,by go_num,CB,Ks.out,OV⟩
             case measure=>simp [intOf];omega
            ·subst h6;by_cases h7:0<=k7
             ·have hd7:decide (0<=k7)=true:=decide_eq_true h7;refine Bi (by kernel_rfl) (by kernel_rfl) ?_
              repeat (go_big_quiet_step (first|(with_reducible refine D8 (t1 _))|(with_reducible refine D8 (so _))|(with_reducible refine D7 (t3 _))))
              refine wpQuiet_nil ?_;rintro cS ⟨q,hq⟩;have OV:=LR.trans (hq▸q.h);clear hq q q0 q1 q2 q3 q4 q5 q6 t1 t3 so;go_wp2;go_roundw
              case rel=>exact⟨i+1,j,R u,rfl,rfl,by go_num,CB,Ks.out,OV⟩
              case measure=>simp [intOf];omega
             ·have hd7:decide (0<=k7)=false:=decide_eq_false h7;clear h7;refine Bi (by kernel_rfl) (by kernel_rfl) ?_
              repeat (go_big_quiet_step (first|(with_reducible refine D8 (t1 _))|(with_reducible refine D8 (so _))|(with_reducible refine D7 (t3 _))))
              refine wpQuiet_nil ?_;rintro cS ⟨q,hq⟩;have OV:=LR.trans (hq▸q.h);clear hq q q0 q1 q2 q3 q4 q5 q6 t1 t3 so;go_wp2;go_roundw
              case rel=>exact⟨i+1,i,R up,rfl,rfl,by go_num,CB,bN.out,OV⟩
              case measure=>simp [intOf];omega
            ·have hd6:decide (0<k6)=false:=decide_eq_false (by omega);have hd8:(k6 == 0)=false:=beq_false_of_ne (by omega);clear h6;refine Bi (by kernel_rfl) (by kernel_rfl) ?_
             repeat (go_big_quiet_step (first|(with_reducible refine D8 (t1 _))|(with_reducible refine D8 (so _))|(with_reducible refine D7 (t3 _))))
             refine wpQuiet_nil ?_;rintro cS ⟨q,hq⟩;have OV:=LR.trans (hq▸q.h);clear hq q q0 q1 q2 q3 q4 q5 q6 t1 t3 so;go_wp2;go_roundw
             case rel=>exact⟨i+1,i,R up,rfl,rfl,by go_num,CB,bN.out,OV⟩
             case measure=>simp [intOf];omega
  ·have I9:i=m.eds.length:=(by omega);subst I9;have hle:(m.eds.length:Int)<=(m.eds.length:Int):=by omega
   rcases Ks.out with⟨rfl,rfl⟩|⟨j,hj,u,rfl,rfl,hu,hnv⟩
   ·go_wp2;go_ret;exact⟨-1,rfl,by omega,by omega,EV.trans Ac⟩
   ·have hmem:=Asg hj;have hr1:=F4.out.f0 _ hmem;have hr2:=F4.out.f1 _ hmem;have hr3:=F4.out.t0 _ hmem;have hr4:=F4.out.t1 _ hmem;have hl':=F4.out.l0 _ hmem;have hr':=F4.out.r0 _ hmem;have sa:=(Ku.out _ (Im hr1 hr2)).sz (K:=20) (by omega);have sb:=(Ku.out _ (Im hr3 hr4)).sz (K:=20) (by omega);obtain⟨b,o,rfl,hg1,hg2,hg3,hg4⟩:=Lq (hB.ext Ac) hj;obtain⟨e,he⟩:=AcG (m.eds[j]);rw [←he]at hg1 hg2 hg3 hg4 hr1 hr2 hr3 hr4 sa sb hl' hr';clear he hmem hnv;obtain⟨ef,CZ⟩:∃n:Nat,e.f=(n:Int):=⟨e.f.toNat,by omega⟩;obtain⟨et,Da⟩:∃n:Nat,e.t=(n:Int):=⟨e.t.toNat,by omega⟩;have ED:ef<m.pts.length:=(by omega);have EE:et<m.pts.length:=(by omega);rw [CZ]at hg1;rw [Da]at hg2;obtain⟨ba,oa,rfl,ha1,ha2⟩:=BO (hA.ext Ac) ED;obtain⟨b3,o3,FN,Ct,Cu⟩:=BO (hA.ext Ac) EE;obtain⟨rfl,rfl⟩:ba=b3/\oa=o3:=(by simpa using FN);have e1:m.pts[ef]=AA m.pts e.f:=(by rw [CZ];unfold AA;simp [ED]);have e2:m.pts[et]=AA m.pts e.t:=(by rw [Da];unfold AA;simp [EE]);rw [e1]at ha1 ha2;rw [e2]at Ct Cu;generalize AA m.pts e.f=pa at *;generalize AA m.pts e.t=pb at *;have f0:(0:Int)<=(ef:Int):=(by omega);have f1:(ef:Int)<(m.pts.length:Int):=(by omega);have f2:(0:Int)<=(et:Int):=(by omega);have f3:(et:Int)<(m.pts.length:Int):=(by omega);have j0:(0:Int)<=(j:Int):=(by omega);have j1:(j:Int)<(m.eds.length:Int):=(by omega);have m1:=Ab (o:=1) Ej rfl;have VU:=Asb (And.intro hl' hr');clear CZ Da e1 e2 hr1 hr2 hr3 hr4 hl' hr';have Bu:=Ase wr (.cells #[.int .i64 (ef:Int),.int .i64 (et:Int),.int .i64 e.l,.int .i64 e.r] 59);have E2:=(Aa.refl wr).alloc (.cells #[.int .i64 (ef:Int),.int .i64 (et:Int),.int .i64 e.l,.int .i64 e.r] 59);have n0:=E2.cellS (Ab (o:=0) Ej rfl);replace ha1:=E2.cellS ha1;replace ha2:=E2.cellS ha2;replace Ct:=E2.cellS Ct;replace Cu:=E2.cellS Cu;have DV:=Ac.trans E2
    go_upto_region 26 with fail
    generalize wr.alloc (.cells #[.int .i64 (ef:Int),.int .i64 (et:Int),.int .i64 e.l,.int .i64 e.r] 59)=W at *;obtain⟨be,JR⟩:=AcG wr.heap.size;rw [←JR]at Bu ⊢;clear JR E2 hg1 hg2 hg3 hg4 Ej JP m1;have od:=fun q:Ad W=>Xf pa pb sa sb (by omega) (by omega) q.w (hw.ext (EV.trans (DV.trans q.h)));obtain⟨lo,hlo⟩:=AcG (Bp pa pb);simp only [←hlo]at od;unfold Ak at od;have q0:∀q:Ad W,q.w.cell? ⟨bm,0,none⟩=some (.slice (some ⟨ba,oa,none⟩) m.pts.length c):=Ad.cell n0;have q1:∀q:Ad W,q.w.cell? ⟨be,0,none⟩=some (.int .i64 (ef:Int)):=Ad.cell (Ab Bu rfl);have q2:∀q:Ad W,q.w.cell? ⟨be,1,none⟩=some (.int .i64 (et:Int)):=Ad.cell (Ab Bu rfl);have q3:=fun q:Ad W=>Ad.cell ha1 q;have q4:=fun q:Ad W=>Ad.cell ha2 q;have q5:=fun q:Ad W=>Ad.cell Ct q;have q6:=fun q:Ad W=>Ad.cell Cu q;clear hlo n0 ha1 ha2 Ct Cu;by_cases Dc:0<lo
    ·have Pb:decide (0<lo)=true:=decide_eq_true Dc;refine Bi (by kernel_rfl) (by kernel_rfl) ?_
     repeat (go_big_quiet_step (first|(with_reducible refine D7 (od _))))
     refine wpQuiet_nil ?_;rintro W7 ⟨q,hq⟩;have Aj:Aa W W7:=hq▸q.h;have n2:=Aj.cellS (Ab (o:=2) Bu rfl);have BW:=DV.trans Aj;clear hq q q0 q1 q2 q3 q4 q5 q6 od;go_wp2;go_ret;exact⟨e.l,rfl,VU.out.1.1,VU.out.1.2,EV.trans BW⟩
    ·have Pb:decide (0<lo)=false:=decide_eq_false Dc;clear Dc;refine Bi (by kernel_rfl) (by kernel_rfl) ?_
     repeat (go_big_quiet_step (first|(with_reducible refine D7 (od _))))
     refine wpQuiet_nil ?_;rintro W7 ⟨q,hq⟩;have Aj:Aa W W7:=hq▸q.h;have n2:=Aj.cellS (Ab (o:=3) Bu rfl);have BW:=DV.trans Aj;clear hq q q0 q1 q2 q3 q4 q5 q6 od;go_wp2;go_ret;exact⟨e.r,rfl,VU.out.2.1,VU.out.2.2,EV.trans BW⟩
end Go.Proofs.YtdaefncphfeaeaaGreatDoor
