/- Z44: S8 T6. -/
import Derived.Test.YtdaefncphfeaeaaGreatDoorZ42
import Derived.Deep.CutBlock
import Derived.Test.YtdaefncphfeaeaaGreatDoorZ30
set_option maxRecDepth 100000
set_option maxHeartbeats 16000000
namespace Go.Proofs.YtdaefncphfeaeaaGreatDoor
open Go.RowKit Kl
theorem AgH(l:List (Bs×Bs))(i:Nat):flat (l.take i)=(flat l).take (i*2):=by
 induction l generalizing i with
 | nil=>simp [flat]
 | cons e l ih=>
  cases i with
  | zero=>simp [flat]
  | succ i=>have e0:∀l,flat (e::l)=S e.1::S e.2::flat l:=fun _=>rfl;rw [List.take_succ_cons,e0,e0,ih];have e1:(i+1)*2=i*2+1+1:=(by omega);rw [e1];simp
theorem Amq(l:List Pt)(i:Nat):AI (l.take i)=(AI l).take i:=by unfold AI;rw [List.map_take]
theorem Af1(l:List Pt)(i:Nat)(hi:i<=l.length)(p:Pt)(A:Option Addr)(c:Nat)(w:World)(hr:Am w A (flat (AI l)))(hc:l.length<=c)(hcm:c<=9223372036854775807) :
  Calls Tryz.prog 50 #[.slice A i c,Ak p] w (Dq ((l.take i).any (Ar p)) w):=by
 have:=contains_c (l.take i) p A c w (by rw [Amq,AgH];exact hr.take _) (by rw [List.length_take];omega) hcm;rw [List.length_take,Nat.min_eq_left hi]at this;exact this
def yh(m:B7):List Sg:=(CV m.pts m.eds).map (·.1)
def yc(m:B7):List (Pt×List Pt):=(GO m.pts m.eds).map (fun e=>(e.1,GR e.1 e.2))
def Vd(m:B7):List (List Sg):=OD (yh m) (yc m)
def Zp(m:B7):List Int:=RP (yh m) (Vd m)
def uK(m:B7):Int:=if Td (GO m.pts m.eds) m.pts=true then 25 else if SD (CV m.pts m.eds) m.nf (Vd m) (Zp m)=true then 0 else 14
theorem AlY(m:B7)(hgr:∀p∈m.pts,Gg p){k:Nat}(hk:0<k)(hk2:k<=200)(hz:∀p∈m.pts,Aq k p)(A B F:Option Addr)(c d g:Nat)(BF:IW m c d g)(w:World)(hw:Ai w)(hA:Am w A (flat (AI m.pts)))(hB:Am w B (Ce m.eds))(r:Int)
  (h0:JJ m=true→r=4) (h1:JJ m=false→DO [] m.pts≠0→r=DO [] m.pts)
  (h2:JJ m=false→DO [] m.pts=0→DR m.pts.length m.nf [] m.eds≠0→r=DR m.pts.length m.nf [] m.eds) (h3:JJ m=false→DO [] m.pts=0→DR m.pts.length m.nf [] m.eds=0→FA m.pts [] m.eds≠0→r=26)
  (h4:JJ m=false→DO [] m.pts=0→DR m.pts.length m.nf [] m.eds=0→FA m.pts [] m.eds=0→r=uK m) :
  Calls Tryz.prog 17 #[Dh A B F m c d g] w (AQ r w):=by
 have HA:=Asb hA;have HB:=Asb hB;have HZ:=Asb hz;have H0:=Asb h0;have H1:=Asb h1;have H2:=Asb h2;have H3:=Asb h3;have H4:=Asb h4;have Ku:=Asb hgr;have HC:=Asb BF;obtain⟨c1,c2,d1,d2,g1,g2⟩:=BF;have HL:=Asb (show JJ m=(decide (400<m.pts.length)||(decide (1200<m.eds.length)||decide (800<m.nf)))from rfl);have hM:=Ase w (.cells #[.slice A m.pts.length c,.slice B m.eds.length d,.slice F m.nf g] 43);have hE:=(Aa.refl w).alloc (.cells #[.slice A m.pts.length c,.slice B m.eds.length d,.slice F m.nf g] 43);unfold Dh;clear hA hB hz h0 h1 h2 h3 h4 hgr;go_enter Tryz.func17,Tryz.ntmps17
 go_upto_region 1 with fail
 generalize w.alloc (.cells #[.slice A m.pts.length c,.slice B m.eds.length d,.slice F m.nf g] 43)=V at *;obtain⟨bm,Cj⟩:=AcG w.heap.size;rw [←Cj]at hM ⊢;have hle:w.heap.size<=bm:=(by omega);clear Cj;have m1:=Ab (o:=0) hM rfl;have m2:=Ab (o:=1) hM rfl;have m3:=Ab (o:=2) hM rfl;by_cases n1:(400:Int)<(m.pts.length:Int)
 ·have dd:decide ((400:Int)<(m.pts.length:Int))=true:=decide_eq_true n1;have HH:=Asb (show r=4 from H0.out (by rw [HL.out,decide_eq_true (by omega)];rfl));go_wp2;go_ret;exact⟨by rw [HH.out];rfl,hE⟩
 have vB:decide ((400:Int)<(m.pts.length:Int))=false:=decide_eq_false n1;by_cases n2:(1200:Int)<(m.eds.length:Int)
 ·have dd:decide ((1200:Int)<(m.eds.length:Int))=true:=decide_eq_true n2;have HH:=Asb (show r=4 from H0.out (by rw [HL.out,decide_eq_true (p:=1200<m.eds.length) (by omega)];simp));clear n1;go_wp2;go_ret;exact⟨by rw [HH.out];rfl,hE⟩
 have dY:decide ((1200:Int)<(m.eds.length:Int))=false:=decide_eq_false n2;by_cases n3:(800:Int)<(m.nf:Int)
 ·have dd:decide ((800:Int)<(m.nf:Int))=true:=decide_eq_true n3;have HH:=Asb (show r=4 from H0.out (by rw [HL.out,decide_eq_true (p:=800<m.nf) (by omega)];simp));clear n1 n2;go_wp2;go_ret;exact⟨by rw [HH.out];rfl,hE⟩
 have vC:decide ((800:Int)<(m.nf:Int))=false:=decide_eq_false n3;have HN:=Asb (show JJ m=false by rw [HL.out,decide_eq_false (by omega),decide_eq_false (by omega),decide_eq_false (by omega)];rfl);have AqY:m.pts.length<=400:=(by omega);have Aiq:m.eds.length<=1200:=(by omega);have Aqs:m.nf<=800:=(by omega);clear n1 n2 n3 HL H0
 go_upto_block 0 with fail
 clear vB dY vC m1 m2 m3
 go_cut [] (fun wx=>DO [] m.pts=0/\Aa V wx)
 case first=>
  (go_wp2_with fail)
  go_loopw [33] (fun i wr=>∃j:Nat,i=.int .i64 (j:Nat)/\j<=m.pts.length/\DO (m.pts.take j) (m.pts.drop j)=DO [] m.pts/\Aa V wr) (fun i _=>m.pts.length-(intOf i).toNat)
  case atStart=>exact⟨0,rfl,by omega,by simp,Aa.refl _⟩
  case round=>
   obtain⟨j,rfl,hj,Au,Ac⟩:=hrel;have HO:=Asb Au;clear Au;by_cases hlt:j<m.pts.length
   ·obtain⟨b,o,rfl,hg1,hg2⟩:=BO ((HA.out.ext hE).ext Ac) hlt;have hz:=HZ.out m.pts[j] (Asg hlt);obtain⟨p,hp⟩:=AcG (m.pts[j]);have HP:=Asb hp;have HS:=Asb (Afh hlt);rw [←hp]at hg1 hg2 hz;have hj0:(0:Int)<=(j:Int):=(by omega);have AG:(j:Int)<(m.pts.length:Int):=(by omega);have hjc:(j:Int)<=(c:Int):=(by omega);have AS:=Ase wr (.cells #[S (R p.x),S (R p.y)] 35);have hx1:=Ac.alloc (.cells #[S (R p.x),S (R p.y)] 35);have ck:=SL (R p.x) (R p.y) true (by simp only [true_iff];exact⟨Li hz.x hk hk2,Li hz.y hk hk2⟩) (PP hz.x hk (by omega)) (PP hz.y hk (by omega));rw [GA]at ck;clear hp hz
    go_upto_region 6 with fail
    generalize wr.alloc (.cells #[S (R p.x),S (R p.y)] 35)=V1 at *;obtain⟨bp,Hh⟩:=AcG wr.heap.size;rw [←Hh]at AS ⊢;clear Hh hg1 hg2;have k1:=Ab (o:=0) AS rfl;have k2:=Ab (o:=1) AS rfl;(go_wp2_with fail);(with_reducible refine(ck _ (hw.ext (hE.trans hx1))).mono ?_);rintro e w2 ⟨rfl,hx2⟩;have Dj:=(hx2.block _ (Asd AS)).trans AS;replace hx2:=hx1.trans hx2;have hw2:=hw.ext (hE.trans hx2);have Jj:=(hx2.block _ (Asd hM)).trans hM;have f1:∀q:Ad w2,q.w.cell? ⟨bp,0,none⟩=some (S (R p.x)):=Ad.cell (Ab Dj rfl);have f2:∀q:Ad w2,q.w.cell? ⟨bp,1,none⟩=some (S (R p.y)):=Ad.cell (Ab Dj rfl);have f3:∀q:Ad w2,q.w.cell? ⟨bm,0,none⟩=some (.slice (some ⟨b,o,none⟩) m.pts.length c):=Ad.cell (Ab Jj rfl);have ct:=fun q:Ad w2=>Af1 m.pts j hj p (some ⟨b,o,none⟩) c q.w ((HA.out.ext (hE.trans hx2)).ext q.h) c1 c2;unfold Ak at ct;obtain⟨du,KL⟩:=AcG ((m.pts.take j).any (Ar p));rw [←KL]at ct;have HD:=Asb KL;clear KL k1 k2 ck AS Dj Jj hx1 Ac;(go_wp2_with fail);refine Bi (by kernel_rfl) (by kernel_rfl) ?_
    repeat (go_big_quiet_step (with_reducible refine eF (ct _)))
    refine wpQuiet_nil ?_;rintro _ ⟨q,rfl⟩;have hxq:=hx2.trans q.h;have HQ:=Asb hxq
    cases du
    ·have HH:=Asb (show DO (m.pts.take (j+1)) (m.pts.drop (j+1))=DO [] m.pts by
      rw [←HO.out,HS.out,←HP.out,←HD.out];rfl)
     go_wp2;go_roundw
     case rel=>exact⟨j+1,by go_num,hlt,HH.out,HQ.out⟩
     case measure=>simp [intOf];omega
    ·have HH:=Asb (show DO [] m.pts=9 by rw [←HO.out,HS.out,←HP.out,←HD.out];rfl);have HR:=Asb (show r=9 by rw [←HH.out];exact H1.out HN.out (by rw [HH.out];omega));go_wp2;go_ret;exact⟨by rw [HR.out];rfl,hE.trans HQ.out⟩
   ·have hle:(m.pts.length:Int)<=(j:Int):=(by omega);have HH:=Asb (show DO [] m.pts=0 by rw [←HO.out,List.drop_eq_nil_of_le (by omega)];unfold DO;rfl);go_wp2;go_meet;exact⟨HH.out,Ac⟩
 case rest=>
  obtain⟨hc1,hx1⟩:=hcut;have qB:=Asb (fun h=>H2.out HN.out hc1 h);have aU:=Asb hc1;have rK:=Asb hx1;have LO:=(hx1.block _ (Asd hM)).trans hM;have m1:=Ab (o:=1) LO rfl;clear hc1 H1 hx1
  go_upto_block 3 with fail
  clear m1
  go_cut [] (fun wx=>DR m.pts.length m.nf [] m.eds=0/\Aa V wx)
  case first=>
   (go_wp2_with fail)
   go_loopw [53] (fun i wr=>∃j:Nat,i=.int .i64 (j:Nat)/\j<=m.eds.length/\DR m.pts.length m.nf (m.eds.take j) (m.eds.drop j)=DR m.pts.length m.nf [] m.eds/\Aa V wr) (fun i _=>m.eds.length-(intOf i).toNat)
   case atStart=>exact⟨0,rfl,by omega,by simp,rK.out⟩
   case round=>
    obtain⟨j,rfl,hj,Au,Ac⟩:=hrel;have HO:=Asb Au;clear Au;by_cases hlt:j<m.eds.length
    ·have hj0:(0:Int)<=(j:Int):=(by omega);have AG:(j:Int)<(m.eds.length:Int):=(by omega);have HS:=Asb (Afi (np:=m.pts.length) (nf:=m.nf) hlt);have ce:=Afb m A B F c d g HC.out j hlt wr (HB.out.ext (hE.trans Ac));obtain⟨z,hz⟩:=AcG (K8 m.pts.length m.nf (m.eds.take j) m.eds[j]);rw [←hz]at ce;have MH:=Asb hz;unfold Dh at ce;have Ej:=(Ac.block _ (Asd hM)).trans hM;have m1:=Ab (o:=0) Ej rfl;have m2:=Ab (o:=1) Ej rfl;have m3:=Ab (o:=2) Ej rfl;clear hz Ej;(go_wp2_with fail);(with_reducible refine ce.mono ?_);rintro e w2 ⟨rfl,hx2⟩;have HX:=Asb (Ac.trans hx2);clear m1 m2 m3 hx2 ce;by_cases hz0:z=0
     ·have HH:=Asb (show DR m.pts.length m.nf (m.eds.take (j+1)) (m.eds.drop (j+1))=DR m.pts.length m.nf [] m.eds by
       rw [←HO.out,HS.out,←MH.out,if_neg (by omega)])
      subst hz0;go_wp2;go_roundw
      case rel=>exact⟨j+1,by go_num,hlt,HH.out,HX.out⟩
      case measure=>simp [intOf];omega
     ·have HH:=Asb (show DR m.pts.length m.nf [] m.eds=z by rw [←HO.out,HS.out,←MH.out,if_pos (by omega)]);have HR:=Asb (show r=z by rw [←HH.out];exact qB.out (by rw [HH.out];exact hz0));have dd:(z == 0)=false:=(by rw [beq_eq_false_iff_ne];exact hz0);have dY:(z != 0)=true:=(by rw [bne_iff_ne];exact hz0);clear hz0;go_wp2;go_ret;exact⟨by rw [HR.out];rfl,hE.trans HX.out⟩
    ·have hle:(m.eds.length:Int)<=(j:Int):=(by omega);have HH:=Asb (show DR m.pts.length m.nf [] m.eds=0 by rw [←HO.out,List.drop_eq_nil_of_le (by omega)];unfold DR;rfl);go_wp2;go_meet;exact⟨HH.out,Ac⟩
  case rest=>
   obtain⟨hc2,hx1⟩:=hcut;have qC:=Asb (fun h=>H3.out HN.out aU.out hc2 h);have Gb:=Asb hc2;have HX2:=Asb hx1;have LO:=(hx1.block _ (Asd hM)).trans hM;have m1:=Ab (o:=1) LO rfl;clear hc2 qB rK hx1
   go_upto_region 18 with fail
   go_upto_block 5 with fail
   go_cut [] (fun wx=>FA m.pts [] m.eds=0/\Aa V wx)
   case first=>
    (go_wp2_with fail)
    go_loopw [66] (fun i wr=>∃j:Nat,i=.int .i64 (j:Nat)/\j<=m.eds.length/\FA m.pts (m.eds.take j) (m.eds.drop j)=FA m.pts [] m.eds/\Aa V wr) (fun i _=>m.eds.length-(intOf i).toNat)
    case atStart=>exact⟨0,rfl,by omega,by simp,HX2.out⟩
    case round=>
     obtain⟨j,rfl,hj,Au,Ac⟩:=hrel;have HO:=Asb Au;clear Au;by_cases hlt:j<m.eds.length
     ·have hj0:(0:Int)<=(j:Int):=(by omega);have AG:(j:Int)<(m.eds.length:Int):=(by omega);have hjd:(j:Int)<=(d:Int):=(by omega);have HS:=Asb (Afj (pts:=m.pts) hlt);obtain⟨b,o,rfl,hg1,hg2,hg3,hg4⟩:=Lq ((HB.out.ext hE).ext Ac) hlt;have hck:=SN (Qr (l:=m.eds) Gb.out j hlt);obtain⟨e,he⟩:=AcG (m.eds[j]);rw [←he]at hg1 hg2 hg3 hg4 hck;have qH:=Asb he;obtain⟨ef,CZ⟩:∃n:Nat,e.f=(n:Int):=⟨e.f.toNat,by omega⟩;obtain⟨et,Da⟩:∃n:Nat,e.t=(n:Int):=⟨e.t.toNat,by omega⟩;have ED:ef<m.pts.length:=(by omega);have EE:et<m.pts.length:=(by omega);have qG:=Asb (And.intro CZ Da);rw [CZ]at hg1;rw [Da]at hg2;obtain⟨ba,oa,rfl,ha1,ha2⟩:=BO ((HA.out.ext hE).ext Ac) ED;obtain⟨b2,o2,JX,hb1,hb2⟩:=BO ((HA.out.ext hE).ext Ac) EE;obtain⟨rfl,rfl⟩:ba=b2/\oa=o2:=(by simpa using JX);have Rq:=HZ.out m.pts[ef] (Asg ED);have hzb:=HZ.out m.pts[et] (Asg EE);obtain⟨pa,FU⟩:=AcG (m.pts[ef]);obtain⟨pb,NJ⟩:=AcG (m.pts[et]);rw [←FU]at ha1 ha2 Rq;rw [←NJ]at hb1 hb2 hzb;have VY:=Asb (And.intro FU NJ);have f0:(0:Int)<=(ef:Int):=(by omega);have f1:(ef:Int)<(m.pts.length:Int):=(by omega);have f2:(0:Int)<=(et:Int):=(by omega);have f3:(et:Int)<(m.pts.length:Int):=(by omega);have Ej:=(Ac.block _ (Asd hM)).trans hM;have m1:=Ab (o:=1) Ej rfl;have AS:=Ase wr (.cells #[.int .i64 (ef:Nat),.int .i64 (et:Nat),.int .i64 e.l,.int .i64 e.r] 59);have hx1:=Ac.alloc (.cells #[.int .i64 (ef:Nat),.int .i64 (et:Nat),.int .i64 e.l,.int .i64 e.r] 59);have hx0:=(Aa.refl wr).alloc (.cells #[.int .i64 (ef:Nat),.int .i64 (et:Nat),.int .i64 e.l,.int .i64 e.r] 59);replace ha1:=hx0.cellS ha1;replace ha2:=hx0.cellS ha2;replace hb1:=hx0.cellS hb1;replace hb2:=hx0.cellS hb2;clear hck he CZ Da JX FU NJ
      go_upto_region 21 with fail
      generalize wr.alloc (.cells #[.int .i64 (ef:Nat),.int .i64 (et:Nat),.int .i64 e.l,.int .i64 e.r] 59)=V1 at *;obtain⟨bp,Hh⟩:=AcG wr.heap.size;rw [←Hh]at AS ⊢;clear Hh hg1 hg2 hg3 hg4 Ac Ej m1 hx0;have Gl:=(hx1.block _ (Asd hM)).trans hM;have m1:=Ab (o:=1) Gl rfl
      go_upto_region 22 with fail
      clear m1
      go_loopw [76] (fun i wr=>∃jj:Nat,i=.int .i64 (jj:Nat)/\jj<=j/\(∀f∈m.eds.take jj,Qv m.pts e f=false)/\Aa V1 wr) (fun i _=>j-(intOf i).toNat)
      case atStart=>exact⟨0,rfl,by omega,by simp,Aa.refl _⟩
      case round=>
       obtain⟨jj,rfl,FO,Au,Ac⟩:=hrel;have VX:=Asb Au;clear Au;by_cases hlt2:jj<j
       ·have jj0:(0:Int)<=(jj:Int):=(by omega);have jjl:(jj:Int)<(j:Int):=(by omega);have jR:jj<m.eds.length:=(by omega);obtain⟨b',o',BA,hg1,hg2,hg3,hg4⟩:=Lq (((HB.out.ext hE).ext hx1).ext Ac) jR;obtain⟨rfl,rfl⟩:b=b'/\o=o':=(by simpa using BA);have hck:=SN (Qr (l:=m.eds) Gb.out jj jR);obtain⟨f,hf⟩:=AcG (m.eds[jj]);rw [←hf]at hg1 hg2 hg3 hg4 hck;have qK:=Asb hf;obtain⟨ff,jD⟩:∃n:Nat,f.f=(n:Int):=⟨f.f.toNat,by omega⟩;obtain⟨ft,jG⟩:∃n:Nat,f.t=(n:Int):=⟨f.t.toNat,by omega⟩;have jE:ff<m.pts.length:=(by omega);have jH:ft<m.pts.length:=(by omega);have qJ:=Asb (And.intro jD jG);rw [jD]at hg1;rw [jG]at hg2;obtain⟨b3,o3,FN,hc1,hc2⟩:=BO ((HA.out.ext hE).ext hx1) jE;obtain⟨b4,o4,fg,Eo,C3⟩:=BO ((HA.out.ext hE).ext hx1) jH;obtain⟨rfl,rfl⟩:ba=b3/\oa=o3:=(by simpa using FN);obtain⟨rfl,rfl⟩:ba=b4/\oa=o4:=(by simpa using fg);have mD:=HZ.out m.pts[ff] (Asg jE);have hzd:=HZ.out m.pts[ft] (Asg jH);obtain⟨pc,kO⟩:=AcG (m.pts[ff]);obtain⟨pd,kP⟩:=AcG (m.pts[ft]);rw [←kO]at hc1 hc2 mD;rw [←kP]at Eo C3 hzd;have qY:=Asb (And.intro kO kP);have f4:(0:Int)<=(ff:Int):=(by omega);have f5:(ff:Int)<(m.pts.length:Int):=(by omega);have f6:(0:Int)<=(ft:Int):=(by omega);have f7:(ft:Int)<(m.pts.length:Int):=(by omega);have Dj:=Ase wr (.cells #[.int .i64 (ff:Nat),.int .i64 (ft:Nat),.int .i64 f.l,.int .i64 f.r] 59);have hx2:=Ac.alloc (.cells #[.int .i64 (ff:Nat),.int .i64 (ft:Nat),.int .i64 f.l,.int .i64 f.r] 59);clear hck hf jD jG FN fg kO kP BA
        go_upto_region 24 with fail
        generalize wr.alloc (.cells #[.int .i64 (ff:Nat),.int .i64 (ft:Nat),.int .i64 f.l,.int .i64 f.r] 59)=V2 at *;obtain⟨bq,TJ⟩:=AcG wr.heap.size;rw [←TJ]at Dj ⊢;have hx3:=hx1.trans hx2;have Jj:=(hx2.block _ (Asd Gl)).trans Gl;have gX:=(hx2.block _ (Asd AS)).trans AS;have La:=hw.ext (hE.trans hx3);have q1:∀q:Ad V2,q.w.cell? ⟨bm,0,none⟩=some (.slice (some ⟨ba,oa,none⟩) m.pts.length c):=Ad.cell (Ab Jj rfl);have q2:∀q:Ad V2,q.w.cell? ⟨bp,0,none⟩=some (.int .i64 (ef:Nat)):=Ad.cell (Ab gX rfl);have q3:∀q:Ad V2,q.w.cell? ⟨bp,1,none⟩=some (.int .i64 (et:Nat)):=Ad.cell (Ab gX rfl);have q4:∀q:Ad V2,q.w.cell? ⟨bq,0,none⟩=some (.int .i64 (ff:Nat)):=Ad.cell (Ab Dj rfl);have q5:∀q:Ad V2,q.w.cell? ⟨bq,1,none⟩=some (.int .i64 (ft:Nat)):=Ad.cell (Ab Dj rfl);have a1:∀q:Ad V2,q.w.cell? ⟨ba,oa+ef*2,none⟩=some (S (R pa.x)):=Ad.cell (hx2.cellS ha1);have a2:∀q:Ad V2,q.w.cell? ⟨ba,oa+ef*2+1,none⟩=some (S (R pa.y)):=Ad.cell (hx2.cellS ha2);have a3:∀q:Ad V2,q.w.cell? ⟨ba,oa+et*2,none⟩=some (S (R pb.x)):=Ad.cell (hx2.cellS hb1);have a4:∀q:Ad V2,q.w.cell? ⟨ba,oa+et*2+1,none⟩=some (S (R pb.y)):=Ad.cell (hx2.cellS hb2);have a5:∀q:Ad V2,q.w.cell? ⟨ba,oa+ff*2,none⟩=some (S (R pc.x)):=Ad.cell (hx2.cellS hc1);have a6:∀q:Ad V2,q.w.cell? ⟨ba,oa+ff*2+1,none⟩=some (S (R pc.y)):=Ad.cell (hx2.cellS hc2);have a7:∀q:Ad V2,q.w.cell? ⟨ba,oa+ft*2,none⟩=some (S (R pd.x)):=Ad.cell (hx2.cellS Eo);have a8:∀q:Ad V2,q.w.cell? ⟨ba,oa+ft*2+1,none⟩=some (S (R pd.y)):=Ad.cell (hx2.cellS C3);have cr:=fun q:Ad V2=>AlZ pa pb pc pd Rq hzb mD hzd hk (by omega) q.w (La.ext q.h);obtain⟨cx,Yc⟩:=AcG (Og pa pb pc pd);rw [←Yc]at cr
        have hce:Qv m.pts e f=cx:=by unfold Qv AA;rw [qG.out.1,qG.out.2,qJ.out.1,qJ.out.2,Yc,VY.out.1,VY.out.2,qY.out.1,qY.out.2];simp [ED,EE,jE,jH]
        have qD:=Asb hce;unfold Ak at cr;clear TJ Jj gX Dj ha1 ha2 hb1 hb2 hc1 hc2 Eo C3 Rq hzb mD hzd Yc hce hg1 hg2 hg3 hg4 Gl AS;refine Bi (by kernel_rfl) (by kernel_rfl) ?_
        repeat (go_big_quiet_step (with_reducible refine eF (cr _)))
        refine wpQuiet_nil ?_;rintro _ ⟨q,rfl⟩;have HX4:=Asb (hx2.trans q.h);have HX5:=Asb (hE.trans (hx3.trans q.h));clear q1 q2 q3 q4 q5 a1 a2 a3 a4 a5 a6 a7 a8 cr hx2 hx3
        cases cx
        ·go_wp2;go_roundw
         case rel=>
          refine⟨jj+1,by go_num,by omega,?_,HX4.out⟩;intro x hx;rw [Asi jR,←qK.out]at hx
          rcases List.mem_append.1 hx with h|h
          ·exact VX.out x h
          ·simp only [Ass]at h;rw [h];exact qD.out
         case measure=>simp [intOf];omega
        ·have HH:=Asb (show FA m.pts [] m.eds=26 by
          rw [←HO.out,HS.out,if_pos];rw [←qH.out,List.any_eq_true]
          exact⟨f,by rw [qK.out,List.mem_take_iff_getElem];exact⟨jj,by omega,rfl⟩,qD.out⟩)
         have HR:=Asb (show r=26 from qC.out (by rw [HH.out];omega));go_wp2;go_ret;exact⟨by rw [HR.out];rfl,HX5.out⟩
       ·have Yr:(j:Int)<=(jj:Int):=(by omega);obtain rfl:jj=j:=by omega
        have HH:=Asb (show FA m.pts (m.eds.take (jj+1)) (m.eds.drop (jj+1))=FA m.pts [] m.eds by
         rw [←HO.out,HS.out,if_neg];rw [←qH.out,Bool.not_eq_true,List.any_eq_false]
         intro x hx;rw [VX.out x hx];simp)
        have HX:=Asb (hx1.trans Ac);go_wp2;go_roundw
        case rel=>exact⟨jj+1,by go_num,hlt,HH.out,HX.out⟩
        case measure=>simp [intOf];omega
     ·have hle:(m.eds.length:Int)<=(j:Int):=(by omega);have HH:=Asb (show FA m.pts [] m.eds=0 by rw [←HO.out,List.drop_eq_nil_of_le (by omega)];unfold FA;rfl);go_wp2;go_meet;exact⟨HH.out,Ac⟩
   case rest=>
    obtain⟨hc3,hx1⟩:=hcut;obtain⟨wx,rfl⟩:=named hx1;have HH4:=Asb (H4.out HN.out aU.out Gb.out hc3);have Yg:=Agk aU.out Gb.out;have LO:=(hx1.block _ (Asd hM)).trans hM;have x0:=Ab (o:=0) LO rfl;have x1:=Ab (o:=1) LO rfl;have x2:=Ab (o:=2) LO rfl;have Fo:=hE.trans hx1;have BF:IW m c d g:=HC.out;have oc:=Als m A B F c d g BF Yg Aiq wx (HA.out.ext Fo) (HB.out.ext Fo);have Ajd:=hw.ext Fo;unfold Dh at oc;have ag:=fun (w2:World) (h2:Aa wx w2) (rn b1 b2:Nat) (E:List (Pt×Value×Nat)) (hn:Cl wx.heap.size w2 rn b1 b2 (CV m.pts m.eds) E (GO m.pts m.eds))=>Aeh Ajd h2 hn rfl (Alh m.pts m.eds) (Alk Yg Ku.out hc3) (yi Yg Ku.out) (by rw [Alj];omega) (fun e he=>by have:=ye m.pts m.eds e he;omega) m.nf (by omega) (Ali Gb.out) (R1:=yc m) rfl (C:=Vd m) rfl (rg:=Zp m) rfl;have Kc:∀(fn:Fn) (first cap:Array Value) (w:World),(Instr.makeFunc fn first cap).run Tryz.prog w=.ok (.func fn first cap) w:=fun _ _ _ _=>rfl;have qT:=Asb LO;obtain⟨fw,hfw⟩:=AcG (Td (GO m.pts m.eds) m.pts);obtain⟨ab,hab⟩:=AcG (SD (CV m.pts m.eds) m.nf (Vd m) (Zp m))
    have hr:r=if fw=true then 25 else if ab=true then 0 else 14:=by rw [HH4.out,hfw,hab];rfl
    have HFW:=Asb hfw;have HR:=Asb hr;rw [←hab]at ag;generalize (Qj (CV m.pts m.eds) m.nf (Vd m) (Zp m)).op=ao at *;clear LO hx1 Yg hc3 hfw hab hr H2 H3 qC
    go_upto_region 28 with fail
    (go_wp2_with fail);(with_reducible refine oc.mono ?_);rintro e w2 ⟨rn,b1,b2,E,rfl,hx2,DZ⟩;have DU:=(Aa.refl w2).alloc (.cells #[.pointer (some ⟨rn,0,none⟩)] 105);have BJ:=Ase w2 (.cells #[.pointer (some ⟨rn,0,none⟩)] 105);have Mf:=DZ.ext DU;have hx3:=hx2.trans DU;have Du:=(hx3.block _ (Asd qT.out)).trans qT.out;have y0:=Ab (o:=0) Du rfl;clear x0 x1 x2 oc DZ
    go_upto_region 29 with fail
    generalize w2.alloc (.cells #[.pointer (some ⟨rn,0,none⟩)] 105)=w3 at *;obtain⟨bn,I7⟩:=AcG w2.heap.size;rw [←I7]at BJ ⊢;clear I7;have af:=Aek Mf bn (Ab BJ rfl) m.pts A c (HA.out.ext (Fo.trans hx3)) (by assumption) (by assumption);rw [←HFW.out]at af;(go_wp2_with fail);(with_reducible refine af.mono ?_);rintro e w4 ⟨rfl,Af⟩;have sr:=hx3.trans Af;have XB:=(Af.block _ (Asd Du)).trans Du;have Jm:=(Af.block _ (Asd BJ)).trans BJ;have z2:=Ab (o:=2) XB rfl;have z3:=Ab (o:=0) Jm rfl;have ag4:=ag w4 sr rn b1 b2 E (Mf.ext Af);clear ag af Du BJ XB Jm y0 Mf hx2 hx3 DU Af
    cases fw
    ·have L2:=Asb (show r=if ab=true then 0 else 14 from HR.out);(go_wp2_with fail);(with_reducible refine ag4.mono ?_);rintro e w5 ⟨rfl,Ae⟩
     cases ab
     ·obtain rfl:r=14:=L2.out;go_wp2;go_ret;exact⟨rfl,Fo.trans Ae⟩
     ·obtain rfl:r=0:=L2.out;go_wp2;go_ret;exact⟨rfl,Fo.trans Ae⟩
    ·obtain rfl:r=25:=HR.out;go_wp2;go_ret;exact⟨rfl,Fo.trans sr⟩
def Ds(m:B7):Int:=
 if JJ m=true then 4 else if DO [] m.pts≠0 then DO [] m.pts else if DR m.pts.length m.nf [] m.eds≠0 then DR m.pts.length m.nf [] m.eds else if FA m.pts [] m.eds≠0 then 26 else uK m
theorem nN(m:B7)(hgr:∀p∈m.pts,Gg p)(A B F:Option Addr)(c d g:Nat)(BF:IW m c d g)(w:World)(hw:Ai w)(hA:Am w A (flat (AI m.pts)))(hB:Am w B (Ce m.eds)) :
  Calls Tryz.prog 17 #[Dh A B F m c d g] w (AQ (Ds m) w):=by
 refine AlY m hgr (k:=200) (by omega) (by omega) (fun p hp=>(hgr p hp).sz (by omega)) A B F c d g BF w hw hA hB (Ds m) ?_ ?_ ?_ ?_ ?_
 ·intro h;unfold Ds;rw [if_pos h]
 ·intro h h1;unfold Ds;rw [if_neg (by rw [h];simp),if_pos h1]
 ·intro h h1 h2;unfold Ds;rw [if_neg (by rw [h];simp),if_neg (by omega),if_pos h2]
 ·intro h h1 h2 h3;unfold Ds;rw [if_neg (by rw [h];simp),if_neg (by omega),if_neg (by omega),if_pos h3]
 ·intro h h1 h2 h3;unfold Ds;rw [if_neg (by rw [h];simp),if_neg (by omega),if_neg (by omega),if_neg (by omega)]
def KD(c:Cv)(pts:List Pt)(e:AO):List Value:=[.int .i64 (Br c (AA pts e.f)),.int .i64 (Bt c (AA pts e.f)),.int .i64 (Br c (AA pts e.t)),.int .i64 (Bt c (AA pts e.t))]
def Fi(c:Cv)(pts:List Pt)(l:List AO):List Value:=l.flatMap (KD c pts)
theorem AfZ(c:Cv)(pts:List Pt)(l:List AO):(Fi c pts l).length=l.length*4:=by
 induction l with
 | nil=>rfl
 | cons h l ih=>simp [Fi,KD]at ih ⊢;omega
theorem Tryz.infoD2:(Tryz.prog.info? 62).map (fun i=>(i.zero,i.size,i.bytes))=some (some (.agg #[.int .i64 0,.int .i64 0,.int .i64 0,.int .i64 0]),4,32):=by kernel_rfl
structure S1(c:Cv):Prop where
 ok:It c
 col:∀p,BL p→-1000000<=Br c p/\Br c p<=1000000
 row:∀p,BL p→-1000000<=Bt c p/\Bt c p<=1000000
theorem AgM(f:Fr):S1 (DT f):=⟨AgK f,fun _ h=>AgL f h,fun _ h=>AgN f h⟩
theorem WS{m:B7}(h:Ds m=0):∀e∈m.eds,(0<=e.f/\e.f<(m.pts.length:Int))/\(0<=e.t/\e.t<(m.pts.length:Int))/\(-1<=e.l/\e.l<(m.nf:Int))/\(-1<=e.r/\e.r<(m.nf:Int)):=by
 unfold Ds at h
 have h2:DR m.pts.length m.nf [] m.eds=0:=by
  by_cases a:JJ m=true
  ·rw [if_pos a]at h;omega
  ·rw [if_neg a]at h;by_cases b:DO [] m.pts≠0
   ·rw [if_pos b]at h;omega
   ·rw [if_neg b]at h;by_cases d:DR m.pts.length m.nf [] m.eds≠0
    ·rw [if_pos d]at h;omega
    ·omega
 intro e he;obtain⟨j,hj,rfl⟩:=List.getElem_of_mem he;have k:=SN (Qr (l:=m.eds) h2 j hj);have s1:=k.2.2.2.2.2.2.1;have s2:=k.2.2.2.2.2.2.2;unfold Fc at s1 s2;simp only [Bool.and_eq_true,decide_eq_true_eq]at s1 s2;exact⟨⟨k.1,k.2.2.1⟩,⟨k.2.1,k.2.2.2.1⟩,s1,by first|exact s2|exact s2.1⟩
theorem Afm{m:B7}(h:Ds m=0):m.eds.length<=1200:=by
 unfold Ds at h;by_cases a:JJ m=true
 ·rw [if_pos a]at h;omega
 ·unfold JJ at a;simp only [Bool.or_eq_true,decide_eq_true_eq,not_or]at a;omega
def aS(c:Cv)(m:B7)(w:World)(e:Ending)(w':World):Prop:=
 ∃v,e=.returned (.tuple #[v,.int .i64 (Ds m)])/\(Ds m≠0→v=.slice none 0 0)/\(Ds m=0→w'.ownsRow w.heap.size 62 4 v m.eds.length (Fi c m.pts m.eds))/\Aa w w'
section
variable {ops : Array Oper} {rest : List Oper} {o : Oper} {a : Act} {K : Act → World → Prop} {Q : Exit → Act → World → Prop}
theorem Aem(hgd:o.guard=none)(s x:Operand)(ho:o.op=.call {callee:=.builtin .append,args:=#[s,x],argTypes:=#[53,53]})
  (wN:World) (base:Nat) (v:Value) (n:Nat) (c:Cv) (pts:List Pt) (l:List AO) (d:AO) (hs:a.eval s=v) (hown:wN.ownsRow base 62 4 v n (Fi c pts l)) (hn:n<200000)
  (g:Nat) (hb:wN.heap[g]?=some (.cells (KD c pts d).toArray 62)) (hx:a.eval x=.slice (some ⟨g,0,none⟩) 1 1) (hbase:base<=wN.heap.size)
  (h:∀v' w',w'.ownsRow base 62 4 v' (n+1) (Fi c pts (l ++ [d]))→(∀w0,Aa w0 wN→w0.heap.size<=base→Aa w0 w')→wN.grownBy w' v.ownBlock→wpList Tryz.prog ops Q rest (a.put o.dst v') w') :
  wpList Tryz.prog ops Q (o::rest) a wN:=by
 refine wpList_plain hgd fun _ hK=>?_;obtain⟨i0,hi,hz0,hz1,hz2⟩:=info_parts Tryz.infoD2;refine Sj s x 53 ho 62 i0 _ 4 32 1 Tryz.underlying53 hi hz0 hz1 hz2 rfl (by omega) (by omega) (by omega) wN base v n _ hs hown hn g _ hb (by simp [KD]) ?_ hx hbase ?_
 ·intro u hu;simp only [KD,List.mem_cons,Asr,or_false]at hu
  rcases hu with rfl|rfl|rfl|rfl<;>rfl
 ·intro v' w' h1 h2 h3;refine hK _ _ (h v' w' ?_ h2 h3);have:Fi c pts (l ++ [d])=Fi c pts l++(KD c pts d).toArray.toList:=(by simp [Fi]);rw [this];exact h1
end
theorem Agi(c:Cv)(hc:S1 c)(m:B7)(Bf:∀p∈m.pts,BL p)(A B F:Option Addr)(ca cb cf:Nat)(BF:IW m ca cb cf)(w:World)(hw:Ai w)(hA:Am w A (flat (AI m.pts)))(hB:Am w B (Ce m.eds)) :
  Calls Tryz.prog 16 #[BQ c,Dh A B F m ca cb cf] w (aS c m w):=by
 have HC:=Asb hc;have Iw:=Asb Bf;have PW:=Asb BF;obtain⟨c1,c2,d1,d2,g1,g2⟩:=BF
 obtain⟨V,hV,EV,Cw,hM⟩:∃V,V=(w.alloc (.cells #[S (R c.low.x),S (R c.low.y),S (R c.high.x),S (R c.high.y),.int .i64 (c.W:Nat),.int .i64 (c.H:Nat)] 37)).alloc (.cells #[.slice A m.pts.length ca,.slice B m.eds.length cb,.slice F m.nf cf] 43)/\Aa w V/\V.heap[w.heap.size]?=some (.cells #[S (R c.low.x),S (R c.low.y),S (R c.high.x),S (R c.high.y),.int .i64 (c.W:Nat),.int .i64 (c.H:Nat)] 37)/\V.heap[w.heap.size+1]?=some (.cells #[.slice A m.pts.length ca,.slice B m.eds.length cb,.slice F m.nf cf] 43):=by
  refine⟨_,rfl,((Aa.refl _).alloc _).alloc _,(Below.heap_alloc _ _ _ (by simp)).trans (Ase w _),?_⟩;have h:=Ase (w.alloc (.cells #[S (R c.low.x),S (R c.low.y),S (R c.high.x),S (R c.high.y),.int .i64 (c.W:Nat),.int .i64 (c.H:Nat)] 37)) (.cells #[.slice A m.pts.length ca,.slice B m.eds.length cb,.slice F m.nf cf] 43)
  rwa [Asn]at h
 have hA:=hA.ext EV;have hB:=hB.ext EV;have dc:=WZ c hc.ok V (hw.ext EV);have pc:=fun (w':World) (h:Aa V w')=>nN m (fun p hp=>(Bf p hp).on) A B F ca cb cf PW.out w' (hw.ext (EV.trans h)) (hA.ext h) (hB.ext h);have Pq:=@WS m;have hlen:=@Afm m;obtain⟨ck,hck⟩:=AcG (Ds m);have NK:aS c m w=fun e w'=>∃v,e=.returned (.tuple #[v,.int .i64 ck])/\(ck≠0→v=.slice none 0 0)/\(ck=0→w'.ownsRow w.heap.size 62 4 v m.eds.length (Fi c m.pts m.eds))/\Aa w w':=(by rw [hck];rfl);rw [NK];rw [←hck]at Pq hlen;simp only [←hck]at pc;have HR:=Asb Pq;have Su:=Asb hlen;unfold Dh BQ at *;clear Bf hc NK hck Pq hlen;go_enter Tryz.func16,Tryz.ntmps16
 go_upto_region 1 with fail
 rw [←hV];obtain⟨bm,Cj⟩:=AcG w.heap.size;have AhQ:w.heap.size<=bm:=(by omega);rw [←Cj]at hM Cw ⊢;clear hV Cj;have z0:=Ab (o:=0) Cw rfl;have z1:=Ab (o:=1) Cw rfl;have z2:=Ab (o:=2) Cw rfl;have z3:=Ab (o:=3) Cw rfl;have z4:=Ab (o:=4) Cw rfl;have z5:=Ab (o:=5) Cw rfl;(go_wp2_with fail);(with_reducible refine dc.mono ?_);rintro e w1 ⟨rfl,hx1⟩;have y0:w1.cell? ⟨bm+1,0,none⟩=_:=hx1.cellS (Ab (o:=0) hM rfl);have y1:w1.cell? ⟨bm+1,1,none⟩=_:=hx1.cellS (Ab (o:=1) hM rfl);have y2:w1.cell? ⟨bm+1,2,none⟩=_:=hx1.cellS (Ab (o:=2) hM rfl);clear z0 z1 z2 z3 z4 z5 dc;have pk:=pc w1 hx1;(go_wp2_with fail);(with_reducible refine pk.mono ?_);rintro e w2 ⟨rfl,hx2⟩;have Cs:=hx1.trans hx2;have m1:w2.cell? ⟨bm+1,1,none⟩=_:=hx2.cellS y1;clear y0 y1 y2 pk pc;by_cases h0:ck=0
 ·have L2:=Asb (HR.out h0);have hle:=Su.out h0;subst h0;have hl0:(0:Int)<=(m.eds.length:Int):=by omega
  go_upto_region 9 with fail
  clear m1
  go_loopw [8,27] (fun ov iv wr=>∃i:Nat,iv=.int .i64 (i:Nat)/\i<=m.eds.length/\wr.ownsRow V.heap.size 62 4 ov i (Fi c m.pts (m.eds.take i))/\Aa V wr) (fun _ iv _=>m.eds.length-(intOf iv).toNat)
  case atStart=>exact⟨0,rfl,by omega,⟨rfl,.inl ⟨rfl,by simp⟩⟩,Cs⟩
  case round=>
   obtain⟨i,rfl,hi,hown,Ac⟩:=hrel;have Ej:=(Ac.block _ (Asd hM)).trans hM;have To:=(Ac.block _ (Asd Cw)).trans Cw;by_cases CB:i<m.eds.length
   ·have hmem:=Asg CB;obtain⟨⟨r1,r2⟩,⟨r3,r4⟩,-,-⟩:=L2.out _ hmem;have s1:=Iw.out _ (Im r1 r2);have s2:=Iw.out _ (Im r3 r4);have Hq:=R7 c _ HC.out.ok s1.sz (by omega) (by omega) (HC.out.col _ s1).1 (HC.out.col _ s1).2 (HC.out.row _ s1).1 (HC.out.row _ s1).2;have Ln:=R7 c _ HC.out.ok s2.sz (by omega) (by omega) (HC.out.col _ s2).1 (HC.out.col _ s2).2 (HC.out.row _ s2).1 (HC.out.row _ s2).2;have Cp:(m.eds.take i) ++ [m.eds[i]]=m.eds.take (i+1):=(Asi CB).symm;obtain⟨b,o,rfl,hg1,hg2,hg3,hg4⟩:=Lq (hB.ext Ac) CB;obtain⟨e,he⟩:=AcG (m.eds[i]);rw [←he]at hg1 hg2 hg3 hg4 r1 r2 r3 r4 s1 s2 Hq Ln Cp;clear he hmem;obtain⟨ef,CZ⟩:∃n:Nat,e.f=(n:Int):=⟨e.f.toNat,by omega⟩;obtain⟨et,Da⟩:∃n:Nat,e.t=(n:Int):=⟨e.t.toNat,by omega⟩;have ED:ef<m.pts.length:=(by omega);have EE:et<m.pts.length:=(by omega);rw [CZ]at hg1;rw [Da]at hg2;obtain⟨ba,oa,rfl,ha1,ha2⟩:=BO (hA.ext Ac) ED;obtain⟨b3,o3,FN,Ct,Cu⟩:=BO (hA.ext Ac) EE;obtain⟨rfl,rfl⟩:ba=b3/\oa=o3:=(by simpa using FN);have e1:m.pts[ef]=AA m.pts e.f:=(by rw [CZ];unfold AA;simp [ED]);have e2:m.pts[et]=AA m.pts e.t:=(by rw [Da];unfold AA;simp [EE]);rw [e1]at ha1 ha2;rw [e2]at Ct Cu;obtain⟨x1,Kh⟩:=AcG (Br c (AA m.pts e.f));obtain⟨y1,P2⟩:=AcG (Bt c (AA m.pts e.f));obtain⟨x2,Ii⟩:=AcG (Br c (AA m.pts e.t));obtain⟨y2,P3⟩:=AcG (Bt c (AA m.pts e.t));have hd:(KD c m.pts e).toArray=#[.int .i64 x1,.int .i64 y1,.int .i64 x2,.int .i64 y2]:=(by rw [Kh,P2,Ii,P3];rfl);rw [←Kh,←P2]at Hq;rw [←Ii,←P3]at Ln;have F6:=Asb (And.intro Cp hd);generalize AA m.pts e.f=pa at *;generalize AA m.pts e.t=pb at *;unfold BQ Ak I2 at Hq Ln;have f0:(0:Int)<=(ef:Int):=(by omega);have f1:(ef:Int)<(m.pts.length:Int):=(by omega);have f2:(0:Int)<=(et:Int):=(by omega);have f3:(et:Int)<(m.pts.length:Int):=(by omega);have i0:(0:Int)<=(i:Int):=(by omega);have i1:(i:Int)<(m.eds.length:Int):=(by omega);clear CZ Da e1 e2 r1 r2 r3 r4 Kh P2 Ii P3 Cp hd s1 s2;have Bu:=Ase wr (.cells #[.int .i64 (ef:Int),.int .i64 (et:Int),.int .i64 e.l,.int .i64 e.r] 59);have E2:=(Aa.refl wr).alloc (.cells #[.int .i64 (ef:Int),.int .i64 (et:Int),.int .i64 e.l,.int .i64 e.r] 59);replace ha1:=E2.cellS ha1;replace ha2:=E2.cellS ha2;replace Ct:=E2.cellS Ct;replace Cu:=E2.cellS Cu;have LN:=(E2.block _ (Asd Ej)).trans Ej;have hCW:=(E2.block _ (Asd To)).trans To;have iY:=Ac.trans E2;have DV:=EV.trans iY;have mm:=Ap hown E2
    go_upto_region 11 with fail
    generalize wr.alloc (.cells #[.int .i64 (ef:Int),.int .i64 (et:Int),.int .i64 e.l,.int .i64 e.r] 59)=W at *;obtain⟨be,JR⟩:=AcG wr.heap.size;have Gp:=Bu;rw [←JR]at Gp ⊢;clear JR Bu E2 hg1 hg2 hg3 hg4 Ej To hown Ac;have k0:W.cell? ⟨bm,0,none⟩=some (S (R c.low.x)):=Ab hCW rfl;have k1:W.cell? ⟨bm,1,none⟩=some (S (R c.low.y)):=Ab hCW rfl;have k2:W.cell? ⟨bm,2,none⟩=some (S (R c.high.x)):=Ab hCW rfl;have k3:W.cell? ⟨bm,3,none⟩=some (S (R c.high.y)):=Ab hCW rfl;have k4:W.cell? ⟨bm,4,none⟩=some (.int .i64 (c.W:Nat)):=Ab hCW rfl;have k5:W.cell? ⟨bm,5,none⟩=some (.int .i64 (c.H:Nat)):=Ab hCW rfl;have k6:W.cell? ⟨bm+1,0,none⟩=some (.slice (some ⟨ba,oa,none⟩) m.pts.length ca):=Ab LN rfl;have k7:W.cell? ⟨be,0,none⟩=some (.int .i64 (ef:Int)):=Ab Gp rfl;have X:Aa W W:=Aa.refl W;have SO:=fun (w':World) (h:Aa W w')=>(⟨h.cellS k0,h.cellS k1,h.cellS k2,h.cellS k3,h.cellS k4,h.cellS k5,h.cellS k6,h.cellS k7,h.cellS ha1,h.cellS ha2⟩:_/\_/\_/\_/\_/\_/\_/\_/\w'.cell? ⟨ba,oa+ef*2,none⟩=some (S (R pa.x))/\w'.cell? ⟨ba,oa+ef*2+1,none⟩=some (S (R pa.y)))
    go_upto_region 11 with fail
    go_cut [11,12] (fun v1 v2 wx=>∃bd,v1=.pointer (some ⟨bd,0,none⟩)/\v2=.int .i64 0/\wx.heap[bd]?=some (.cells #[.int .i64 x1,.int .i64 y1] 61)/\Aa W wx)
    case first=>
     go_region_held3 (fun w'=>w'.cell? ⟨bm,0,none⟩=some (S (R c.low.x))/\w'.cell? ⟨bm,1,none⟩=some (S (R c.low.y))/\w'.cell? ⟨bm,2,none⟩=some (S (R c.high.x))/\w'.cell? ⟨bm,3,none⟩=some (S (R c.high.y))/\w'.cell? ⟨bm,4,none⟩=some (.int .i64 (c.W:Nat))/\w'.cell? ⟨bm,5,none⟩=some (.int .i64 (c.H:Nat))/\w'.cell? ⟨bm+1,0,none⟩=some (.slice (some ⟨ba,oa,none⟩) m.pts.length ca)/\w'.cell? ⟨be,0,none⟩=some (.int .i64 (ef:Int))/\w'.cell? ⟨ba,oa+ef*2,none⟩=some (S (R pa.x))/\w'.cell? ⟨ba,oa+ef*2+1,none⟩=some (S (R pa.y)))
      (first|with_reducible exact SO _ X|with_reducible exact SO _ X.drew|with_reducible exact SO _ (X.alloc _).drew|with_reducible exact SO _ ((X.setCell (p:=⟨W.heap.size,0,none⟩) (Asf _) _).setCell (p:=⟨W.heap.size,1,none⟩) (Asf _) _)|with_reducible exact SO _ (X.alloc _))
      (first|((with_reducible refine(Hq _ (hw.ext (DV.trans (by first|exact X|exact X.drew|exact(X.alloc _).drew)))).mono ?_);rintro e w3 ⟨rfl,hx1⟩;(first|(have Z3:w3.heap[W.heap.size]?=some (.cells #[.int .i64 0,.int .i64 0] 61):=(hx1.block _ (by simp)).trans (Ase W _);have y0:=Ab (o:=0) Z3 rfl;have y1:=Ab (o:=1) Z3 rfl;have y2:=An (o:=0) Z3;have y3:=An (o:=1) Z3)|skip);replace X:Aa W w3:=(by first|exact X.trans hx1|exact X.drew.trans hx1|exact(X.alloc _).drew.trans hx1);have s3:=X.size))
     all_goals go_wp2
     all_goals go_meet
     all_goals first
      | exact⟨_,rfl,rfl,Ase w3 _,X.alloc _⟩
      | exact⟨_,rfl,rfl,D6 _ _ Z3,(X.setCell (Asf _) _).setCell (Asf _) _⟩
    case rest=>
     obtain⟨bd,rfl,rfl,C6,Af⟩:=hcut;obtain⟨U,rfl⟩:=GN Af;have Nj:=(Af.block _ (Asd LN)).trans LN;have Ei:=(Af.block _ (Asd hCW)).trans hCW;have TF:=(Af.block _ (Asd Gp)).trans Gp;have Gn:=DV.trans Af;have Ib:=iY.trans Af;have NH:=Ap mm Af;have Nt:=Af.cellS Ct;have TA:=Af.cellS Cu;clear SO X k0 k1 k2 k3 k4 k5 k6 k7 ha1 ha2 Ct Cu LN hCW Gp DV iY mm Af Hq;have k0:U.cell? ⟨bm,0,none⟩=some (S (R c.low.x)):=Ab Ei rfl;have k1:U.cell? ⟨bm,1,none⟩=some (S (R c.low.y)):=Ab Ei rfl;have k2:U.cell? ⟨bm,2,none⟩=some (S (R c.high.x)):=Ab Ei rfl;have k3:U.cell? ⟨bm,3,none⟩=some (S (R c.high.y)):=Ab Ei rfl;have k4:U.cell? ⟨bm,4,none⟩=some (.int .i64 (c.W:Nat)):=Ab Ei rfl;have k5:U.cell? ⟨bm,5,none⟩=some (.int .i64 (c.H:Nat)):=Ab Ei rfl;have k6:U.cell? ⟨bm+1,0,none⟩=some (.slice (some ⟨ba,oa,none⟩) m.pts.length ca):=Ab Nj rfl;have k7:U.cell? ⟨be,1,none⟩=some (.int .i64 (et:Int)):=Ab TF rfl;have X:Aa U U:=Aa.refl U;have SO:=fun (w':World) (h:Aa U w')=>(⟨h.cellS k0,h.cellS k1,h.cellS k2,h.cellS k3,h.cellS k4,h.cellS k5,h.cellS k6,h.cellS k7,h.cellS Nt,h.cellS TA⟩:_/\_/\_/\_/\_/\_/\_/\_/\w'.cell? ⟨ba,oa+et*2,none⟩=some (S (R pb.x))/\w'.cell? ⟨ba,oa+et*2+1,none⟩=some (S (R pb.y)))
     go_upto_region 14 with fail
     go_cut [13,12] (fun v1 v2 wx=>∃bd,v1=.pointer (some ⟨bd,0,none⟩)/\v2=.int .i64 0/\wx.heap[bd]?=some (.cells #[.int .i64 x2,.int .i64 y2] 61)/\Aa U wx)
     case first=>
      go_region_held3 (fun w'=>w'.cell? ⟨bm,0,none⟩=some (S (R c.low.x))/\w'.cell? ⟨bm,1,none⟩=some (S (R c.low.y))/\w'.cell? ⟨bm,2,none⟩=some (S (R c.high.x))/\w'.cell? ⟨bm,3,none⟩=some (S (R c.high.y))/\w'.cell? ⟨bm,4,none⟩=some (.int .i64 (c.W:Nat))/\w'.cell? ⟨bm,5,none⟩=some (.int .i64 (c.H:Nat))/\w'.cell? ⟨bm+1,0,none⟩=some (.slice (some ⟨ba,oa,none⟩) m.pts.length ca)/\w'.cell? ⟨be,1,none⟩=some (.int .i64 (et:Int))/\w'.cell? ⟨ba,oa+et*2,none⟩=some (S (R pb.x))/\w'.cell? ⟨ba,oa+et*2+1,none⟩=some (S (R pb.y)))
       (first|with_reducible exact SO _ X|with_reducible exact SO _ X.drew|with_reducible exact SO _ (X.alloc _).drew|with_reducible exact SO _ ((X.setCell (p:=⟨U.heap.size,0,none⟩) (Asf _) _).setCell (p:=⟨U.heap.size,1,none⟩) (Asf _) _)|with_reducible exact SO _ (X.alloc _))
       (first|((with_reducible refine(Ln _ (hw.ext (Gn.trans (by first|exact X|exact X.drew|exact(X.alloc _).drew)))).mono ?_);rintro e w3 ⟨rfl,hx1⟩;(first|(have Z3:w3.heap[U.heap.size]?=some (.cells #[.int .i64 0,.int .i64 0] 61):=(hx1.block _ (by simp)).trans (Ase U _);have y0:=Ab (o:=0) Z3 rfl;have y1:=Ab (o:=1) Z3 rfl;have y2:=An (o:=0) Z3;have y3:=An (o:=1) Z3)|skip);replace X:Aa U w3:=(by first|exact X.trans hx1|exact X.drew.trans hx1|exact(X.alloc _).drew.trans hx1);have s3:=X.size))
      all_goals go_wp2
      all_goals go_meet
      all_goals first
       | exact⟨_,rfl,rfl,Ase w3 _,X.alloc _⟩
       | exact⟨_,rfl,rfl,D6 _ _ Z3,(X.setCell (Asf _) _).setCell (Asf _) _⟩
     case rest=>
      obtain⟨bd2,rfl,rfl,OX,Ae⟩:=hcut;obtain⟨Z,rfl⟩:=GN Ae;have zA:=Gn.trans Ae;have fp:=Ib.trans Ae;have mo:=Ap NH Ae;have TE:=(Ae.block _ (Asd C6)).trans C6;clear SO X k0 k1 k2 k3 k4 k5 k6 k7 Nj Ei TF Gn Ib NH Ae Nt TA Ln C6;have q0:Z.cell? ⟨bd,0,none⟩=some (.int .i64 x1):=Ab TE rfl;have q1:Z.cell? ⟨bd,1,none⟩=some (.int .i64 y1):=Ab TE rfl;have q2:Z.cell? ⟨bd2,0,none⟩=some (.int .i64 x2):=Ab OX rfl;have q3:Z.cell? ⟨bd2,1,none⟩=some (.int .i64 y2):=Ab OX rfl;obtain⟨oA,oc,rfl⟩:=IL (by omega) mo;have hbase:V.heap.size<=Z.heap.size:=fp.size;have eU:=(Aa.refl Z).alloc (.cells #[.int .i64 x1,.int .i64 y1,.int .i64 x2,.int .i64 y2] 62)
      go_wp2_with (at_builtin;go_loud (refine Aem rfl _ _ rfl _ V.heap.size (.slice oA i oc) i c m.pts (m.eds.take i) e rfl (Ap mo eU) (by omega) Z.heap.size (by rw [F6.out.2];exact Ase Z _) rfl (by simp;omega) ?_);intro v9 w9 BN CG Bh)
      have hV9:=CG V (fp.trans eU) (Asf _);rw [F6.out.1]at BN;have HO9:=Asb BN;clear BN CG Bh eU;go_wp2;go_roundw
      case rel=>exact⟨i+1,by go_num,CB,HO9.out,hV9⟩
      case measure=>simp [intOf];omega
   ·have I9:i=m.eds.length:=(by omega);subst I9;have Aq9:(m.eds.length:Int)<=(m.eds.length:Int):=(by omega);rw [List.take_length]at hown;go_wp2;go_ret2;exact⟨_,rfl,Oc hown EV.size,EV.trans Ac⟩
 ·have hb:(ck != 0)=true:=(by rw [bne,beq_false_of_ne h0];rfl);have hX:=EV.trans Cs;go_wp2;go_ret2;exact⟨_,rfl,fun _=>rfl,fun h=>absurd h h0,hX⟩
end Go.Proofs.YtdaefncphfeaeaaGreatDoor
