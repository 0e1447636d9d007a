/- Z39: QE T2. -/
import Derived.Test.YtdaefncphfeaeaaGreatDoorZ37
set_option maxRecDepth 100000
set_option maxHeartbeats 16000000
namespace Go.Proofs.YtdaefncphfeaeaaGreatDoor
open Go.RowKit Kl
structure Sy(n:Nat)(l:List Hf):Prop where
 inn:Ey n l
 nn:∀h∈l,0<=h.l
def AdU(w:World)(n:Nat)(e:Ending)(w':World):Prop:=
 ∃v l,e=.returned v/\w'.ownsRow w.heap.size 137 5 v l.length (Bl l)/\Sy n l/\l.length<=1000/\Aa w w'
def mL:Value→Nat
 | .slice _ n _=>n
 | _=>0
theorem Ak6{w:World}{B:Nat}{e:TypeId}{s n:Nat}{v:Value}{xs:List Value}(h:w.ownsRow B e s v n xs):mL v=n:=by
 rcases h.2 with⟨h',rfl⟩|⟨g,cap,cur,h',_⟩
 ·rw [h'];rfl
 ·rw [h'];rfl
theorem IL{w:World}{B:Nat}{e:TypeId}{s n:Nat}{v:Value}{xs:List Value}(hs:0<s)(h:w.ownsRow B e s v n xs):∃A c,v=.slice A n c:=by
 obtain⟨A,c,h1,-,-,-⟩:=Am.of_own' hs h;exact⟨A,c,h1⟩
theorem Sc(w:World)(o1 o2:Obj):((w.alloc o1).alloc o2).drew.heap[w.heap.size]?=some o1/\((w.alloc o1).alloc o2).drew.heap[w.heap.size+1]?=some o2/\Aa w ((w.alloc o1).alloc o2).drew:=by
 have E1:=(Aa.refl w).alloc o1;have h1:=Ase w o1;have E2:=(Aa.refl (w.alloc o1)).alloc o2;have h2:=Ase (w.alloc o1) o2;rw [Asn]at h2;exact⟨(E2.block _ (Asd h1)).trans h1,h2,(E1.trans E2).drew⟩
theorem AnX(P:List (List Pt×Bs))(hP:S2 P)(A:Option Addr)(c:Nat)(w:World)(hw:Ai w)(h:MP w A c P) :
  Calls Tryz.prog 80 #[.slice A P.length c] w (AdU w P.length):=by
 have pn:=Vz;obtain⟨n,hn⟩:=AcG P.length;rw [←hn];have HN:=Asb hn;have hlen:n<=18:=(by rw [hn];exact hP.len);have HP:=Asb hP;have HA:=Asb h;have hc1:n<=c:=(by rw [hn];exact h.c1);clear hn hP h;go_enter Tryz.func80,Tryz.ntmps80
 go_upto_region 3 with fail
 go_loopw [3,4] (fun ov iv wr=>∃(i:Nat) (l:List Hf),iv=.int .i64 (i:Nat)/\i<=n/\wr.ownsRow w.heap.size 137 5 ov l.length (Bl l)/\Sy n l/\l.length<=i*48/\Aa w wr) (fun _ iv _=>n-(intOf iv).toNat)
 case atStart=>exact⟨0,[],rfl,by omega,⟨rfl,.inl ⟨rfl,rfl⟩⟩,⟨(fun h hh=>by cases hh),(fun h hh=>by cases hh)⟩,by simp,Aa.refl _⟩
 case round=>
  obtain⟨i,l,rfl,hi,hown,hl,EX,Ac⟩:=hrel;have HL:=Asb hl;clear hl;obtain⟨vA,vc,rfl⟩:=IL (by omega) hown;by_cases hin:i<n
  ·have iw:i<P.length:=(by rw [←HN.out];exact hin);obtain⟨bA,oA,A',c',rfl,Bn,B8,BR,AU,hr1,hr2⟩:=HA.out.row i iw;have kR:=HP.out.pts _ (Asg iw);obtain⟨pg,mr⟩:=AcG (P[i].1);rw [←mr]at Bn AU hr1 kR;replace Bn:=Ac.cellS Bn;have KR:(0:Int)<=(i:Int):=(by omega);have Pg:(i:Int)<(n:Int):=(by omega);have VZ:=Asb kR;clear mr kR B8 BR
   go_upto_region 7 with fail
   go_loopw [3,6] (fun ov kv wr=>∃(k:Nat) (l:List Hf),kv=.int .i64 (k:Nat)/\k<=pg.length/\wr.ownsRow w.heap.size 137 5 ov l.length (Bl l)/\Sy n l/\l.length<=i*48+k*12/\Aa w wr) (fun _ kv _=>pg.length-(intOf kv).toNat)
   case atStart=>exact⟨0,l,rfl,by omega,hown,HL.out,by omega,Ac⟩
   case round=>
    obtain⟨k,l,rfl,hk,hown,hl,EX,Ac⟩:=hrel;have HL:=Asb hl;clear hl;obtain⟨vA,vc,rfl⟩:=IL (by omega) hown;have Uy:=VZ.out.2;by_cases hkn:k<pg.length
    ·obtain⟨q,hq⟩:=AcG ((k+1)%pg.length);have EG:q<pg.length:=by rw [hq];exact Nat.mod_lt _ (by omega)
     have Kb:(((k:Int)+1)).tmod (pg.length:Int)=(q:Int):=by rw [Int.tmod_eq_emod_of_nonneg (by omega),hq,Int.natCast_emod];rfl
     have Aq6:(((k:Int)+1))%(pg.length:Int)=(q:Int):=(by rw [hq,Int.natCast_emod];rfl);have AiU:¬((pg.length:Int)=0):=(by omega);have AqS:¬(pg.length=0):=(by omega);have AqT:((pg.length:Int) == 0)=false:=beq_false_of_ne AiU;have hqw:IntKind.wrap .i64 (q:Int)=(q:Int):=Asm _ (by omega);have hkw:IntKind.wrap .i64 ((k:Int)+1)=(k:Int)+1:=Asm _ (by omega);obtain⟨b,o,rfl,ka,kb⟩:=BO (AU.ext Ac) hkn;obtain⟨b',o',he,qa,qb⟩:=BO (AU.ext Ac) EG;simp only [Asj,Addr.mk.injEq,and_true]at he;obtain⟨rfl,rfl⟩:=he;have Ra:=VZ.out.1 _ (Asg hkn);have KX:=VZ.out.1 _ (Asg EG);obtain⟨a0,ha0⟩:=AcG (pg[k]);obtain⟨b0,hb0⟩:=AcG (pg[q]);rw [←ha0]at ka kb Ra;rw [←hb0]at qa qb KX;have hk0:(0:Int)<=(k:Int):=(by omega);have Bv:(k:Int)<(pg.length:Int):=(by omega);have Arb:(0:Int)<=(q:Int):=(by omega);have Arc:(q:Int)<(pg.length:Int):=(by omega);have hm0:(0:Int)<(pg.length:Int):=(by omega);clear ha0 hb0 hq;have hpn:pg≠[]:=fun e=>(by rw [e]at hkn;simp at hkn);have X:=Aa.refl wr;have SO:∀w',Aa wr w'→(w'.cell? ⟨b,o+k*2,none⟩=some (S (R a0.x))/\w'.cell? ⟨b,o+k*2+1,none⟩=some (S (R a0.y))/\w'.cell? ⟨b,o+q*2,none⟩=some (S (R b0.x))/\w'.cell? ⟨b,o+q*2+1,none⟩=some (S (R b0.y))):=fun w' h=>⟨h.cellS ka,h.cellS kb,h.cellS qa,h.cellS qb⟩
     go_upto_region 9 with fail
     go_cut [7,8] (fun v7 v8 wx=>∃ba bb,v7=.pointer (some ⟨ba,0,none⟩)/\v8=.pointer (some ⟨bb,0,none⟩)/\wx.heap[ba]?=some (.cells #[S (R a0.x),S (R a0.y)] 35)/\wx.heap[bb]?=some (.cells #[S (R b0.x),S (R b0.y)] 35)/\ba≠bb/\wr.heap.size<=ba/\wr.heap.size<=bb/\Aa wr wx)
     case first=>
      go_region_held3 (fun w'=>w'.cell? ⟨b,o+k*2,none⟩=some (S (R a0.x))/\w'.cell? ⟨b,o+k*2+1,none⟩=some (S (R a0.y))/\w'.cell? ⟨b,o+q*2,none⟩=some (S (R b0.x))/\w'.cell? ⟨b,o+q*2+1,none⟩=some (S (R b0.y)))
       ((refine SO _ ?_;repeat (first|exact X|(with_reducible refine Aa.drew ?_)|(with_reducible refine Aa.alloc ?_ _)|(with_reducible refine Aa.setCell ?_ (by simp) _))))
       (fail)
      all_goals go_wp2
      all_goals go_meet
      all_goals (
       refine⟨_,_,rfl,rfl,?_,?_,by omega,by omega,by omega,?_⟩
       all_goals try unfold S
       all_goals first
        | with_reducible exact(Sc _ _ _).1
        | with_reducible exact(Sc _ _ _).2.1
        | with_reducible exact(Sc _ _ _).2.2)
     case rest=>
      obtain⟨ba,bb,rfl,rfl,Bj,BA,hab,ApX,Aqb,Af⟩:=hcut;obtain⟨W4,rfl⟩:=GN Af;have Dv:=Ac.trans Af;have GK:=Ap hown Af;have Arz:=Ac.size;have ApY:=Asd Bj;clear SO X ka kb qa qb
      go_upto_region 10 with fail
      go_loopw [3] (fun ov w3=>∃(l3:List Hf) (a:Pt),w3.heap[ba]?=some (.cells #[S (R a.x),S (R a.y)] 35)/\BL a/\w3.ownsRow w.heap.size 137 5 ov l3.length (Bl l3)/\Sy n l3/\l3.length+dst a b0<=i*48+k*12+12/\w3.heap[bb]?=some (.cells #[S (R b0.x),S (R b0.y)] 35)/\Aa w w3) (fun ov _=>i*48+k*12+13-mL ov)
      case atStart=>exact⟨l,a0,Bj,Ra,GK,HL.out,by have:=AfV Ra KX;omega,BA,Dv⟩
      case round=>
       obtain⟨l3,a,FH,Bf,Ft,hl3,er,hcb,JY⟩:=hrel;have bK:=Asb hl3;clear hl3;obtain⟨vA,vc,rfl⟩:=IL (by omega) Ft;have z0:=Ab (o:=0) FH rfl;have z1:=Ab (o:=1) FH rfl;have z2:=Ab (o:=0) hcb rfl;have z3:=Ab (o:=1) hcb rfl
       cases AhG:Ar a b0
       ·have Yz:=nT AhG;have BJ:=Ase wr (.cells #[S (R b0.x),S (R b0.y)] 35);have E5:=(Aa.refl wr).alloc (.cells #[S (R b0.x),S (R b0.y)] 35);have iN:=(E5.block _ (Asd FH)).trans FH;have Mh:=Ap Ft E5;have Gm:=JY.trans E5;have dh:=(E5.block _ (Asd hcb)).trans hcb
        go_upto_region 13 with fail
        unfold S at BJ iN Mh Gm dh;generalize (wr.alloc (.cells #[.string ⟨(R b0.x).toArray⟩,.string ⟨(R b0.y).toArray⟩] 35))=W5 at *;obtain⟨bn,I7⟩:=AcG wr.heap.size;have jy:=Asd FH;have AiL:=Asd hcb;rw [←I7]at BJ jy AiL ⊢;have ry:w.heap.size<=bn:=(by have:=JY.size;omega);clear I7 z0 z1 z2 z3 FH hcb Ft JY E5;have FS:(0:Int)<=(n:Int):=by omega
        go_loopw [51] (fun iv w6=>∃(s:Nat) (nx:Pt),iv=.int .i64 (s:Nat)/\s<=n/\w6.heap[bn]?=some (.cells #[S (R nx.x),S (R nx.y)] 35)/\BL nx/\IY a b0 nx/\nx≠a/\AH (fun q=>q=bn) W5 w6) (fun iv _=>n-(intOf iv).toNat)
        case atStart=>exact⟨0,b0,rfl,by omega,BJ,KX,Akf a b0,fun e=>Yz e.symm,AH.refl _ _⟩
        case round=>
         obtain⟨s,nx,rfl,hs,By,Cp,As,ku,JM⟩:=hrel;have HI:=Asb (And.intro Cp (And.intro As ku));clear As ku Cp;have BI:Aa w wr:=JM.toExt Gm (fun q e=>by subst e;exact ry);by_cases Fw:s<n
         ·have pu:s<P.length:=(by rw [←HN.out];exact Fw);obtain⟨bA2,Zs,A2,c2,JX,p0,p1,p2,prd,pr1,pr2⟩:=HA.out.row s pu;simp only [Asj,Addr.mk.injEq,and_true]at JX;obtain⟨rfl,rfl⟩:=JX;have kS:=(HP.out.pts _ (Asg pu)).1;obtain⟨J4,mz⟩:=AcG (P[s].1);obtain⟨Se,qq⟩:=AcG (P[s].2);rw [←mz]at p0 prd pr1 kS;rw [←qq]at p1;replace p0:=BI.cellS p0;replace p1:=BI.cellS p1;replace p2:=BI.cellS p2;have AcR:=Asb kS;have hs0:(0:Int)<=(s:Int):=(by omega);have hs1:(s:Int)<(n:Int):=(by omega);have AS:=Ase wr (.cells #[.slice A2 J4.length c2,S Se,.slice none 0 0] 140);have E7:=(Aa.refl wr).alloc (.cells #[.slice A2 J4.length c2,S Se,.slice none 0 0] 140);have Q0:=JM.ext E7;have QE:=(E7.block _ (Asd By)).trans By;clear mz qq kS
          go_upto_region 15 with fail
          unfold S at AS Q0 QE;generalize (wr.alloc (.cells #[.slice A2 J4.length c2,.string ⟨Se.toArray⟩,.slice none 0 0] 140))=W7 at *;have w0:=Ab (o:=0) AS rfl;have hpl:(0:Int)<=(J4.length:Int):=(by omega);clear p0 p1 p2 E7 By JM
          go_upto_region 16 with fail
          go_loopw [58] (fun iv w8=>∃(u:Nat) (nx:Pt),iv=.int .i64 (u:Nat)/\u<=J4.length/\w8.heap[bn]?=some (.cells #[S (R nx.x),S (R nx.y)] 35)/\BL nx/\IY a b0 nx/\nx≠a/\AH (fun q=>q=bn) W5 w8) (fun iv _=>J4.length-(intOf iv).toNat)
          case atStart=>exact⟨0,nx,rfl,by omega,QE,HI.out.1,HI.out.2.1,HI.out.2.2,Q0⟩
          case round=>
           obtain⟨u,nx,rfl,hu,N3,qd,KI,k9,I4⟩:=hrel;have JD:=Asb (And.intro qd (And.intro KI k9));clear KI k9 qd;have GF:Aa w wr:=I4.toExt Gm (fun q e=>by subst e;exact ry);by_cases Hm:u<J4.length
           ·obtain⟨bq,oq,rfl,g1,g2⟩:=BO (prd.ext GF) Hm;have Jy:=AcR.out _ (Asg Hm);obtain⟨q2,BR⟩:=AcG (J4[u]);rw [←BR]at g1 g2 Jy;have YR:(0:Int)<=(u:Int):=(by omega);have hu1:(u:Int)<(J4.length:Int):=(by omega);have Dj:=Ase wr (.cells #[S (R q2.x),S (R q2.y)] 35);have E9:=(Aa.refl wr).alloc (.cells #[S (R q2.x),S (R q2.y)] 35);have JO:=I4.ext E9;have QF:=(E9.block _ (Asd N3)).trans N3;have H8:=GF.trans E9;have AhT:=Asd N3;clear BR
            go_upto_region 18 with fail
            unfold S at Dj JO QF H8;generalize (wr.alloc (.cells #[.string ⟨(R q2.x).toArray⟩,.string ⟨(R q2.y).toArray⟩] 35))=W9 at *;obtain⟨bz,QB⟩:=AcG wr.heap.size;rw [←QB]at Dj AhT ⊢;clear QB g1 g2 E9 I4 N3 GF;have TO:=JO.cells iN (by omega);have bt:=AoT a nx q2 Bf.sz2 JD.out.1.sz2 Jy.sz2 W9 (hw.ext H8);unfold Ak AaF at bt;have z0:=Ab (o:=0) TO rfl;have z1:=Ab (o:=1) TO rfl;have z2:=Ab (o:=0) QF rfl;have z3:=Ab (o:=1) QF rfl;have z4:=Ab (o:=0) Dj rfl;have z5:=Ab (o:=1) Dj rfl;obtain⟨btv,hQ⟩:=AcG (Qp a nx q2);rw [←hQ]at bt;have HBT:=Asb hQ;clear hQ;(go_wp2_with fail);(with_reducible refine bt.mono ?_);rintro e Wu ⟨rfl,C4⟩;have eQ:=JO.ext C4;have Pa:=(C4.block _ (Asd QF)).trans QF;have iM:=(C4.block _ (Asd TO)).trans TO;have gY:=(C4.block _ (Asd Dj)).trans Dj;clear z0 z1 z2 z3 z4 z5 bt JO QF TO Dj
            cases btv
            ·clear iM gY;go_wp2;go_roundw
             case rel=>exact⟨u+1,nx,by go_num,Hm,Pa,JD.out.1,JD.out.2.1,JD.out.2.2,eQ⟩
             case measure=>simp [intOf];omega
            ·have y0:=Ab (o:=0) iM rfl;have y1:=Ab (o:=1) iM rfl;have y4:=Ab (o:=0) gY rfl;have y5:=Ab (o:=1) gY rfl
             cases QW:Ar q2 a
             ·have hne:=nT QW;have qU:=Asb (And.intro hne (Akg JD.out.2.1 (AeV HBT.out.symm)));have y2:=Ab (o:=0) Pa rfl;have y3:=Ab (o:=1) Pa rfl;have y6:=An (o:=0) Pa;have y7:=An (o:=1) Pa;have GM:=D6 (S (R q2.x)) (S (R q2.y)) Pa;have xA:=(eQ.setCell (p:=⟨bn,0,none⟩) (.inl rfl) (S (R q2.x))).setCell (p:=⟨bn,1,none⟩) (.inl rfl) (S (R q2.y));have HS:=Asb GM;have HB:=Asb xA;clear hne GM xA;go_wp2;go_roundw
              case rel=>exact⟨u+1,q2,by go_num,Hm,HS.out,Jy,qU.out.2,qU.out.1,HB.out⟩
              case measure=>simp [intOf];omega
             ·go_wp2;go_roundw
              case rel=>exact⟨u+1,nx,by go_num,Hm,Pa,JD.out.1,JD.out.2.1,JD.out.2.2,eQ⟩
              case measure=>simp [intOf];omega
           ·have huu:u=J4.length:=(by omega);subst huu;have AiH:(J4.length:Int)<=(J4.length:Int):=(by omega);go_wp2;go_roundw
            case rel=>exact⟨s+1,nx,by go_num,Fw,N3,JD.out.1,JD.out.2.1,JD.out.2.2,I4⟩
            case measure=>simp [intOf];omega
         ·have Kf:s=n:=(by omega);subst Kf;have AiH:(s:Int)<=(s:Int):=(by omega);have TN:=JM.cells iN (by omega);have iO:=JM.cells dh (by omega);have AhR:(Value.slice vA l3.length vc).ownBlock≠some bn:=AL Mh BJ (by decide);have GL:=DG Mh JM (fun q hq e=>by subst e;exact AhR hq);have y0:=Ab (o:=0) TN rfl;have y1:=Ab (o:=1) TN rfl;have y2:=Ab (o:=0) By rfl;have y3:=Ab (o:=1) By rfl;have FM:=AfW Bf KX HI.out.1 HI.out.2.1 HI.out.2.2;have AiC:l3.length<200000:=(by have:=HN.out;have:=VZ.out.2;omega);have hbase:w.heap.size<=wr.heap.size:=BI.size;have wu:=Asd TN;have ww:=Asd iO;have xf:=Asd By;have Rt:=AL GL TN (by decide);have Mv:=AL GL iO (by decide);have ne3:=AL GL By (by decide)
          have TT:∀(X:Obj) (W7:World),(wr.alloc X).grownBy W7 (Value.slice vA l3.length vc).ownBlock→W7.heap[ba]?=some (.cells #[S (R a.x),S (R a.y)] 35)/\W7.heap[bb]?=some (.cells #[S (R b0.x),S (R b0.y)] 35)/\W7.heap[bn]?=some (.cells #[S (R nx.x),S (R nx.y)] 35):=by intro X W7 hg;have Ex:=(Aa.refl wr).alloc X;exact⟨(hg.block ba (Asp wu Ex.size) (fun e=>Rt e.symm)).trans ((Ex.block ba wu).trans TN),(hg.block bb (Asp ww Ex.size) (fun e=>Mv e.symm)).trans ((Ex.block bb ww).trans iO),(hg.block bn (Asp xf Ex.size) (fun e=>ne3 e.symm)).trans ((Ex.block bn xf).trans By)⟩
          go_wp2_with (at_builtin;go_loud (refine dD rfl _ _ rfl _ w.heap.size (.slice vA l3.length vc) l3.length l3 [⟨a,nx,(i:Int)⟩] rfl (Ap GL ((Aa.refl wr).alloc _)) AiC (by simp) wr.heap.size 1 rfl (by rw [Yb];exact Ase wr _) rfl (by simp;omega) ?_);intro v7 w7 Gw LZ Gt;have BW:=LZ w (BI.trans ((Aa.refl wr).alloc _)) (Asf _);obtain⟨T1,T2,T3⟩:=TT _ _ Gt;have k0:=Ab (o:=0) T3 rfl;have k1:=Ab (o:=1) T3 rfl;have k2:=Ab (o:=0) T1 rfl;have k3:=Ab (o:=1) T1 rfl;have k4:=An (o:=0) T1;have k5:=An (o:=1) T1)
          have GM:=D6 (S (R nx.x)) (S (R nx.y)) T1;have ApT:bn≠ba:=by omega
          have AP:Sy s (l3 ++ [⟨a,nx,(i:Int)⟩]):=by
           constructor
           ·intro z hz
            rcases List.mem_append.1 hz with e|e
            ·exact bK.out.inn z e
            ·simp only [Ass]at e;rw [e];exact⟨Bf,HI.out.1,fun e0=>HI.out.2.2 e0.symm,by show (-1:Int)<=(i:Int);omega,Pg⟩
           ·intro z hz
            rcases List.mem_append.1 hz with e|e
            ·exact bK.out.nn z e
            ·simp only [Ass]at e;rw [e];exact KR
          have GF:=(BW.setCell (p:=⟨ba,0,none⟩) (by show w.heap.size<=ba;omega) (S (R nx.x))).setCell (p:=⟨ba,1,none⟩) (by show w.heap.size<=ba;omega) (S (R nx.y));have IC:=DG (K:=fun q=>q=ba) Gw (((AH.refl (fun q=>q=ba) w7).setCell (p:=⟨ba,0,none⟩) (.inl rfl) (S (R nx.x))).setCell (p:=⟨ba,1,none⟩) (.inl rfl) (S (R nx.y))) (fun q hq e=>by subst e;exact AL Gw T1 (by decide) hq)
          have di:((w7.setCell ⟨ba,0,none⟩ (S (R nx.x))).setCell ⟨ba,1,none⟩ (S (R nx.y))).heap[bb]?=some (.cells #[S (R b0.x),S (R b0.y)] 35):=by rw [EP (by show bb≠ba;exact fun e=>hab e.symm),EP (by show bb≠ba;exact fun e=>hab e.symm)];exact T2
          have hlv:=Ak6 IC;have HF:=Asb (And.intro GM (And.intro AP (And.intro GF (And.intro IC di))));have HLV:=Asb hlv;have Ajz:=HI.out.1;clear GM AP GF IC di Gt LZ T2 BW hlv;go_wp2;go_roundw
          case rel=>exact⟨l3 ++ [⟨a,nx,(i:Int)⟩],nx,HF.out.1,Ajz,by rw [List.length_append,List.length_singleton];exact HF.out.2.2.2.1,HF.out.2.1,by rw [List.length_append,List.length_singleton];omega,HF.out.2.2.2.2,HF.out.2.2.1⟩
          case measure=>rw [HLV.out];simp [mL];omega
       ·have Un:l3.length<=i*48+(k+1)*12:=(by omega);go_wp2;go_roundw
        case rel=>exact⟨k+1,l3,by go_num,hkn,Ft,bK.out,Un,JY⟩
        case measure=>simp [intOf];omega
    ·have Dd:k=pg.length:=(by omega);subst Dd;have Js:(pg.length:Int)<=(pg.length:Int):=(by omega);go_wp2;go_roundw
     case rel=>exact⟨i+1,l,by go_num,hin,hown,HL.out,by omega,Ac⟩
     case measure=>simp [intOf];omega
  ·have I9:i=n:=(by omega);subst I9;have NG:(i:Int)<=(i:Int):=(by omega);go_wp2;go_ret;exact⟨_,l,rfl,hown,HL.out,by omega,Ac⟩
structure Pz where
 b:Nat
 pts:List Pt
 u:Bs
def nV(e:Pz):List Value:=[.slice (some ⟨e.b,0,none⟩) e.pts.length e.pts.length,S e.u,.slice none 0 0]
def Do(l:List Pz):List Value:=l.flatMap nV
theorem Aas(l:List Pz):(Do l).length=l.length*3:=by
 induction l with
 | nil=>rfl
 | cons h l ih=>simp [Do,nV]at ih ⊢;omega
theorem Aar:∀(l:List Pz) (j:Nat) (h:j<l.length),(Do l)[j*3]?=some (.slice (some ⟨l[j].b,0,none⟩) l[j].pts.length l[j].pts.length)/\(Do l)[j*3+1]?=some (S l[j].u)/\(Do l)[j*3+2]?=some (.slice none 0 0)
 | e::l,0,_=>⟨rfl,rfl,rfl⟩
 | e::l,j+1,h=>by
  have ih:=Aar l j (by simpa using h);have e0:Do (e::l)=.slice (some ⟨e.b,0,none⟩) e.pts.length e.pts.length::S e.u :: .slice none 0 0::Do l:=rfl;rw [e0];have e1:(j+1)*3=j*3+1+1+1:=(by omega);rw [e1]
  simpa using ih
theorem Ams(x:Pz)(n:Nat)(hn:x.pts.length=n):(Do [x]).toArray=#[.slice (some ⟨x.b,0,none⟩) n n,.string ⟨x.u.toArray⟩,.slice none 0 0]:=by subst hn;rfl
theorem RA(x y:Pz)(n m:Nat)(hn:x.pts.length=n)(hm:y.pts.length=m):(Do [x,y]).toArray=#[.slice (some ⟨x.b,0,none⟩) n n,.string ⟨x.u.toArray⟩,.slice none 0 0,.slice (some ⟨y.b,0,none⟩) m m,.string ⟨y.u.toArray⟩,.slice none 0 0]:=by subst hn;subst hm;rfl
structure GX(w:World)(e:Pz):Prop where
 blk:w.heap[e.b]?=some (.cells (flat (AI e.pts)).toArray 35)
 sh:∀p∈e.pts,BL p
 le:e.pts.length<=4
theorem GX.ext{w w':World}{e:Pz}(h:GX w e)(hx:Aa w w'):GX w' e:=⟨(hx.block _ (Asd h.blk)).trans h.blk,h.sh,h.le⟩
theorem Am.blk{w:World}{b:Nat}{cs:List Value}{t:TypeId}(h:w.heap[b]?=some (.cells cs.toArray t)):Am w (some ⟨b,0,none⟩) cs:=
 ⟨fun _=>⟨b,0,rfl,fun j hj=>by rw [Nat.zero_add];exact Ab h (by simp [hj])⟩⟩
def IO(l:List Pz):List (List Pt×Bs):=l.map fun e=>(e.pts,e.u)
theorem Amr(l:List Pz):(IO l).length=l.length:=by simp [IO]
theorem AlS{w:World}{A:Option Addr}{c:Nat}{l:List Pz}(hr:Am w A (Do l))(Au:∀e∈l,GX w e)(h1:l.length<=c)(h2:c<=9223372036854775807):MP w A c (IO l):=by
 refine⟨by simpa [IO]using h1,h2,fun j hj=>?_⟩;have hj':j<l.length:=(by simpa [IO]using hj);have hl:=Aas l;obtain⟨b,o,e,hcs⟩:=hr.ad (by omega);obtain⟨f1,f2,f3⟩:=Aar l j hj';have g1:=hcs (j*3) (by omega);have g2:=hcs (j*3+1) (by omega);have g3:=hcs (j*3+2) (by omega);rw [Asl (by omega),Asj]at f1 f2 f3;rw [f1]at g1;rw [f2,←Nat.add_assoc]at g2;rw [f3,←Nat.add_assoc]at g3;have hk:=Au l[j] (Asg hj');have he:(IO l)[j]=(l[j].pts,l[j].u):=(by simp [IO]);rw [he];have:=hk.le;exact⟨b,o,some ⟨l[j].b,0,none⟩,l[j].pts.length,e,g1,g2,g3,Am.blk hk.blk,Asf _,by omega⟩
theorem AlT{w:World}{l:List Pz}(Au:∀e∈l,GX w e)(hl:l.length<=18):S2 (IO l):=by
 refine⟨by simpa [IO]using hl,fun e he=>?_⟩;simp only [IO,List.mem_map]at he;obtain⟨x,hx,rfl⟩:=he;exact⟨(Au x hx).sh,(Au x hx).le⟩
theorem PG{wN w':World}{base n:Nat}{v:Value}{l d:List Pz}(hown:wN.ownsRow base 140 3 v n (Do l))(hg:wN.grownBy w' v.ownBlock)(Au:∀e∈l,GX wN e)(hd:∀e∈d,GX wN e) :
  ∀e∈l++d,GX w' e:=by
 intro e he
 have h:GX wN e:=by
  rcases List.mem_append.1 he with k|k
  ·exact Au e k
  ·exact hd e k
 exact⟨(hg.block _ (Asd h.blk) (fun k=>AL hown h.blk (by decide) k.symm)).trans h.blk,h.sh,h.le⟩
theorem Aop(x y:Nat)(hx:x<=2)(hy:y<=2):∃a0 a1 a2 a3:Pt,(Xo (aA x y)).toArray=#[S (R a0.x),S (R a0.y),S (R a1.x),S (R a1.y),S (R a2.x),S (R a2.y),S (R a3.x),S (R a3.y)]
  /\(BL a0/\BL a1/\BL a2/\BL a3)/\BL ⟨CL a0.x a3.x (1/2),CL a0.y a3.y (1/2)⟩/\BL ⟨CL a1.x a2.x (1/2),CL a1.y a2.y (1/2)⟩:=by
 refine⟨gp (2*x,2*y),gp (2*x+2,2*y),gp (2*x+2,2*y+2),gp (2*x,2*y+2),rfl,⟨⟨_,⟨?_,?_,?_,?_⟩,rfl⟩,⟨_,⟨?_,?_,?_,?_⟩,rfl⟩,⟨_,⟨?_,?_,?_,?_⟩,rfl⟩,⟨_,⟨?_,?_,?_,?_⟩,rfl⟩⟩,?_,?_⟩
 all_goals try (simp only [];omega)
 ·exact⟨(2*x,2*y+1),⟨by simp only [];omega,by simp only [];omega,by simp only [];omega,by simp only [];omega⟩,wW _ _ _ (by simp only [];omega) (by simp only [];omega)⟩
 ·exact⟨(2*x+2,2*y+1),⟨by simp only [];omega,by simp only [];omega,by simp only [];omega,by simp only [];omega⟩,wW _ _ _ (by simp only [];omega) (by simp only [];omega)⟩
section
variable {ops : Array Oper} {rest : List Oper} {o : Oper} {a : Act} {K : Act → World → Prop} {Q : Exit → Act → World → Prop}
theorem AbW(s x:Operand)(ho:o.op=.call {callee:=.builtin .append,args:=#[s,x],argTypes:=#[79,79]})
  (wN:World) (base:Nat) (v:Value) (n:Nat) (l d:List Pz) (hs:a.eval s=v) (hown:wN.ownsRow base 140 3 v n (Do l)) (hn:n<200000) (hd:d.length<=10)
  (g m:Nat) (hm:d.length=m) (hb:wN.heap[g]?=some (.cells (Do d).toArray 140)) (hx:a.eval x=.slice (some ⟨g,0,none⟩) m m) (hbase:base<=wN.heap.size)
  (h:∀v' w',w'.ownsRow base 140 3 v' (n+m) (Do (l++d))→(∀w0,Aa w0 wN→w0.heap.size<=base→Aa w0 w')→wN.grownBy w' v.ownBlock→K (a.put o.dst v') w') :
  o.wp Tryz.prog a wN K Q:=by
 subst hm;obtain⟨i0,hi,hz0,hz1,hz2⟩:=info_parts Tryz.infoPc;refine Sj s x 79 ho 140 i0 _ 3 64 d.length Tryz.underlying79 hi hz0 hz1 hz2 rfl (by omega) (by omega) hd wN base v n _ hs hown hn g _ hb (by simp [Aas]) ?_ hx hbase ?_
 ·intro u hu;simp only [Do,nV,List.mem_flatMap,List.mem_cons,Asr,or_false]at hu;obtain⟨y,_,hu⟩:=hu
  rcases hu with rfl|rfl|rfl<;>rfl
 ·intro v' w' h1 h2 h3;refine h v' w' ?_ h2 h3;have:Do (l++d)=Do l++(Do d).toArray.toList:=(by simp [Do]);rw [this];exact h1
theorem Aeq(hgd:o.guard=none)(s x:Operand)(ho:o.op=.call {callee:=.builtin .append,args:=#[s,x],argTypes:=#[79,79]})
  (wN:World) (base:Nat) (v:Value) (n:Nat) (l d:List Pz) (hs:a.eval s=v) (hown:wN.ownsRow base 140 3 v n (Do l)) (hn:n<200000) (hd:d.length<=10)
  (g m:Nat) (hm:d.length=m) (hb:wN.heap[g]?=some (.cells (Do d).toArray 140)) (hx:a.eval x=.slice (some ⟨g,0,none⟩) m m) (hbase:base<=wN.heap.size)
  (h:∀v' w',w'.ownsRow base 140 3 v' (n+m) (Do (l++d))→(∀w0,Aa w0 wN→w0.heap.size<=base→Aa w0 w')→wN.grownBy w' v.ownBlock→wpList Tryz.prog ops Q rest (a.put o.dst v') w') :
  wpList Tryz.prog ops Q (o::rest) a wN:=
 wpList_plain hgd fun _ hK=>AbW s x ho wN base v n l d hs hown hn hd g m hm hb hx hbase fun v' w' h1 h2 h3=>hK _ _ (h v' w' h1 h2 h3)
theorem RX{E:Prop}(hgd:o.guard=none)(s x:Operand)(ho:o.op=.call {callee:=.builtin .append,args:=#[s,x],argTypes:=#[79,79]})
  (wN:World) (base:Nat) (v:Value) (n:Nat) (l d:List Pz) (hs:a.eval s=v) (hown:wN.ownsRow base 140 3 v n (Do l)) (hn:n<200000) (hd:d.length<=10)
  (g m:Nat) (hm:d.length=m) (hb:wN.heap[g]?=some (.cells (Do d).toArray 140)) (hx:a.eval x=.slice (some ⟨g,0,none⟩) m m) (hbase:base<=wN.heap.size)
  (h:∀v' w',w'.ownsRow base 140 3 v' (n+m) (Do (l++d))→(∀w0,Aa w0 wN→w0.heap.size<=base→Aa w0 w')→wN.grownBy w' v.ownBlock→K (a.put o.dst v') w') :
  if Region.wanted o (yielded ops a.tmps)=true then Oper.wp Tryz.prog o a wN K Q else E:=by
 have hw:Region.wanted o (yielded ops a.tmps)=true:=(by simp [Region.wanted,hgd]);rw [if_pos hw];exact AbW s x ho wN base v n l d hs hown hn hd g m hm hb hx hbase h
end
end Go.Proofs.YtdaefncphfeaeaaGreatDoor
