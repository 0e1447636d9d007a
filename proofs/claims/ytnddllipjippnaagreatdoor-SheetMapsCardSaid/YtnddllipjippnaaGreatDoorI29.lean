/- I29: ShQE ShQF ShT2. -/
import Derived.Test.YtnddllipjippnaaGreatDoorI27
set_option maxRecDepth 100000
set_option maxHeartbeats 16000000
namespace Go.Proofs.YtnddllipjippnaaGreatDoor
open Go.RowKit Kl
structure Te(n:Nat)(l:List Hf):Prop where
 inn:Ej n l
 nn:∀h∈l,0<=h.l
def AeK(w:World)(n:Nat)(P:List (List Pt×Bs))(e:Ending)(w':World):Prop:=
 ∃v l,e=.returned v/\w'.ownsRow w.heap.size 156 5 v l.length (Bn l)/\Te n l/\l.length<=1000/\Ab w w'/\l=MK P
def nO:Value→Nat
 | .slice _ n _=>n
 | _=>0
theorem Alq{w:World}{B:Nat}{e:TypeId}{s n:Nat}{v:Value}{xs:List Value}(h:w.ownsRow B e s v n xs):nO v=n:=by
 rcases h.2 with⟨h',rfl⟩|⟨g,cap,cur,h',_⟩
 ·rw [h'];rfl
 ·rw [h'];rfl
theorem Fb{w:World}{B:Nat}{e:TypeId}{s n:Nat}{v:Value}{xs:List Value}(hs:0<s)(h:w.ownsRow B e s v n xs):∃A c,v=.slice A n c:=by
 obtain⟨A,c,h1,-,-,-⟩:=Ad.of_own' hs h;exact⟨A,c,h1⟩
theorem qQ(w:World)(o1 o2:Obj):((w.alloc o1).alloc o2).drew.heap[w.heap.size]?=some o1/\((w.alloc o1).alloc o2).drew.heap[w.heap.size+1]?=some o2/\Ab w ((w.alloc o1).alloc o2).drew:=by
 have E1:=(Ab.refl w).alloc o1;have h1:=Asz w o1;have E2:=(Ab.refl (w.alloc o1)).alloc o2;have h2:=Asz (w.alloc o1) o2;rw [As7]at h2;exact⟨(E2.block _ (Asy h1)).trans h1,h2,(E1.trans E2).drew⟩
theorem Ao7(P:List (List Pt×Bs))(hP:Tj P)(A:Option Addr)(c:Nat)(w:World)(hw:Aj w)(h:IS w A c P) :
  Calls Tryz.prog 93 #[.slice A P.length c] w (AeK w P.length P):=by
 have pn:=Sq;obtain⟨n,hn⟩:=Asw P.length;rw [←hn];have HN:=Asx hn;have hlen:n<=18:=(by rw [hn];exact hP.len);have HP:=Asx hP;have HA:=Asx h;have hc1:n<=c:=(by rw [hn];exact h.c1);clear hn hP h;go_enter Tryz.func93,Tryz.ntmps93
 go_upto_region 3 with fail
 go_loopw [3,4] (fun ov iv wr=>∃(i:Nat) (l:List Hf),iv=.int .i64 (i:Nat)/\i<=n/\wr.ownsRow w.heap.size 156 5 ov l.length (Bn l)/\Te n l/\l.length<=i*48/\l=(List.range i).flatMap (JD P)/\Ab w wr) (fun _ iv _=>n-(intOf iv).toNat)
 case atStart=>exact⟨0,[],rfl,by omega,⟨rfl,.inl ⟨rfl,rfl⟩⟩,⟨(fun h hh=>by cases hh),(fun h hh=>by cases hh)⟩,by simp,rfl,Ab.refl _⟩
 case round=>
  obtain⟨i,l,rfl,hi,hown,hl,DK,hle,Ae⟩:=hrel;have HL:=Asx hl;have HE:=Asx hle;clear hl hle;obtain⟨vA,vc,rfl⟩:=Fb (by omega) hown;by_cases hin:i<n
  ·have Jj:i<P.length:=(by rw [←HN.out];exact hin);obtain⟨bA,oA,A',c',rfl,Bd,Bl,Bp,Bi,hr1,hr2⟩:=HA.out.row i Jj;have GP:=HP.out.pts _ (As1 Jj);obtain⟨pg,Ec⟩:=Asw (P[i].1);have HPG:=Asx (Ag9 Jj Ec);rw [←Ec]at Bd Bi hr1 GP;replace Bd:=Ae.cellS Bd;have EW:(0:Int)<=(i:Int):=(by omega);have Ji:(i:Int)<(n:Int):=(by omega);have Wx:=Asx GP;clear Ec GP Bl Bp
   go_upto_region 7 with fail
   go_loopw [3,6] (fun ov kv wr=>∃(k:Nat) (l:List Hf),kv=.int .i64 (k:Nat)/\k<=pg.length/\wr.ownsRow w.heap.size 156 5 ov l.length (Bn l)/\Te n l/\l.length<=i*48+k*12/\l=(List.range i).flatMap (JD P)++(List.range k).flatMap (LK P i pg)/\Ab w wr) (fun _ kv _=>pg.length-(intOf kv).toNat)
   case atStart=>exact⟨0,l,rfl,by omega,hown,HL.out,by omega,by rw [List.range_zero,List.flatMap_nil,List.append_nil];exact HE.out,Ae⟩
   case round=>
    obtain⟨k,l,rfl,hk,hown,hl,DK,hle,Ae⟩:=hrel;have HL:=Asx hl;have HE:=Asx hle;clear hl hle;obtain⟨vA,vc,rfl⟩:=Fb (by omega) hown;have hp4:=Wx.out.2;by_cases hkn:k<pg.length
    ·obtain⟨q,hq⟩:=Asw ((k+1)%pg.length);have Gx:q<pg.length:=by rw [hq];exact Nat.mod_lt _ (by omega)
     have I8:(((k:Int)+1)).tmod (pg.length:Int)=(q:Int):=by rw [Int.tmod_eq_emod_of_nonneg (by omega),hq,Int.natCast_emod];rfl
     have kR:(((k:Int)+1))%(pg.length:Int)=(q:Int):=(by rw [hq,Int.natCast_emod];rfl);have Rv:¬((pg.length:Int)=0):=(by omega);have lC:¬(pg.length=0):=(by omega);have qj:((pg.length:Int) == 0)=false:=beq_false_of_ne Rv;have lU:IntKind.wrap .i64 (q:Int)=(q:Int):=As6 _ (by omega);have NV:IntKind.wrap .i64 ((k:Int)+1)=(k:Int)+1:=As6 _ (by omega);obtain⟨b,o,rfl,ka,kb⟩:=BN (Bi.ext Ae) hkn;obtain⟨b',o',he,qa,qb⟩:=BN (Bi.ext Ae) Gx;simp only [As4,Addr.mk.injEq,and_true]at he;obtain⟨rfl,rfl⟩:=he;have Og:=Wx.out.1 _ (As1 hkn);have Mz:=Wx.out.1 _ (As1 Gx);obtain⟨a0,ha0⟩:=Asw (pg[k]);obtain⟨b0,hb0⟩:=Asw (pg[q]);rw [←ha0]at ka kb Og;rw [←hb0]at qa qb Mz;have SA:=Asx (AgA (P:=P) (i:=i) hkn hq Gx ha0 hb0);have hk0:(0:Int)<=(k:Int):=(by omega);have D3:(k:Int)<(pg.length:Int):=(by omega);have rk:(0:Int)<=(q:Int):=(by omega);have rp:(q:Int)<(pg.length:Int):=(by omega);have hm0:(0:Int)<(pg.length:Int):=(by omega);clear ha0 hb0 hq;have hpn:pg≠[]:=fun e=>(by rw [e]at hkn;simp at hkn);have X:=Ab.refl wr;have SO:∀w',Ab wr w'→(w'.cell? ⟨b,o+k*2,none⟩=some (S (R a0.x))/\w'.cell? ⟨b,o+k*2+1,none⟩=some (S (R a0.y))/\w'.cell? ⟨b,o+q*2,none⟩=some (S (R b0.x))/\w'.cell? ⟨b,o+q*2+1,none⟩=some (S (R b0.y))):=fun w' h=>⟨h.cellS ka,h.cellS kb,h.cellS qa,h.cellS qb⟩
     go_upto_region 9 with fail
     go_cut [7,8] (fun v7 v8 wx=>∃ba bb,v7=.pointer (some ⟨ba,0,none⟩)/\v8=.pointer (some ⟨bb,0,none⟩)/\wx.heap[ba]?=some (.cells #[S (R a0.x),S (R a0.y)] 24)/\wx.heap[bb]?=some (.cells #[S (R b0.x),S (R b0.y)] 24)/\ba≠bb/\wr.heap.size<=ba/\wr.heap.size<=bb/\Ab wr wx)
     case first=>
      go_region_held3 (fun w'=>w'.cell? ⟨b,o+k*2,none⟩=some (S (R a0.x))/\w'.cell? ⟨b,o+k*2+1,none⟩=some (S (R a0.y))/\w'.cell? ⟨b,o+q*2,none⟩=some (S (R b0.x))/\w'.cell? ⟨b,o+q*2+1,none⟩=some (S (R b0.y)))
       ((refine SO _ ?_;repeat (first|exact X|(with_reducible refine Ab.drew ?_)|(with_reducible refine Ab.alloc ?_ _)|(with_reducible refine Ab.setCell ?_ (by simp) _))))
       (fail)
      all_goals go_wp2
      all_goals go_meet
      all_goals (
       refine⟨_,_,rfl,rfl,?_,?_,by omega,by omega,by omega,?_⟩
       all_goals try unfold S
       all_goals first
        | with_reducible exact(qQ _ _ _).1
        | with_reducible exact(qQ _ _ _).2.1
        | with_reducible exact(qQ _ _ _).2.2)
     case rest=>
      obtain⟨ba,bb,rfl,rfl,Au,AZ,hab,Aq4,Aq6,Ao⟩:=hcut;obtain⟨W4,rfl⟩:=Li Ao;have CJ:=Ae.trans Ao;have Le:=An hown Ao;have ArK:=Ae.size;have Aq5:=Asy Au;clear SO X ka kb qa qb
      go_upto_region 10 with fail
      go_loopw [3] (fun ov w3=>∃(l3:List Hf) (a:Pt),w3.heap[ba]?=some (.cells #[S (R a.x),S (R a.y)] 24)/\CB a/\w3.ownsRow w.heap.size 156 5 ov l3.length (Bn l3)/\Te n l3/\l3.length+dst a b0<=i*48+k*12+12/\(∃f,dst a b0<f/\l3++JC P (i:Int) f a b0=(List.range i).flatMap (JD P)++(List.range (k+1)).flatMap (LK P i pg))/\w3.heap[bb]?=some (.cells #[S (R b0.x),S (R b0.y)] 24)/\Ab w w3) (fun ov _=>i*48+k*12+13-nO ov)
      case atStart=>exact⟨l,a0,Au,Og,Le,HL.out,by have:=yE Og Mz;omega,⟨13,by have:=yE Og Mz;omega,by rw [eV,SA.out,←List.append_assoc,←HE.out]⟩,AZ,CJ⟩
      case round=>
       obtain⟨l3,a,QZ,R7,Ep,hl3,ku,ko,hcb,Yv⟩:=hrel;have aU:=Asx hl3;have rP:=Asx ko;clear hl3 ko;obtain⟨vA,vc,rfl⟩:=Fb (by omega) Ep;have z0:=Aa (o:=0) QZ rfl;have z1:=Aa (o:=1) QZ rfl;have z2:=Aa (o:=0) hcb rfl;have z3:=Aa (o:=1) hcb rfl
       cases iR:Aq a b0
       ·have YG:=Z9 iR;have HAB:=Asx iR;have Cv:=Asz wr (.cells #[S (R b0.x),S (R b0.y)] 24);have E5:=(Ab.refl wr).alloc (.cells #[S (R b0.x),S (R b0.y)] 24);have jR:=(E5.block _ (Asy QZ)).trans QZ;have Rx:=An Ep E5;have ER:=Yv.trans E5;have jx:=(E5.block _ (Asy hcb)).trans hcb
        go_upto_region 13 with fail
        unfold S at Cv jR Rx ER jx;generalize (wr.alloc (.cells #[.string ⟨(R b0.x).toArray⟩,.string ⟨(R b0.y).toArray⟩] 24))=W5 at *;obtain⟨bn,NM⟩:=Asw wr.heap.size;have Ajz:=Asy QZ;have Aj1:=Asy hcb;rw [←NM]at Cv Ajz Aj1 ⊢;have vu:w.heap.size<=bn:=(by have:=Yv.size;omega);clear NM z0 z1 z2 z3 QZ hcb Ep Yv E5;have DL:(0:Int)<=(n:Int):=by omega
        go_loopw [51] (fun iv w6=>∃(s:Nat) (nx:Pt),iv=.int .i64 (s:Nat)/\s<=n/\w6.heap[bn]?=some (.cells #[S (R nx.x),S (R nx.y)] 24)/\CB nx/\IO a b0 nx/\nx≠a/\nx=(P.take s).foldl (VB a) b0/\Ak (fun q=>q=bn) W5 w6) (fun iv _=>n-(intOf iv).toNat)
        case atStart=>exact⟨0,b0,rfl,by omega,Cv,Mz,AkA a b0,fun e=>YG e.symm,rfl,Ak.refl _ _⟩
        case round=>
         obtain⟨s,nx,rfl,hs,BB,EE,Ax,qh,DZ,JH⟩:=hrel;have HI:=Asx (And.intro EE (And.intro Ax qh));have L8:=Asx DZ;clear Ax qh EE DZ;have BY:Ab w wr:=JH.toExt ER (fun q e=>by subst e;exact vu);by_cases CV:s<n
         ·have Vb:s<P.length:=(by rw [←HN.out];exact CV);obtain⟨bA2,Zu,A2,c2,ET,p0,p1,p2,prd,pr1,pr2⟩:=HA.out.row s Vb;simp only [As4,Addr.mk.injEq,and_true]at ET;obtain⟨rfl,rfl⟩:=ET;have P7:=(HP.out.pts _ (As1 Vb)).1;obtain⟨ID,lR⟩:=Asw (P[s].1);obtain⟨Sw,uw⟩:=Asw (P[s].2);rw [←lR]at p0 prd pr1 P7;rw [←uw]at p1;replace p0:=BY.cellS p0;replace p1:=BY.cellS p1;replace p2:=BY.cellS p2;have AdW:=Asx P7;have AdS:=Asx lR;have hs0:(0:Int)<=(s:Int):=(by omega);have hs1:(s:Int)<(n:Int):=(by omega);have Ap:=Asz wr (.cells #[.slice A2 ID.length c2,S Sw,.slice none 0 0] 84);have E7:=(Ab.refl wr).alloc (.cells #[.slice A2 ID.length c2,S Sw,.slice none 0 0] 84);have QE:=JH.ext E7;have Rc:=(E7.block _ (Asy BB)).trans BB;clear lR uw P7
          go_upto_region 15 with fail
          unfold S at Ap QE Rc;generalize (wr.alloc (.cells #[.slice A2 ID.length c2,.string ⟨Sw.toArray⟩,.slice none 0 0] 84))=W7 at *;have w0:=Aa (o:=0) Ap rfl;have hpl:(0:Int)<=(ID.length:Int):=(by omega);clear p0 p1 p2 E7 BB JH
          go_upto_region 16 with fail
          go_loopw [58] (fun iv w8=>∃(u:Nat) (nx:Pt),iv=.int .i64 (u:Nat)/\u<=ID.length/\w8.heap[bn]?=some (.cells #[S (R nx.x),S (R nx.y)] 24)/\CB nx/\IO a b0 nx/\nx≠a/\nx=(ID.take u).foldl (Ko a) ((P.take s).foldl (VB a) b0)/\Ak (fun q=>q=bn) W5 w8) (fun iv _=>ID.length-(intOf iv).toNat)
          case atStart=>exact⟨0,nx,rfl,by omega,Rc,HI.out.1,HI.out.2.1,HI.out.2.2,L8.out,QE⟩
          case round=>
           obtain⟨u,nx,rfl,hu,U6,t8,Yi,qi,qo,Fu⟩:=hrel;have J1:=Asx (And.intro t8 (And.intro Yi qi));have sQ:=Asx qo;clear Yi qi t8 qo;have JM:Ab w wr:=Fu.toExt ER (fun q e=>by subst e;exact vu);by_cases Dq:u<ID.length
           ·obtain⟨bq,oq,rfl,g1,g2⟩:=BN (prd.ext JM) Dq;have Ee:=AdW.out _ (As1 Dq);obtain⟨q2,Bp⟩:=Asw (ID[u]);rw [←Bp]at g1 g2 Ee;have HST:=Asx (Amh Dq Bp sQ.out);have uj:(0:Int)<=(u:Int):=(by omega);have hu1:(u:Int)<(ID.length:Int):=(by omega);have BH:=Asz wr (.cells #[S (R q2.x),S (R q2.y)] 24);have E9:=(Ab.refl wr).alloc (.cells #[S (R q2.x),S (R q2.y)] 24);have Gq:=Fu.ext E9;have Re:=(E9.block _ (Asy U6)).trans U6;have Fz:=JM.trans E9;have AiN:=Asy U6;clear Bp
            go_upto_region 18 with fail
            unfold S at BH Gq Re Fz;generalize (wr.alloc (.cells #[.string ⟨(R q2.x).toArray⟩,.string ⟨(R q2.y).toArray⟩] 24))=W9 at *;obtain⟨bz,QY⟩:=Asw wr.heap.size;rw [←QY]at BH AiN ⊢;clear QY g1 g2 E9 Fu U6 JM;have U2:=Gq.cells jR (by omega);have bt:=Apx a nx q2 R7.sz2 J1.out.1.sz2 Ee.sz2 W9 (hw.ext Fz);unfold Af Ab0 at bt;have z0:=Aa (o:=0) U2 rfl;have z1:=Aa (o:=1) U2 rfl;have z2:=Aa (o:=0) Re rfl;have z3:=Aa (o:=1) Re rfl;have z4:=Aa (o:=0) BH rfl;have z5:=Aa (o:=1) BH rfl;obtain⟨btv,jK⟩:=Asw (KF a nx q2);rw [←jK]at bt;have Wn:=Asx jK;clear jK;(go_wp2_with fail);(with_reducible refine bt.mono ?_);rintro e LF ⟨rfl,hx10⟩;have QD:=Gq.ext hx10;have Pm:=(hx10.block _ (Asy Re)).trans Re;have jQ:=(hx10.block _ (Asy U2)).trans U2;have jI:=(hx10.block _ (Asy BH)).trans BH;clear z0 z1 z2 z3 z4 z5 bt Gq Re U2 BH
            cases btv
            ·clear jQ jI;go_wp2;go_roundw
             case rel=>exact⟨u+1,nx,by go_num,Dq,Pm,J1.out.1,J1.out.2.1,J1.out.2.2,(Amf Wn.out.symm).symm.trans HST.out,QD⟩
             case measure=>simp [intOf];omega
            ·have y0:=Aa (o:=0) jQ rfl;have y1:=Aa (o:=1) jQ rfl;have y4:=Aa (o:=0) jI rfl;have y5:=Aa (o:=1) jI rfl
             cases lS:Aq q2 a
             ·have hne:=Z9 lS;have G4:=Asx ((Ami Wn.out.symm lS).symm.trans HST.out);have sN:=Asx (And.intro hne (AkB J1.out.2.1 (AfS Wn.out.symm)));have y2:=Aa (o:=0) Pm rfl;have y3:=Aa (o:=1) Pm rfl;have y6:=Ah (o:=0) Pm;have y7:=Ah (o:=1) Pm;have AA:=Qy (S (R q2.x)) (S (R q2.y)) Pm;have KN:=(QD.setCell (p:=⟨bn,0,none⟩) (.inl rfl) (S (R q2.x))).setCell (p:=⟨bn,1,none⟩) (.inl rfl) (S (R q2.y));have HS:=Asx AA;have HB:=Asx KN;clear hne AA KN;go_wp2;go_roundw
              case rel=>exact⟨u+1,q2,by go_num,Dq,HS.out,Ee,sN.out.2,sN.out.1,G4.out,HB.out⟩
              case measure=>simp [intOf];omega
             ·have G4:=Asx ((Amg Wn.out.symm lS).symm.trans HST.out);go_wp2;go_roundw
              case rel=>exact⟨u+1,nx,by go_num,Dq,Pm,J1.out.1,J1.out.2.1,J1.out.2.2,G4.out,QD⟩
              case measure=>simp [intOf];omega
           ·have huu:u=ID.length:=(by omega);subst huu;have Ajw:(ID.length:Int)<=(ID.length:Int):=(by omega);go_wp2;go_roundw
            case rel=>exact⟨s+1,nx,by go_num,CV,U6,J1.out.1,J1.out.2.1,J1.out.2.2,Ame Vb AdS.out sQ.out,Fu⟩
            case measure=>simp [intOf];omega
         ·have IC:s=n:=(by omega);subst IC;have Ajw:(s:Int)<=(s:Int):=(by omega);have U1:=JH.cells jR (by omega);have jS:=JH.cells jx (by omega);have AiL:(Value.slice vA l3.length vc).ownBlock≠some bn:=Av Rx Cv (by decide);have P4:=AS Rx JH (fun q hq e=>by subst e;exact AiL hq);have y0:=Aa (o:=0) U1 rfl;have y1:=Aa (o:=1) U1 rfl;have y2:=Aa (o:=0) BB rfl;have y3:=Aa (o:=1) BB rfl;have Pn:=AgR R7 Mz HI.out.1 HI.out.2.1 HI.out.2.2
          have kq:∃f,dst nx b0<f/\(l3 ++ [⟨a,nx,(i:Int)⟩])++JC P (i:Int) f nx b0=(List.range i).flatMap (JD P)++(List.range (k+1)).flatMap (LK P i pg):=by
           obtain⟨f,I6,hf2⟩:=rP.out;obtain⟨g,rfl⟩:∃g,f=g+1:=⟨f-1,by omega⟩;refine⟨g,by omega,?_⟩;rw [←hf2,AgD (nx:=nx) HAB.out (by have h:=L8.out;rwa [HN.out,List.take_length]at h),List.append_assoc]
           rfl
          have aG:=Asx kq;clear kq;have Ajq:l3.length<200000:=(by have:=HN.out;have:=Wx.out.2;omega);have hbase:w.heap.size<=wr.heap.size:=BY.size;have zw:=Asy U1;have lt2:=Asy jS;have lt3:=Asy BB;have nY:=Av P4 U1 (by decide);have nZ:=Av P4 jS (by decide);have ne3:=Av P4 BB (by decide)
          have TT:∀(X:Obj) (W7:World),(wr.alloc X).grownBy W7 (Value.slice vA l3.length vc).ownBlock→W7.heap[ba]?=some (.cells #[S (R a.x),S (R a.y)] 24)/\W7.heap[bb]?=some (.cells #[S (R b0.x),S (R b0.y)] 24)/\W7.heap[bn]?=some (.cells #[S (R nx.x),S (R nx.y)] 24):=by intro X W7 hg;have Ex:=(Ab.refl wr).alloc X;exact⟨(hg.block ba (As9 zw Ex.size) (fun e=>nY e.symm)).trans ((Ex.block ba zw).trans U1),(hg.block bb (As9 lt2 Ex.size) (fun e=>nZ e.symm)).trans ((Ex.block bb lt2).trans jS),(hg.block bn (As9 lt3 Ex.size) (fun e=>ne3 e.symm)).trans ((Ex.block bn lt3).trans BB)⟩
          go_wp2_with (at_builtin;go_loud (refine dD rfl _ _ rfl _ w.heap.size (.slice vA l3.length vc) l3.length l3 [⟨a,nx,(i:Int)⟩] rfl (An P4 ((Ab.refl wr).alloc _)) Ajq (by simp) wr.heap.size 1 rfl (by rw [Yn];exact Asz wr _) rfl (by simp;omega) ?_);intro v7 w7 CU GK DJ;have Cl:=GK w (BY.trans ((Ab.refl wr).alloc _)) (As0 _);obtain⟨T1,T2,T3⟩:=TT _ _ DJ;have k0:=Aa (o:=0) T3 rfl;have k1:=Aa (o:=1) T3 rfl;have k2:=Aa (o:=0) T1 rfl;have k3:=Aa (o:=1) T1 rfl;have k4:=Ah (o:=0) T1;have k5:=Ah (o:=1) T1)
          have AA:=Qy (S (R nx.x)) (S (R nx.y)) T1;have Aq0:bn≠ba:=by omega
          have AQ:Te s (l3 ++ [⟨a,nx,(i:Int)⟩]):=by
           constructor
           ·intro z hz
            rcases List.mem_append.1 hz with e|e
            ·exact aU.out.inn z e
            ·simp only [AsC]at e;rw [e];exact⟨R7,HI.out.1,fun e0=>HI.out.2.2 e0.symm,by show (-1:Int)<=(i:Int);omega,Ji⟩
           ·intro z hz
            rcases List.mem_append.1 hz with e|e
            ·exact aU.out.nn z e
            ·simp only [AsC]at e;rw [e];exact EW
          have JM:=(Cl.setCell (p:=⟨ba,0,none⟩) (by show w.heap.size<=ba;omega) (S (R nx.x))).setCell (p:=⟨ba,1,none⟩) (by show w.heap.size<=ba;omega) (S (R nx.y));have Mw:=AS (K:=fun q=>q=ba) CU (((Ak.refl (fun q=>q=ba) w7).setCell (p:=⟨ba,0,none⟩) (.inl rfl) (S (R nx.x))).setCell (p:=⟨ba,1,none⟩) (.inl rfl) (S (R nx.y))) (fun q hq e=>by subst e;exact Av CU T1 (by decide) hq)
          have jy:((w7.setCell ⟨ba,0,none⟩ (S (R nx.x))).setCell ⟨ba,1,none⟩ (S (R nx.y))).heap[bb]?=some (.cells #[S (R b0.x),S (R b0.y)] 24):=by rw [Bu (by show bb≠ba;exact fun e=>hab e.symm),Bu (by show bb≠ba;exact fun e=>hab e.symm)];exact T2
          have hlv:=Alq Mw;have HF:=Asx (And.intro AA (And.intro AQ (And.intro JM (And.intro Mw jy))));have HLV:=Asx hlv;have AjX:=HI.out.1;clear AA AQ JM Mw jy DJ GK T2 Cl hlv;go_wp2;go_roundw
          case rel=>exact⟨l3 ++ [⟨a,nx,(i:Int)⟩],nx,HF.out.1,AjX,by rw [List.length_append,List.length_singleton];exact HF.out.2.2.2.1,HF.out.2.1,by rw [List.length_append,List.length_singleton];omega,aG.out,HF.out.2.2.2.2,HF.out.2.2.1⟩
          case measure=>rw [HLV.out];simp [nO];omega
       ·have UM:l3.length<=i*48+(k+1)*12:=by omega
        have oy:l3=(List.range i).flatMap (JD P)++(List.range (k+1)).flatMap (LK P i pg):=by obtain⟨f,I6,hf2⟩:=rP.out;rw [AgC (by omega) iR,List.append_nil]at hf2;exact hf2
        have J2:=Asx oy;clear oy;go_wp2;go_roundw
        case rel=>exact⟨k+1,l3,by go_num,hkn,Ep,aU.out,UM,J2.out,Yv⟩
        case measure=>simp [intOf];omega
    ·have Ch:k=pg.length:=(by omega);subst Ch;have Jm:(pg.length:Int)<=(pg.length:Int):=(by omega);go_wp2;go_roundw
     case rel=>exact⟨i+1,l,by go_num,hin,hown,HL.out,by omega,by rw [eV,←HPG.out];exact HE.out,Ae⟩
     case measure=>simp [intOf];omega
  ·have Mp:i=n:=(by omega);subst Mp;have H6:(i:Int)<=(i:Int):=(by omega);go_wp2;go_ret;exact⟨_,l,rfl,hown,HL.out,by omega,Ae,by unfold MK;rw [←HN.out];exact HE.out⟩
theorem AnV(l:List Hf)(x:Hf)(fs:List Int)(hl:Ej fs.length l)(A F:Option Addr)(c d bl bf:Nat)(w:World)(h1:w.cell? ⟨bl,0,none⟩=some (.slice A l.length c))(hr:Ad w A (Bn l))(hc:l.length<=c)(hcm:c<=9223372036854775807)
  (h2:w.cell? ⟨bf,0,none⟩=some (.slice F fs.length d)) (hf:Ad w F (zs fs)) :
  Calls Tryz.prog 95 #[GL x,.pointer (some ⟨bl,0,none⟩),.pointer (some ⟨bf,0,none⟩)] w (AI (PW l fs x) w):=by
 have hE:=(Ab.refl w).alloc (.cells #[S (R x.a.x),S (R x.a.y),S (R x.b.x),S (R x.b.y),.int .i64 x.l] 156);have hb:=Asz w (.cells #[S (R x.a.x),S (R x.a.y),S (R x.b.x),S (R x.b.y),.int .i64 x.l] 156);have bk:=fun (w':World) (h:Ab w w')=>Xe l x A c w' (hr.ext h) hc hcm;have hbr:=hl.back x
 have YQ:PW l fs x=if 0<=C4 l x then fs.getD (C4 l x).toNat 0 else -1:=rfl
 obtain⟨z,hz⟩:=Asw (PW l fs x);rw [←hz]at YQ ⊢;obtain⟨r,hr0⟩:=Asw (C4 l x);rw [←hr0]at YQ hbr;have L9:=Asx YQ;simp only [←hr0]at bk;unfold GL at bk ⊢;have k1:=hE.cellS h1;have k2:=hE.cellS h2;have I6:=hf.ext hE;clear hz hr0 YQ h1 h2 hf hr hl;go_enter Tryz.func95,Tryz.ntmps95
 go_upto_region 1 with fail
 generalize w.alloc (.cells #[S (R x.a.x),S (R x.a.y),S (R x.b.x),S (R x.b.y),.int .i64 x.l] 156)=V at *;obtain⟨bp,Ap⟩:=Asw w.heap.size;rw [←Ap]at hb ⊢;clear Ap;have q0:=Aa (o:=0) hb rfl;have q1:=Aa (o:=1) hb rfl;have q2:=Aa (o:=2) hb rfl;have q3:=Aa (o:=3) hb rfl;have q4:=Aa (o:=4) hb rfl;(go_wp2_with fail);(with_reducible refine(bk _ hE).mono ?_);rintro e w1 ⟨rfl,hx1⟩;replace k2:=hx1.cellS k2;have hf2:=I6.ext hx1;clear q0 q1 q2 q3 q4 bk k1 hb I6;by_cases h0:r<0
 ·obtain rfl:z = -1:=(by rw [L9.out,if_neg (by omega)]);go_wp2;go_ret;exact⟨rfl,hE.trans hx1⟩
 ·obtain⟨m,rfl⟩:∃m:Nat,r=(m:Int):=⟨r.toNat,by omega⟩;have hm:m<fs.length:=(by omega);obtain⟨b,o,rfl,hc2⟩:=hf2.ad (by simp [zs];omega);have kh:=hc2 m (by simp [zs];exact hm);have hzz:z=fs[m]:=(by rw [L9.out,if_pos (by omega)];simp [List.getD_eq_getElem?_getD,As5 hm]);have hge:(zs fs)[m]'(by simp [zs];exact hm)=.int .i64 z:=(by rw [hzz];simp [zs]);rw [hge]at kh;have hm0:(0:Int)<=(m:Int):=(by omega);have hm1:(m:Int)<(fs.length:Int):=(by omega);clear hzz hge hc2 L9;go_wp2;go_ret;exact⟨rfl,hE.trans hx1⟩
structure Pz where
 b:Nat
 pts:List Pt
 u:Bs
def pO(e:Pz):List Value:=[.slice (some ⟨e.b,0,none⟩) e.pts.length e.pts.length,S e.u,.slice none 0 0]
def Dh(l:List Pz):List Value:=l.flatMap pO
theorem Abn(l:List Pz):(Dh l).length=l.length*3:=by
 induction l with
 | nil=>rfl
 | cons h l ih=>simp [Dh,pO]at ih ⊢;omega
theorem Abm:∀(l:List Pz) (j:Nat) (h:j<l.length),(Dh l)[j*3]?=some (.slice (some ⟨l[j].b,0,none⟩) l[j].pts.length l[j].pts.length)/\(Dh l)[j*3+1]?=some (S l[j].u)/\(Dh l)[j*3+2]?=some (.slice none 0 0)
 | e::l,0,_=>⟨rfl,rfl,rfl⟩
 | e::l,j+1,h=>by
  have ih:=Abm l j (by simpa using h);have e0:Dh (e::l)=.slice (some ⟨e.b,0,none⟩) e.pts.length e.pts.length::S e.u :: .slice none 0 0::Dh l:=rfl;rw [e0];have e1:(j+1)*3=j*3+1+1+1:=(by omega);rw [e1]
  simpa using ih
theorem Anr(x:Pz)(n:Nat)(hn:x.pts.length=n):(Dh [x]).toArray=#[.slice (some ⟨x.b,0,none⟩) n n,.string ⟨x.u.toArray⟩,.slice none 0 0]:=by subst hn;rfl
theorem Si(x y:Pz)(n m:Nat)(hn:x.pts.length=n)(hm:y.pts.length=m):(Dh [x,y]).toArray=#[.slice (some ⟨x.b,0,none⟩) n n,.string ⟨x.u.toArray⟩,.slice none 0 0,.slice (some ⟨y.b,0,none⟩) m m,.string ⟨y.u.toArray⟩,.slice none 0 0]:=by subst hn;subst hm;rfl
structure G6(w:World)(e:Pz):Prop where
 blk:w.heap[e.b]?=some (.cells (flat (Ag e.pts)).toArray 24)
 sh:∀p∈e.pts,CB p
 le:e.pts.length<=4
 un:∃n:Nat,e.u=Bt n
theorem G6.ext{w w':World}{e:Pz}(h:G6 w e)(hx:Ab w w'):G6 w' e:=⟨(hx.block _ (Asy h.blk)).trans h.blk,h.sh,h.le,h.un⟩
theorem Ad.blk{w:World}{b:Nat}{cs:List Value}{t:TypeId}(h:w.heap[b]?=some (.cells cs.toArray t)):Ad w (some ⟨b,0,none⟩) cs:=
 ⟨fun _=>⟨b,0,rfl,fun j hj=>by rw [Nat.zero_add];exact Aa h (by simp [hj])⟩⟩
def Fe(l:List Pz):List (List Pt×Bs):=l.map fun e=>(e.pts,e.u)
theorem Anq(l:List Pz):(Fe l).length=l.length:=by simp [Fe]
theorem AmN{w:World}{A:Option Addr}{c:Nat}{l:List Pz}(hr:Ad w A (Dh l))(Ai:∀e∈l,G6 w e)(h1:l.length<=c)(h2:c<=9223372036854775807):IS w A c (Fe l):=by
 refine⟨by simpa [Fe]using h1,h2,fun j hj=>?_⟩;have hj':j<l.length:=(by simpa [Fe]using hj);have hl:=Abn l;obtain⟨b,o,e,hcs⟩:=hr.ad (by omega);obtain⟨f1,f2,f3⟩:=Abm l j hj';have g1:=hcs (j*3) (by omega);have g2:=hcs (j*3+1) (by omega);have g3:=hcs (j*3+2) (by omega);rw [As5 (by omega),As4]at f1 f2 f3;rw [f1]at g1;rw [f2,←Nat.add_assoc]at g2;rw [f3,←Nat.add_assoc]at g3;have hk:=Ai l[j] (As1 hj');have he:(Fe l)[j]=(l[j].pts,l[j].u):=(by simp [Fe]);rw [he];have:=hk.le;exact⟨b,o,some ⟨l[j].b,0,none⟩,l[j].pts.length,e,g1,g2,g3,Ad.blk hk.blk,As0 _,by omega⟩
theorem AmO{w:World}{l:List Pz}(Ai:∀e∈l,G6 w e)(hl:l.length<=18):Tj (Fe l):=by
 refine⟨by simpa [Fe]using hl,fun e he=>?_,fun e he=>?_⟩
 ·simp only [Fe,List.mem_map]at he;obtain⟨x,hx,rfl⟩:=he;exact⟨(Ai x hx).sh,(Ai x hx).le⟩
 ·simp only [Fe,List.mem_map]at he;obtain⟨x,hx,rfl⟩:=he;exact(Ai x hx).un
theorem PT{wN w':World}{base n:Nat}{v:Value}{l d:List Pz}(hown:wN.ownsRow base 84 3 v n (Dh l))(hg:wN.grownBy w' v.ownBlock)(Ai:∀e∈l,G6 wN e)(hd:∀e∈d,G6 wN e) :
  ∀e∈l++d,G6 w' e:=by
 intro e he
 have h:G6 wN e:=by
  rcases List.mem_append.1 he with k|k
  ·exact Ai e k
  ·exact hd e k
 exact⟨(hg.block _ (Asy h.blk) (fun k=>Av hown h.blk (by decide) k.symm)).trans h.blk,h.sh,h.le,h.un⟩
theorem AoR(x y:Nat)(hx:x<=2)(hy:y<=2):∃a0 a1 a2 a3:Pt,(X9 (ZQ x y)).toArray=#[S (R a0.x),S (R a0.y),S (R a1.x),S (R a1.y),S (R a2.x),S (R a2.y),S (R a3.x),S (R a3.y)]
  /\(CB a0/\CB a1/\CB a2/\CB a3)/\CB ⟨Di a0.x a3.x (1/2),Di a0.y a3.y (1/2)⟩/\CB ⟨Di a1.x a2.x (1/2),Di a1.y a2.y (1/2)⟩/\Qt x y a0 a1 a2 a3 ⟨Di a0.x a3.x (1/2),Di a0.y a3.y (1/2)⟩ ⟨Di a1.x a2.x (1/2),Di a1.y a2.y (1/2)⟩:=by
 refine⟨gp (2*x,2*y),gp (2*x+2,2*y),gp (2*x+2,2*y+2),gp (2*x,2*y+2),rfl,⟨⟨_,⟨?_,?_,?_,?_⟩,rfl⟩,⟨_,⟨?_,?_,?_,?_⟩,rfl⟩,⟨_,⟨?_,?_,?_,?_⟩,rfl⟩,⟨_,⟨?_,?_,?_,?_⟩,rfl⟩⟩,?_,?_,rfl,rfl,rfl,rfl,XA _ _ _ (by simp only [];omega) (by simp only [];omega),XA _ _ _ (by simp only [];omega) (by simp only [];omega)⟩
 all_goals try (simp only [];omega)
 ·exact⟨(2*x,2*y+1),⟨by simp only [];omega,by simp only [];omega,by simp only [];omega,by simp only [];omega⟩,XA _ _ _ (by simp only [];omega) (by simp only [];omega)⟩
 ·exact⟨(2*x+2,2*y+1),⟨by simp only [];omega,by simp only [];omega,by simp only [];omega,by simp only [];omega⟩,XA _ _ _ (by simp only [];omega) (by simp only [];omega)⟩
section
variable {ops : Array Oper} {rest : List Oper} {o : Oper} {a : Act} {K : Act → World → Prop} {Q : Exit → Act → World → Prop}
theorem AcM(s x:Operand)(ho:o.op=.call {callee:=.builtin .append,args:=#[s,x],argTypes:=#[85,85]})
  (wN:World) (base:Nat) (v:Value) (n:Nat) (l d:List Pz) (hs:a.eval s=v) (hown:wN.ownsRow base 84 3 v n (Dh l)) (hn:n<200000) (hd:d.length<=10)
  (g m:Nat) (hm:d.length=m) (hb:wN.heap[g]?=some (.cells (Dh d).toArray 84)) (hx:a.eval x=.slice (some ⟨g,0,none⟩) m m) (hbase:base<=wN.heap.size)
  (h:∀v' w',w'.ownsRow base 84 3 v' (n+m) (Dh (l++d))→(∀w0,Ab w0 wN→w0.heap.size<=base→Ab w0 w')→wN.grownBy w' v.ownBlock→K (a.put o.dst v') w') :
  o.wp Tryz.prog a wN K Q:=by
 subst hm;obtain⟨i0,hi,hz0,hz1,hz2⟩:=info_parts Tryz.infoPc;refine VZ s x 85 ho 84 i0 _ 3 64 d.length Tryz.underlying85 hi hz0 hz1 hz2 rfl (by omega) (by omega) hd wN base v n _ hs hown hn g _ hb (by simp [Abn]) ?_ hx hbase ?_
 ·intro u hu;simp only [Dh,pO,List.mem_flatMap,List.mem_cons,AsB,or_false]at hu;obtain⟨y,_,hu⟩:=hu
  rcases hu with rfl|rfl|rfl<;>rfl
 ·intro v' w' h1 h2 h3;refine h v' w' ?_ h2 h3;have:Dh (l++d)=Dh l++(Dh d).toArray.toList:=(by simp [Dh]);rw [this];exact h1
theorem Afm(hgd:o.guard=none)(s x:Operand)(ho:o.op=.call {callee:=.builtin .append,args:=#[s,x],argTypes:=#[85,85]})
  (wN:World) (base:Nat) (v:Value) (n:Nat) (l d:List Pz) (hs:a.eval s=v) (hown:wN.ownsRow base 84 3 v n (Dh l)) (hn:n<200000) (hd:d.length<=10)
  (g m:Nat) (hm:d.length=m) (hb:wN.heap[g]?=some (.cells (Dh d).toArray 84)) (hx:a.eval x=.slice (some ⟨g,0,none⟩) m m) (hbase:base<=wN.heap.size)
  (h:∀v' w',w'.ownsRow base 84 3 v' (n+m) (Dh (l++d))→(∀w0,Ab w0 wN→w0.heap.size<=base→Ab w0 w')→wN.grownBy w' v.ownBlock→wpList Tryz.prog ops Q rest (a.put o.dst v') w') :
  wpList Tryz.prog ops Q (o::rest) a wN:=
 wpList_plain hgd fun _ hK=>AcM s x ho wN base v n l d hs hown hn hd g m hm hb hx hbase fun v' w' h1 h2 h3=>hK _ _ (h v' w' h1 h2 h3)
theorem Su{E:Prop}(hgd:o.guard=none)(s x:Operand)(ho:o.op=.call {callee:=.builtin .append,args:=#[s,x],argTypes:=#[85,85]})
  (wN:World) (base:Nat) (v:Value) (n:Nat) (l d:List Pz) (hs:a.eval s=v) (hown:wN.ownsRow base 84 3 v n (Dh l)) (hn:n<200000) (hd:d.length<=10)
  (g m:Nat) (hm:d.length=m) (hb:wN.heap[g]?=some (.cells (Dh d).toArray 84)) (hx:a.eval x=.slice (some ⟨g,0,none⟩) m m) (hbase:base<=wN.heap.size)
  (h:∀v' w',w'.ownsRow base 84 3 v' (n+m) (Dh (l++d))→(∀w0,Ab w0 wN→w0.heap.size<=base→Ab w0 w')→wN.grownBy w' v.ownBlock→K (a.put o.dst v') w') :
  if Region.wanted o (yielded ops a.tmps)=true then Oper.wp Tryz.prog o a wN K Q else E:=by
 have hw:Region.wanted o (yielded ops a.tmps)=true:=(by simp [Region.wanted,hgd]);rw [if_pos hw];exact AcM s x ho wN base v n l d hs hown hn hd g m hm hb hx hbase h
end
end Go.Proofs.YtnddllipjippnaaGreatDoor
