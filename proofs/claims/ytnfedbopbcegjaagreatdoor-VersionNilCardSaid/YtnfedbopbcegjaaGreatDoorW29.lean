/- W29. -/
import Derived.Test.YtnfedbopbcegjaaGreatDoorW27
set_option maxRecDepth 100000
set_option maxHeartbeats 16000000
namespace Go.Proofs.YtnfedbopbcegjaaGreatDoor
open Go.RowKit Kl
structure Pn(n:Nat)(l:List Hf):Prop where
 inn:Dn n l
 nn:∀h∈l,0<=h.l
def nj(w:World)(n:Nat)(P:List (List Pt×Bs))(e:Ending)(w':World):Prop:=
 ∃v l,e=.returned v/\w'.ownsRow w.heap.size 145 5 v l.length (AO l)/\Pn n l/\l.length<=1000/\Aa w w'/\l=OJ P
def Zz:Value→Nat
 | .slice _ n _=>n
 | _=>0
theorem AdM{w:World}{B:Nat}{e:TypeId}{s n:Nat}{v:Value}{xs:List Value}(h:w.ownsRow B e s v n xs):Zz v=n:=by
 rcases h.2 with⟨h',rfl⟩|⟨g,cap,cur,h',_⟩
 ·rw [h'];rfl
 ·rw [h'];rfl
theorem Jj{w:World}{B:Nat}{e:TypeId}{s n:Nat}{v:Value}{xs:List Value}(hs:0<s)(h:w.ownsRow B e s v n xs):∃A c,v=.slice A n c:=by
 obtain⟨A,c,h1,-,-,-⟩:=Ad.of_own' hs h;exact⟨A,c,h1⟩
theorem bH(w:World)(o1 o2:Obj):((w.alloc o1).alloc o2).drew.heap[w.heap.size]?=some o1/\((w.alloc o1).alloc o2).drew.heap[w.heap.size+1]?=some o2/\Aa w ((w.alloc o1).alloc o2).drew:=by
 have E1:=(Aa.refl w).alloc o1;have h1:=AjM w o1;have E2:=(Aa.refl (w.alloc o1)).alloc o2;have h2:=AjM (w.alloc o1) o2;rw [AjU]at h2;exact⟨(E2.block _ (AjL h1)).trans h1,h2,(E1.trans E2).drew⟩
theorem AgC(P:List (List Pt×Bs))(hP:Pq P)(A:Option Addr)(c:Nat)(w:World)(hw:Ak w)(h:KC w A c P) :
  Calls Tryz.prog 73 #[.slice A P.length c] w (nj w P.length P):=by
 have pn:=Rr;obtain⟨n,hn⟩:=AjJ P.length;rw [←hn];have HN:=AjK hn;have hlen:n<=18:=(by rw [hn];exact hP.len);have HP:=AjK hP;have HA:=AjK h;have hc1:n<=c:=(by rw [hn];exact h.c1);clear hn hP h;go_enter Tryz.func73,Tryz.ntmps73
 go_upto_region 3 with fail
 go_loopw [3,4] (fun ov iv wr=>∃(i:Nat) (l:List Hf),iv=.int .i64 (i:Nat)/\i<=n/\wr.ownsRow w.heap.size 145 5 ov l.length (AO l)/\Pn n l/\l.length<=i*48/\l=(List.range i).flatMap (KV P)/\Aa w wr) (fun _ iv _=>n-(intOf iv).toNat)
 case atStart=>exact⟨0,[],rfl,by omega,⟨rfl,.inl ⟨rfl,rfl⟩⟩,⟨(fun h hh=>by cases hh),(fun h hh=>by cases hh)⟩,by simp,rfl,Aa.refl _⟩
 case round=>
  obtain⟨i,l,rfl,hi,hown,hl,JW,hle,Ae⟩:=hrel;have HL:=AjK hl;have HE:=AjK hle;clear hl hle;obtain⟨vA,vc,rfl⟩:=Jj (by omega) hown;by_cases hin:i<n
  ·have Yn:i<P.length:=(by rw [←HN.out];exact hin);obtain⟨bA,oA,A',c',rfl,Ct,D2,Cc,C5,hr1,hr2⟩:=HA.out.row i Yn;have YJ:=HP.out.pts _ (AjO Yn);obtain⟨pg,ML⟩:=AjJ (P[i].1);have jt:=AjK (xi Yn ML);rw [←ML]at Ct C5 hr1 YJ;replace Ct:=Ae.cellS Ct;have Oi:(0:Int)<=(i:Int):=(by omega);have JU:(i:Int)<(n:Int):=(by omega);have RL:=AjK YJ;clear ML YJ D2 Cc
   go_upto_region 7 with fail
   go_loopw [3,6] (fun ov kv wr=>∃(k:Nat) (l:List Hf),kv=.int .i64 (k:Nat)/\k<=pg.length/\wr.ownsRow w.heap.size 145 5 ov l.length (AO l)/\Pn n l/\l.length<=i*48+k*12/\l=(List.range i).flatMap (KV P)++(List.range k).flatMap (KW P i pg)/\Aa w wr) (fun _ kv _=>pg.length-(intOf kv).toNat)
   case atStart=>exact⟨0,l,rfl,by omega,hown,HL.out,by omega,by rw [List.range_zero,List.flatMap_nil,List.append_nil];exact HE.out,Ae⟩
   case round=>
    obtain⟨k,l,rfl,hk,hown,hl,JW,hle,Ae⟩:=hrel;have HL:=AjK hl;have HE:=AjK hle;clear hl hle;obtain⟨vA,vc,rfl⟩:=Jj (by omega) hown;have hp4:=RL.out.2;by_cases hkn:k<pg.length
    ·obtain⟨q,hq⟩:=AjJ ((k+1)%pg.length);have Ke:q<pg.length:=by rw [hq];exact Nat.mod_lt _ (by omega)
     have Oj:(((k:Int)+1)).tmod (pg.length:Int)=(q:Int):=by rw [Int.tmod_eq_emod_of_nonneg (by omega),hq,Int.natCast_emod];rfl
     have AiI:(((k:Int)+1))%(pg.length:Int)=(q:Int):=(by rw [hq,Int.natCast_emod];rfl);have Acu:¬((pg.length:Int)=0):=(by omega);have AiQ:¬(pg.length=0):=(by omega);have AiR:((pg.length:Int) == 0)=false:=beq_false_of_ne Acu;have hqw:IntKind.wrap .i64 (q:Int)=(q:Int):=AjT _ (by omega);have hkw:IntKind.wrap .i64 ((k:Int)+1)=(k:Int)+1:=AjT _ (by omega);obtain⟨b,o,rfl,ka,kb⟩:=CX (C5.ext Ae) hkn;obtain⟨b',o',he,qa,qb⟩:=CX (C5.ext Ae) Ke;simp only [AjR,Addr.mk.injEq,and_true]at he;obtain⟨rfl,rfl⟩:=he;have U0:=RL.out.1 _ (AjO hkn);have QE:=RL.out.1 _ (AjO Ke);obtain⟨a0,ha0⟩:=AjJ (pg[k]);obtain⟨b0,hb0⟩:=AjJ (pg[q]);rw [←ha0]at ka kb U0;rw [←hb0]at qa qb QE;have Vp:=AjK (xj (P:=P) (i:=i) hkn hq Ke ha0 hb0);have hk0:(0:Int)<=(k:Int):=(by omega);have El:(k:Int)<(pg.length:Int):=(by omega);have AiZ:(0:Int)<=(q:Int):=(by omega);have Aja:(q:Int)<(pg.length:Int):=(by omega);have hm0:(0:Int)<(pg.length:Int):=(by omega);clear ha0 hb0 hq;have Ut:pg≠[]:=fun e=>(by rw [e]at hkn;simp at hkn);have X:=Aa.refl wr;have SO:∀w',Aa wr w'→(w'.cell? ⟨b,o+k*2,none⟩=some (S (R a0.x))/\w'.cell? ⟨b,o+k*2+1,none⟩=some (S (R a0.y))/\w'.cell? ⟨b,o+q*2,none⟩=some (S (R b0.x))/\w'.cell? ⟨b,o+q*2+1,none⟩=some (S (R b0.y))):=fun w' h=>⟨h.cellS ka,h.cellS kb,h.cellS qa,h.cellS qb⟩
     go_upto_region 9 with fail
     go_cut [7,8] (fun v7 v8 wx=>∃ba bb,v7=.pointer (some ⟨ba,0,none⟩)/\v8=.pointer (some ⟨bb,0,none⟩)/\wx.heap[ba]?=some (.cells #[S (R a0.x),S (R a0.y)] 28)/\wx.heap[bb]?=some (.cells #[S (R b0.x),S (R b0.y)] 28)/\ba≠bb/\wr.heap.size<=ba/\wr.heap.size<=bb/\Aa wr wx)
     case first=>
      go_region_held3 (fun w'=>w'.cell? ⟨b,o+k*2,none⟩=some (S (R a0.x))/\w'.cell? ⟨b,o+k*2+1,none⟩=some (S (R a0.y))/\w'.cell? ⟨b,o+q*2,none⟩=some (S (R b0.x))/\w'.cell? ⟨b,o+q*2+1,none⟩=some (S (R b0.y)))
       ((refine SO _ ?_;repeat (first|exact X|(with_reducible refine Aa.drew ?_)|(with_reducible refine Aa.alloc ?_ _)|(with_reducible refine Aa.setCell ?_ (by simp) _))))
       (fail)
      all_goals go_wp2
      all_goals go_meet
      all_goals (
       refine⟨_,_,rfl,rfl,?_,?_,by omega,by omega,by omega,?_⟩
       all_goals try unfold S
       all_goals first
        | with_reducible exact(bH _ _ _).1
        | with_reducible exact(bH _ _ _).2.1
        | with_reducible exact(bH _ _ _).2.2)
     case rest=>
      obtain⟨ba,bb,rfl,rfl,AP,BH,hab,Aiv,Aix,Aj⟩:=hcut;obtain⟨W4,rfl⟩:=MU Aj;have BB:=Ae.trans Aj;have IY:=Am hown Aj;have Ajq:=Ae.size;have Aiw:=AjL AP;clear SO X ka kb qa qb
      go_upto_region 10 with fail
      go_loopw [3] (fun ov w3=>∃(l3:List Hf) (a:Pt),w3.heap[ba]?=some (.cells #[S (R a.x),S (R a.y)] 28)/\Cg a/\w3.ownsRow w.heap.size 145 5 ov l3.length (AO l3)/\Pn n l3/\l3.length+dst a b0<=i*48+k*12+12/\(∃f,dst a b0<f/\l3++KU P (i:Int) f a b0=(List.range i).flatMap (KV P)++(List.range (k+1)).flatMap (KW P i pg))/\w3.heap[bb]?=some (.cells #[S (R b0.x),S (R b0.y)] 28)/\Aa w w3) (fun ov _=>i*48+k*12+13-Zz ov)
      case atStart=>exact⟨l,a0,AP,U0,IY,HL.out,by have:=jB U0 QE;omega,⟨13,by have:=jB U0 QE;omega,by rw [WI,Vp.out,←List.append_assoc,←HE.out]⟩,BH,BB⟩
      case round=>
       obtain⟨l3,a,GO,Oq,Ia,hl3,hd3,nW,hcb,TS⟩:=hrel;have Vy:=AjK hl3;have cR:=AjK nW;clear hl3 nW;obtain⟨vA,vc,rfl⟩:=Jj (by omega) Ia;have z0:=Ab (o:=0) GO rfl;have z1:=Ab (o:=1) GO rfl;have z2:=Ab (o:=0) hcb rfl;have z3:=Ab (o:=1) hcb rfl
       cases Xz:Ah a b0
       ·have Ul:=ZZ Xz;have fx:=AjK Xz;have BP:=AjM wr (.cells #[S (R b0.x),S (R b0.y)] 28);have E5:=(Aa.refl wr).alloc (.cells #[S (R b0.x),S (R b0.y)] 28);have XQ:=(E5.block _ (AjL GO)).trans GO;have Ib:=Am Ia E5;have Bw:=TS.trans E5;have nO:=(E5.block _ (AjL hcb)).trans hcb
        go_upto_region 13 with fail
        unfold S at BP XQ Ib Bw nO;generalize (wr.alloc (.cells #[.string ⟨(R b0.x).toArray⟩,.string ⟨(R b0.y).toArray⟩] 28))=W5 at *;obtain⟨bn,M5⟩:=AjJ wr.heap.size;have Acn:=AjL GO;have Acp:=AjL hcb;rw [←M5]at BP Acn Acp ⊢;have sR:w.heap.size<=bn:=(by have:=TS.size;omega);clear M5 z0 z1 z2 z3 GO hcb Ia TS E5;have EB:(0:Int)<=(n:Int):=by omega
        go_loopw [51] (fun iv w6=>∃(s:Nat) (nx:Pt),iv=.int .i64 (s:Nat)/\s<=n/\w6.heap[bn]?=some (.cells #[S (R nx.x),S (R nx.y)] 28)/\Cg nx/\G2 a b0 nx/\nx≠a/\nx=(P.take s).foldl (QY a) b0/\Al (fun q=>q=bn) W5 w6) (fun iv _=>n-(intOf iv).toNat)
        case atStart=>exact⟨0,b0,rfl,by omega,BP,QE,Adr a b0,fun e=>Ul e.symm,rfl,Al.refl _ _⟩
        case round=>
         obtain⟨s,nx,rfl,hs,Bo,DU,As,qG,Cj,Hu⟩:=hrel;have HI:=AjK (And.intro DU (And.intro As qG));have Ma:=AjK Cj;clear As qG DU Cj;have Bp:Aa w wr:=Hu.toExt Bw (fun q e=>by subst e;exact sR);by_cases D4:s<n
         ·have YV:s<P.length:=(by rw [←HN.out];exact D4);obtain⟨bA2,UH,A2,c2,Fi,p0,p1,p2,wW,pr1,pr2⟩:=HA.out.row s YV;simp only [AjR,Addr.mk.injEq,and_true]at Fi;obtain⟨rfl,rfl⟩:=Fi;have YK:=(HP.out.pts _ (AjO YV)).1;obtain⟨Gu,YI⟩:=AjJ (P[s].1);obtain⟨OP,sH⟩:=AjJ (P[s].2);rw [←YI]at p0 wW pr1 YK;rw [←sH]at p1;replace p0:=Bp.cellS p0;replace p1:=Bp.cellS p1;replace p2:=Bp.cellS p2;have jx:=AjK YK;have ju:=AjK YI;have hs0:(0:Int)<=(s:Int):=(by omega);have hs1:(s:Int)<(n:Int):=(by omega);have Aw:=AjM wr (.cells #[.slice A2 Gu.length c2,S OP,.slice none 0 0] 148);have E7:=(Aa.refl wr).alloc (.cells #[.slice A2 Gu.length c2,S OP,.slice none 0 0] 148);have ND:=Hu.ext E7;have NV:=(E7.block _ (AjL Bo)).trans Bo;clear YI sH YK
          go_upto_region 15 with fail
          unfold S at Aw ND NV;generalize (wr.alloc (.cells #[.slice A2 Gu.length c2,.string ⟨OP.toArray⟩,.slice none 0 0] 148))=W7 at *;have w0:=Ab (o:=0) Aw rfl;have hpl:(0:Int)<=(Gu.length:Int):=(by omega);clear p0 p1 p2 E7 Bo Hu
          go_upto_region 16 with fail
          go_loopw [58] (fun iv w8=>∃(u:Nat) (nx:Pt),iv=.int .i64 (u:Nat)/\u<=Gu.length/\w8.heap[bn]?=some (.cells #[S (R nx.x),S (R nx.y)] 28)/\Cg nx/\G2 a b0 nx/\nx≠a/\nx=(Gu.take u).foldl (Ir a) ((P.take s).foldl (QY a) b0)/\Al (fun q=>q=bn) W5 w8) (fun iv _=>Gu.length-(intOf iv).toNat)
          case atStart=>exact⟨0,nx,rfl,by omega,NV,HI.out.1,HI.out.2.1,HI.out.2.2,Ma.out,ND⟩
          case round=>
           obtain⟨u,nx,rfl,hu,Qj,rT,TJ,qH,qL,Fg⟩:=hrel;have Hl:=AjK (And.intro rT (And.intro TJ qH));have dK:=AjK qL;clear TJ qH rT qL;have Mz:Aa w wr:=Fg.toExt Bw (fun q e=>by subst e;exact sR);by_cases Cd:u<Gu.length
           ·obtain⟨bq,oq,rfl,g1,g2⟩:=CX (wW.ext Mz) Cd;have EC:=jx.out _ (AjO Cd);obtain⟨q2,Cc⟩:=AjJ (Gu[u]);rw [←Cc]at g1 g2 EC;have HST:=AjK (AeA Cd Cc dK.out);have Ot:(0:Int)<=(u:Int):=(by omega);have hu1:(u:Int)<(Gu.length:Int):=(by omega);have Bv:=AjM wr (.cells #[S (R q2.x),S (R q2.y)] 28);have E9:=(Aa.refl wr).alloc (.cells #[S (R q2.x),S (R q2.y)] 28);have Hv:=Fg.ext E9;have NW:=(E9.block _ (AjL Qj)).trans Qj;have PY:=Mz.trans E9;have AbC:=AjL Qj;clear Cc
            go_upto_region 18 with fail
            unfold S at Bv Hv NW PY;generalize (wr.alloc (.cells #[.string ⟨(R q2.x).toArray⟩,.string ⟨(R q2.y).toArray⟩] 28))=W9 at *;obtain⟨bz,NS⟩:=AjJ wr.heap.size;rw [←NS]at Bv AbC ⊢;clear NS g1 g2 E9 Fg Qj Mz;have Qi:=Hv.cells XQ (by omega);have bt:=Ahw a nx q2 Oq.sz2 Hl.out.1.sz2 EC.sz2 W9 (hw.ext PY);unfold Ag xX at bt;have z0:=Ab (o:=0) Qi rfl;have z1:=Ab (o:=1) Qi rfl;have z2:=Ab (o:=0) NW rfl;have z3:=Ab (o:=1) NW rfl;have z4:=Ab (o:=0) Bv rfl;have z5:=Ab (o:=1) Bv rfl;obtain⟨t8,XJ⟩:=AjJ (IB a nx q2);rw [←XJ]at bt;have RE:=AjK XJ;clear XJ;(go_wp2_with fail);(with_reducible refine bt.mono ?_);rintro e Mh ⟨rfl,hx10⟩;have WM:=Hv.ext hx10;have M7:=(hx10.block _ (AjL NW)).trans NW;have XP:=(hx10.block _ (AjL Qi)).trans Qi;have XH:=(hx10.block _ (AjL Bv)).trans Bv;clear z0 z1 z2 z3 z4 z5 bt Hv NW Qi Bv
            cases t8
            ·clear XP XH;go_wp2;go_roundw
             case rel=>exact⟨u+1,nx,by go_num,Cd,M7,Hl.out.1,Hl.out.2.1,Hl.out.2.2,(Ae8 RE.out.symm).symm.trans HST.out,WM⟩
             case measure=>simp [intOf];omega
            ·have y0:=Ab (o:=0) XP rfl;have y1:=Ab (o:=1) XP rfl;have y4:=Ab (o:=0) XH rfl;have y5:=Ab (o:=1) XH rfl
             cases YM:Ah q2 a
             ·have hne:=ZZ YM;have Nr:=AjK ((AeB RE.out.symm YM).symm.trans HST.out);have dJ:=AjK (And.intro hne (Ads Hl.out.2.1 (ud RE.out.symm)));have y2:=Ab (o:=0) M7 rfl;have y3:=Ab (o:=1) M7 rfl;have y6:=Ao (o:=0) M7;have y7:=Ao (o:=1) M7;have AZ:=Ny (S (R q2.x)) (S (R q2.y)) M7;have kC:=(WM.setCell (p:=⟨bn,0,none⟩) (.inl rfl) (S (R q2.x))).setCell (p:=⟨bn,1,none⟩) (.inl rfl) (S (R q2.y));have HS:=AjK AZ;have HB:=AjK kC;clear hne AZ kC;go_wp2;go_roundw
              case rel=>exact⟨u+1,q2,by go_num,Cd,HS.out,EC,dJ.out.2,dJ.out.1,Nr.out,HB.out⟩
              case measure=>simp [intOf];omega
             ·have Nr:=AjK ((Ae9 RE.out.symm YM).symm.trans HST.out);go_wp2;go_roundw
              case rel=>exact⟨u+1,nx,by go_num,Cd,M7,Hl.out.1,Hl.out.2.1,Hl.out.2.2,Nr.out,WM⟩
              case measure=>simp [intOf];omega
           ·have huu:u=Gu.length:=(by omega);subst huu;have Ack:(Gu.length:Int)<=(Gu.length:Int):=(by omega);go_wp2;go_roundw
            case rel=>exact⟨s+1,nx,by go_num,D4,Qj,Hl.out.1,Hl.out.2.1,Hl.out.2.2,Ae7 YV ju.out dK.out,Fg⟩
            case measure=>simp [intOf];omega
         ·have Kf:s=n:=(by omega);subst Kf;have Ack:(s:Int)<=(s:Int):=(by omega);have Qh:=Hu.cells XQ (by omega);have XR:=Hu.cells nO (by omega);have AbA:(Value.slice vA l3.length vc).ownBlock≠some bn:=Ap Ib BP (by decide);have GT:=Bf Ib Hu (fun q hq e=>by subst e;exact AbA hq);have y0:=Ab (o:=0) Qh rfl;have y1:=Ab (o:=1) Qh rfl;have y2:=Ab (o:=0) Bo rfl;have y3:=Ab (o:=1) Bo rfl;have H5:=yn Oq QE HI.out.1 HI.out.2.1 HI.out.2.2
          have nX:∃f,dst nx b0<f/\(l3 ++ [⟨a,nx,(i:Int)⟩])++KU P (i:Int) f nx b0=(List.range i).flatMap (KV P)++(List.range (k+1)).flatMap (KW P i pg):=by
           obtain⟨f,IW,hf2⟩:=cR.out;obtain⟨g,rfl⟩:∃g,f=g+1:=⟨f-1,by omega⟩;refine⟨g,by omega,?_⟩;rw [←hf2,xn (nx:=nx) fx.out (by have h:=Ma.out;rwa [HN.out,List.take_length]at h),List.append_assoc]
           rfl
          have Vq:=AjK nX;clear nX;have Acg:l3.length<200000:=(by have:=HN.out;have:=RL.out.2;omega);have hbase:w.heap.size<=wr.heap.size:=Bp.size;have uP:=AjL Qh;have uQ:=AjL XR;have uR:=AjL Bo;have ZA:=Ap GT Qh (by decide);have ZB:=Ap GT XR (by decide);have ne3:=Ap GT Bo (by decide)
          have TT:∀(X:Obj) (W7:World),(wr.alloc X).grownBy W7 (Value.slice vA l3.length vc).ownBlock→W7.heap[ba]?=some (.cells #[S (R a.x),S (R a.y)] 28)/\W7.heap[bb]?=some (.cells #[S (R b0.x),S (R b0.y)] 28)/\W7.heap[bn]?=some (.cells #[S (R nx.x),S (R nx.y)] 28):=by intro X W7 hg;have Ex:=(Aa.refl wr).alloc X;exact⟨(hg.block ba (AjW uP Ex.size) (fun e=>ZA e.symm)).trans ((Ex.block ba uP).trans Qh),(hg.block bb (AjW uQ Ex.size) (fun e=>ZB e.symm)).trans ((Ex.block bb uQ).trans XR),(hg.block bn (AjW uR Ex.size) (fun e=>ne3 e.symm)).trans ((Ex.block bn uR).trans Bo)⟩
          go_wp2_with (at_builtin;go_loud (refine VQ rfl _ _ rfl _ w.heap.size (.slice vA l3.length vc) l3.length l3 [⟨a,nx,(i:Int)⟩] rfl (Am GT ((Aa.refl wr).alloc _)) Acg (by simp) wr.heap.size 1 rfl (by rw [TM];exact AjM wr _) rfl (by simp;omega) ?_);intro v7 w7 C4 Fj BM;have BU:=Fj w (Bp.trans ((Aa.refl wr).alloc _)) (AjN _);obtain⟨T1,T2,T3⟩:=TT _ _ BM;have k0:=Ab (o:=0) T3 rfl;have k1:=Ab (o:=1) T3 rfl;have k2:=Ab (o:=0) T1 rfl;have k3:=Ab (o:=1) T1 rfl;have k4:=Ao (o:=0) T1;have k5:=Ao (o:=1) T1)
          have AZ:=Ny (S (R nx.x)) (S (R nx.y)) T1;have Ais:bn≠ba:=by omega
          have AU:Pn s (l3 ++ [⟨a,nx,(i:Int)⟩]):=by
           constructor
           ·intro z hz
            rcases List.mem_append.1 hz with e|e
            ·exact Vy.out.inn z e
            ·simp only [AjZ]at e;rw [e];exact⟨Oq,HI.out.1,fun e0=>HI.out.2.2 e0.symm,by show (-1:Int)<=(i:Int);omega,JU⟩
           ·intro z hz
            rcases List.mem_append.1 hz with e|e
            ·exact Vy.out.nn z e
            ·simp only [AjZ]at e;rw [e];exact Oi
          have Mz:=(BU.setCell (p:=⟨ba,0,none⟩) (by show w.heap.size<=ba;omega) (S (R nx.x))).setCell (p:=⟨ba,1,none⟩) (by show w.heap.size<=ba;omega) (S (R nx.y));have Ic:=Bf (K:=fun q=>q=ba) C4 (((Al.refl (fun q=>q=ba) w7).setCell (p:=⟨ba,0,none⟩) (.inl rfl) (S (R nx.x))).setCell (p:=⟨ba,1,none⟩) (.inl rfl) (S (R nx.y))) (fun q hq e=>by subst e;exact Ap C4 T1 (by decide) hq)
          have nP:((w7.setCell ⟨ba,0,none⟩ (S (R nx.x))).setCell ⟨ba,1,none⟩ (S (R nx.y))).heap[bb]?=some (.cells #[S (R b0.x),S (R b0.y)] 28):=by rw [B7 (by show bb≠ba;exact fun e=>hab e.symm),B7 (by show bb≠ba;exact fun e=>hab e.symm)];exact T2
          have hlv:=AdM Ic;have HF:=AjK (And.intro AZ (And.intro AU (And.intro Mz (And.intro Ic nP))));have jg:=AjK hlv;have AcD:=HI.out.1;clear AZ AU Mz Ic nP BM Fj T2 BU hlv;go_wp2;go_roundw
          case rel=>exact⟨l3 ++ [⟨a,nx,(i:Int)⟩],nx,HF.out.1,AcD,by rw [List.length_append,List.length_singleton];exact HF.out.2.2.2.1,HF.out.2.1,by rw [List.length_append,List.length_singleton];omega,Vq.out,HF.out.2.2.2.2,HF.out.2.2.1⟩
          case measure=>rw [jg.out];simp [Zz];omega
       ·have Yx:l3.length<=i*48+(k+1)*12:=by omega
        have pW:l3=(List.range i).flatMap (KV P)++(List.range (k+1)).flatMap (KW P i pg):=by obtain⟨f,IW,hf2⟩:=cR.out;rw [xm (by omega) Xz,List.append_nil]at hf2;exact hf2
        have Hm:=AjK pW;clear pW;go_wp2;go_roundw
        case rel=>exact⟨k+1,l3,by go_num,hkn,Ia,Vy.out,Yx,Hm.out,TS⟩
        case measure=>simp [intOf];omega
    ·have C3:k=pg.length:=(by omega);subst C3;have Un:(pg.length:Int)<=(pg.length:Int):=(by omega);go_wp2;go_roundw
     case rel=>exact⟨i+1,l,by go_num,hin,hown,HL.out,by omega,by rw [WI,←jt.out];exact HE.out,Ae⟩
     case measure=>simp [intOf];omega
  ·have Yp:i=n:=(by omega);subst Yp;have hni:(i:Int)<=(i:Int):=(by omega);go_wp2;go_ret;exact⟨_,l,rfl,hown,HL.out,by omega,Ae,by unfold OJ;rw [←HN.out];exact HE.out⟩
theorem Agk(l:List Hf)(x:Hf)(fs:List Int)(hl:Dn fs.length l)(A F:Option Addr)(c d bl bf:Nat)(w:World)(h1:w.cell? ⟨bl,0,none⟩=some (.slice A l.length c))(hr:Ad w A (AO l))(hc:l.length<=c)(hcm:c<=9223372036854775807)
  (h2:w.cell? ⟨bf,0,none⟩=some (.slice F fs.length d)) (hf:Ad w F (zs fs)) :
  Calls Tryz.prog 75 #[Fl x,.pointer (some ⟨bl,0,none⟩),.pointer (some ⟨bf,0,none⟩)] w (AB (Na l fs x) w):=by
 have hE:=(Aa.refl w).alloc (.cells #[S (R x.a.x),S (R x.a.y),S (R x.b.x),S (R x.b.y),.int .i64 x.l] 145);have hb:=AjM w (.cells #[S (R x.a.x),S (R x.a.y),S (R x.b.x),S (R x.b.y),.int .i64 x.l] 145);have bk:=fun (w':World) (h:Aa w w')=>Su l x A c w' (hr.ext h) hc hcm;have hbr:=hl.back x
 have Ux:Na l fs x=if 0<=BO l x then fs.getD (BO l x).toNat 0 else -1:=rfl
 obtain⟨z,hz⟩:=AjJ (Na l fs x);rw [←hz]at Ux ⊢;obtain⟨r,hr0⟩:=AjJ (BO l x);rw [←hr0]at Ux hbr;have Ju:=AjK Ux;simp only [←hr0]at bk;unfold Fl at bk ⊢;have k1:=hE.cellS h1;have k2:=hE.cellS h2;have IW:=hf.ext hE;clear hz hr0 Ux h1 h2 hf hr hl;go_enter Tryz.func75,Tryz.ntmps75
 go_upto_region 1 with fail
 generalize w.alloc (.cells #[S (R x.a.x),S (R x.a.y),S (R x.b.x),S (R x.b.y),.int .i64 x.l] 145)=V at *;obtain⟨bp,Aw⟩:=AjJ w.heap.size;rw [←Aw]at hb ⊢;clear Aw;have q0:=Ab (o:=0) hb rfl;have q1:=Ab (o:=1) hb rfl;have q2:=Ab (o:=2) hb rfl;have q3:=Ab (o:=3) hb rfl;have q4:=Ab (o:=4) hb rfl;(go_wp2_with fail);(with_reducible refine(bk _ hE).mono ?_);rintro e w1 ⟨rfl,hx1⟩;replace k2:=hx1.cellS k2;have hf2:=IW.ext hx1;clear q0 q1 q2 q3 q4 bk k1 hb IW;by_cases h0:r<0
 ·obtain rfl:z = -1:=(by rw [Ju.out,if_neg (by omega)]);go_wp2;go_ret;exact⟨rfl,hE.trans hx1⟩
 ·obtain⟨m,rfl⟩:∃m:Nat,r=(m:Int):=⟨r.toNat,by omega⟩;have hm:m<fs.length:=(by omega);obtain⟨b,o,rfl,hc2⟩:=hf2.ad (by simp [zs];omega);have AbH:=hc2 m (by simp [zs];exact hm);have hzz:z=fs[m]:=(by rw [Ju.out,if_pos (by omega)];simp [List.getD_eq_getElem?_getD,AjS hm]);have hge:(zs fs)[m]'(by simp [zs];exact hm)=.int .i64 z:=(by rw [hzz];simp [zs]);rw [hge]at AbH;have hm0:(0:Int)<=(m:Int):=(by omega);have hm1:(m:Int)<(fs.length:Int):=(by omega);clear hzz hge hc2 Ju;go_wp2;go_ret;exact⟨rfl,hE.trans hx1⟩
structure Pz where
 b:Nat
 pts:List Pt
 u:Bs
def aD(e:Pz):List Value:=[.slice (some ⟨e.b,0,none⟩) e.pts.length e.pts.length,S e.u,.slice none 0 0]
def CB(l:List Pz):List Value:=l.flatMap aD
theorem xH(l:List Pz):(CB l).length=l.length*3:=by
 induction l with
 | nil=>rfl
 | cons h l ih=>simp [CB,aD]at ih ⊢;omega
theorem xG:∀(l:List Pz) (j:Nat) (h:j<l.length),(CB l)[j*3]?=some (.slice (some ⟨l[j].b,0,none⟩) l[j].pts.length l[j].pts.length)/\(CB l)[j*3+1]?=some (S l[j].u)/\(CB l)[j*3+2]?=some (.slice none 0 0)
 | e::l,0,_=>⟨rfl,rfl,rfl⟩
 | e::l,j+1,h=>by
  have ih:=xG l j (by simpa using h);have e0:CB (e::l)=.slice (some ⟨e.b,0,none⟩) e.pts.length e.pts.length::S e.u :: .slice none 0 0::CB l:=rfl;rw [e0];have e1:(j+1)*3=j*3+1+1+1:=(by omega);rw [e1]
  simpa using ih
theorem Af9(x:Pz)(n:Nat)(hn:x.pts.length=n):(CB [x]).toArray=#[.slice (some ⟨x.b,0,none⟩) n n,.string ⟨x.u.toArray⟩,.slice none 0 0]:=by subst hn;rfl
theorem O8(x y:Pz)(n m:Nat)(hn:x.pts.length=n)(hm:y.pts.length=m):(CB [x,y]).toArray=#[.slice (some ⟨x.b,0,none⟩) n n,.string ⟨x.u.toArray⟩,.slice none 0 0,.slice (some ⟨y.b,0,none⟩) m m,.string ⟨y.u.toArray⟩,.slice none 0 0]:=by subst hn;subst hm;rfl
structure EZ(w:World)(e:Pz):Prop where
 blk:w.heap[e.b]?=some (.cells (flat (Aq e.pts)).toArray 28)
 sh:∀p∈e.pts,Cg p
 le:e.pts.length<=4
 un:∃n:Nat,e.u=AY n
theorem EZ.ext{w w':World}{e:Pz}(h:EZ w e)(hx:Aa w w'):EZ w' e:=⟨(hx.block _ (AjL h.blk)).trans h.blk,h.sh,h.le,h.un⟩
theorem Ad.blk{w:World}{b:Nat}{cs:List Value}{t:TypeId}(h:w.heap[b]?=some (.cells cs.toArray t)):Ad w (some ⟨b,0,none⟩) cs:=
 ⟨fun _=>⟨b,0,rfl,fun j hj=>by rw [Nat.zero_add];exact Ab h (by simp [hj])⟩⟩
def DY(l:List Pz):List (List Pt×Bs):=l.map fun e=>(e.pts,e.u)
theorem Af8(l:List Pz):(DY l).length=l.length:=by simp [DY]
theorem Afi{w:World}{A:Option Addr}{c:Nat}{l:List Pz}(hr:Ad w A (CB l))(Ai:∀e∈l,EZ w e)(h1:l.length<=c)(h2:c<=9223372036854775807):KC w A c (DY l):=by
 refine⟨by simpa [DY]using h1,h2,fun j hj=>?_⟩;have hj':j<l.length:=(by simpa [DY]using hj);have hl:=xH l;obtain⟨b,o,e,hcs⟩:=hr.ad (by omega);obtain⟨f1,f2,f3⟩:=xG l j hj';have g1:=hcs (j*3) (by omega);have g2:=hcs (j*3+1) (by omega);have g3:=hcs (j*3+2) (by omega);rw [AjS (by omega),AjR]at f1 f2 f3;rw [f1]at g1;rw [f2,←Nat.add_assoc]at g2;rw [f3,←Nat.add_assoc]at g3;have hk:=Ai l[j] (AjO hj');have he:(DY l)[j]=(l[j].pts,l[j].u):=(by simp [DY]);rw [he];have:=hk.le;exact⟨b,o,some ⟨l[j].b,0,none⟩,l[j].pts.length,e,g1,g2,g3,Ad.blk hk.blk,AjN _,by omega⟩
theorem Afj{w:World}{l:List Pz}(Ai:∀e∈l,EZ w e)(hl:l.length<=18):Pq (DY l):=by
 refine⟨by simpa [DY]using hl,fun e he=>?_,fun e he=>?_⟩
 ·simp only [DY,List.mem_map]at he;obtain⟨x,hx,rfl⟩:=he;exact⟨(Ai x hx).sh,(Ai x hx).le⟩
 ·simp only [DY,List.mem_map]at he;obtain⟨x,hx,rfl⟩:=he;exact(Ai x hx).un
theorem MY{wN w':World}{base n:Nat}{v:Value}{l d:List Pz}(hown:wN.ownsRow base 148 3 v n (CB l))(hg:wN.grownBy w' v.ownBlock)(Ai:∀e∈l,EZ wN e)(hd:∀e∈d,EZ wN e) :
  ∀e∈l++d,EZ w' e:=by
 intro e he
 have h:EZ wN e:=by
  rcases List.mem_append.1 he with k|k
  ·exact Ai e k
  ·exact hd e k
 exact⟨(hg.block _ (AjL h.blk) (fun k=>Ap hown h.blk (by decide) k.symm)).trans h.blk,h.sh,h.le,h.un⟩
theorem AgW(x y:Nat)(hx:x<=2)(hy:y<=2):∃a0 a1 a2 a3:Pt,(SR (Vd x y)).toArray=#[S (R a0.x),S (R a0.y),S (R a1.x),S (R a1.y),S (R a2.x),S (R a2.y),S (R a3.x),S (R a3.y)]
  /\(Cg a0/\Cg a1/\Cg a2/\Cg a3)/\Cg ⟨CH a0.x a3.x (1/2),CH a0.y a3.y (1/2)⟩/\Cg ⟨CH a1.x a2.x (1/2),CH a1.y a2.y (1/2)⟩/\Nv x y a0 a1 a2 a3 ⟨CH a0.x a3.x (1/2),CH a0.y a3.y (1/2)⟩ ⟨CH a1.x a2.x (1/2),CH a1.y a2.y (1/2)⟩:=by
 refine⟨gp (2*x,2*y),gp (2*x+2,2*y),gp (2*x+2,2*y+2),gp (2*x,2*y+2),rfl,⟨⟨_,⟨?_,?_,?_,?_⟩,rfl⟩,⟨_,⟨?_,?_,?_,?_⟩,rfl⟩,⟨_,⟨?_,?_,?_,?_⟩,rfl⟩,⟨_,⟨?_,?_,?_,?_⟩,rfl⟩⟩,?_,?_,rfl,rfl,rfl,rfl,SU _ _ _ (by simp only [];omega) (by simp only [];omega),SU _ _ _ (by simp only [];omega) (by simp only [];omega)⟩
 all_goals try (simp only [];omega)
 ·exact⟨(2*x,2*y+1),⟨by simp only [];omega,by simp only [];omega,by simp only [];omega,by simp only [];omega⟩,SU _ _ _ (by simp only [];omega) (by simp only [];omega)⟩
 ·exact⟨(2*x+2,2*y+1),⟨by simp only [];omega,by simp only [];omega,by simp only [];omega,by simp only [];omega⟩,SU _ _ _ (by simp only [];omega) (by simp only [];omega)⟩
section
variable {ops : Array Oper} {rest : List Oper} {o : Oper} {a : Act} {K : Act → World → Prop} {Q : Exit → Act → World → Prop}
theorem ew(s x:Operand)(ho:o.op=.call {callee:=.builtin .append,args:=#[s,x],argTypes:=#[109,109]})
  (wN:World) (base:Nat) (v:Value) (n:Nat) (l d:List Pz) (hs:a.eval s=v) (hown:wN.ownsRow base 148 3 v n (CB l)) (hn:n<200000) (hd:d.length<=10)
  (g m:Nat) (hm:d.length=m) (hb:wN.heap[g]?=some (.cells (CB d).toArray 148)) (hx:a.eval x=.slice (some ⟨g,0,none⟩) m m) (hbase:base<=wN.heap.size)
  (h:∀v' w',w'.ownsRow base 148 3 v' (n+m) (CB (l++d))→(∀w0,Aa w0 wN→w0.heap.size<=base→Aa w0 w')→wN.grownBy w' v.ownBlock→K (a.put o.dst v') w') :
  o.wp Tryz.prog a wN K Q:=by
 subst hm;obtain⟨i0,hi,hz0,hz1,hz2⟩:=info_parts Tryz.infoPc;refine Ng s x 109 ho 148 i0 _ 3 64 d.length Tryz.underlying109 hi hz0 hz1 hz2 rfl (by omega) (by omega) hd wN base v n _ hs hown hn g _ hb (by simp [xH]) ?_ hx hbase ?_
 ·intro u hu;simp only [CB,aD,List.mem_flatMap,List.mem_cons,AjY,or_false]at hu;obtain⟨y,_,hu⟩:=hu
  rcases hu with rfl|rfl|rfl<;>rfl
 ·intro v' w' h1 h2 h3;refine h v' w' ?_ h2 h3;have:CB (l++d)=CB l++(CB d).toArray.toList:=(by simp [CB]);rw [this];exact h1
theorem qi(hgd:o.guard=none)(s x:Operand)(ho:o.op=.call {callee:=.builtin .append,args:=#[s,x],argTypes:=#[109,109]})
  (wN:World) (base:Nat) (v:Value) (n:Nat) (l d:List Pz) (hs:a.eval s=v) (hown:wN.ownsRow base 148 3 v n (CB l)) (hn:n<200000) (hd:d.length<=10)
  (g m:Nat) (hm:d.length=m) (hb:wN.heap[g]?=some (.cells (CB d).toArray 148)) (hx:a.eval x=.slice (some ⟨g,0,none⟩) m m) (hbase:base<=wN.heap.size)
  (h:∀v' w',w'.ownsRow base 148 3 v' (n+m) (CB (l++d))→(∀w0,Aa w0 wN→w0.heap.size<=base→Aa w0 w')→wN.grownBy w' v.ownBlock→wpList Tryz.prog ops Q rest (a.put o.dst v') w') :
  wpList Tryz.prog ops Q (o::rest) a wN:=
 wpList_plain hgd fun _ hK=>ew s x ho wN base v n l d hs hown hn hd g m hm hb hx hbase fun v' w' h1 h2 h3=>hK _ _ (h v' w' h1 h2 h3)
theorem OL{E:Prop}(hgd:o.guard=none)(s x:Operand)(ho:o.op=.call {callee:=.builtin .append,args:=#[s,x],argTypes:=#[109,109]})
  (wN:World) (base:Nat) (v:Value) (n:Nat) (l d:List Pz) (hs:a.eval s=v) (hown:wN.ownsRow base 148 3 v n (CB l)) (hn:n<200000) (hd:d.length<=10)
  (g m:Nat) (hm:d.length=m) (hb:wN.heap[g]?=some (.cells (CB d).toArray 148)) (hx:a.eval x=.slice (some ⟨g,0,none⟩) m m) (hbase:base<=wN.heap.size)
  (h:∀v' w',w'.ownsRow base 148 3 v' (n+m) (CB (l++d))→(∀w0,Aa w0 wN→w0.heap.size<=base→Aa w0 w')→wN.grownBy w' v.ownBlock→K (a.put o.dst v') w') :
  if Region.wanted o (yielded ops a.tmps)=true then Oper.wp Tryz.prog o a wN K Q else E:=by
 have hw:Region.wanted o (yielded ops a.tmps)=true:=(by simp [Region.wanted,hgd]);rw [if_pos hw];exact ew s x ho wN base v n l d hs hown hn hd g m hm hb hx hbase h
end
end Go.Proofs.YtnfedbopbcegjaaGreatDoor
