/- U29: ShQE ShQF. -/
import Derived.Test.YtbejphgbbpplbaaGreatDoorU28
set_option maxRecDepth 100000
set_option maxHeartbeats 16000000
namespace Go.Proofs.YtbejphgbbpplbaaGreatDoor
open Go.RowKit Kl
structure Sr(n:Nat)(l:List Hf):Prop where
 inn:DT n l
 nn:∀h∈l,0<=h.l
def Adx(w:World)(n:Nat)(e:Ending)(w':World):Prop:=
 ∃v l,e=.returned v/\w'.ownsRow w.heap.size 176 5 v l.length (Bd l)/\Sr n l/\l.length<=1000/\Aa w w'
def lF:Value→Nat
 | .slice _ n _=>n
 | _=>0
theorem Akp{w:World}{B:Nat}{e:TypeId}{s n:Nat}{v:Value}{xs:List Value}(h:w.ownsRow B e s v n xs):lF v=n:=by
 rcases h.2 with⟨h',rfl⟩|⟨g,cap,cur,h',_⟩
 ·rw [h'];rfl
 ·rw [h'];rfl
theorem KC{w:World}{B:Nat}{e:TypeId}{s n:Nat}{v:Value}{xs:List Value}(hs:0<s)(h:w.ownsRow B e s v n xs):∃A c,v=.slice A n c:=by
 obtain⟨A,c,h1,-,-,-⟩:=Ae.of_own' hs h;exact⟨A,c,h1⟩
theorem oM(w:World)(o1 o2:Obj):((w.alloc o1).alloc o2).drew.heap[w.heap.size]?=some o1/\((w.alloc o1).alloc o2).drew.heap[w.heap.size+1]?=some o2/\Aa w ((w.alloc o1).alloc o2).drew:=by
 have E1:=(Aa.refl w).alloc o1;have h1:=ArY w o1;have E2:=(Aa.refl (w.alloc o1)).alloc o2;have h2:=ArY (w.alloc o1) o2;rw [Ash]at h2;exact⟨(E2.block _ (ArX h1)).trans h1,h2,(E1.trans E2).drew⟩
theorem AnK(P:List (List Pt×Bs))(hP:Sw P)(A:Option Addr)(c:Nat)(w:World)(hw:Al w)(h:G9 w A c P) :
  Calls Tryz.prog 120 #[.slice A P.length c] w (Adx w P.length):=by
 have pn:=RA;obtain⟨n,hn⟩:=ArV P.length;rw [←hn];have HN:=ArW hn;have hlen:n<=18:=(by rw [hn];exact hP.len);have HP:=ArW hP;have HA:=ArW h;have hc1:n<=c:=(by rw [hn];exact h.c1);clear hn hP h;go_enter Tryz.func120,Tryz.ntmps120
 go_upto_region 3 with fail
 go_loopw [3,4] (fun ov iv wr=>∃(i:Nat) (l:List Hf),iv=.int .i64 (i:Nat)/\i<=n/\wr.ownsRow w.heap.size 176 5 ov l.length (Bd l)/\Sr n l/\l.length<=i*48/\Aa w wr) (fun _ iv _=>n-(intOf iv).toNat)
 case atStart=>exact⟨0,[],rfl,by omega,⟨rfl,.inl ⟨rfl,rfl⟩⟩,⟨(fun h hh=>by cases hh),(fun h hh=>by cases hh)⟩,by simp,Aa.refl _⟩
 case round=>
  obtain⟨i,l,rfl,hi,hown,hl,Ce,Ad⟩:=hrel;have HL:=ArW hl;clear hl;obtain⟨vA,vc,rfl⟩:=KC (by omega) hown;by_cases hin:i<n
  ·have Jy:i<P.length:=(by rw [←HN.out];exact hin);obtain⟨bA,oA,A',c',rfl,AW,Bg,Bo,Bh,hr1,hr2⟩:=HA.out.row i Jy;have Gy:=HP.out.pts _ (Asa Jy);obtain⟨pg,Eg⟩:=ArV (P[i].1);rw [←Eg]at AW Bh hr1 Gy;replace AW:=Ad.cellS AW;have GR:(0:Int)<=(i:Int):=(by omega);have Jw:(i:Int)<(n:Int):=(by omega);have Vm:=ArW Gy;clear Eg Gy Bg Bo
   go_upto_region 7 with fail
   go_loopw [3,6] (fun ov kv wr=>∃(k:Nat) (l:List Hf),kv=.int .i64 (k:Nat)/\k<=pg.length/\wr.ownsRow w.heap.size 176 5 ov l.length (Bd l)/\Sr n l/\l.length<=i*48+k*12/\Aa w wr) (fun _ kv _=>pg.length-(intOf kv).toNat)
   case atStart=>exact⟨0,l,rfl,by omega,hown,HL.out,by omega,Ad⟩
   case round=>
    obtain⟨k,l,rfl,hk,hown,hl,Ce,Ad⟩:=hrel;have HL:=ArW hl;clear hl;obtain⟨vA,vc,rfl⟩:=KC (by omega) hown;have hp4:=Vm.out.2;by_cases hkn:k<pg.length
    ·obtain⟨q,hq⟩:=ArV ((k+1)%pg.length);have Kw:q<pg.length:=by rw [hq];exact Nat.mod_lt _ (by omega)
     have Ku:(((k:Int)+1)).tmod (pg.length:Int)=(q:Int):=by rw [Int.tmod_eq_emod_of_nonneg (by omega),hq,Int.natCast_emod];rfl
     have jf:(((k:Int)+1))%(pg.length:Int)=(q:Int):=(by rw [hq,Int.natCast_emod];rfl);have QM:¬((pg.length:Int)=0):=(by omega);have jE:¬(pg.length=0):=(by omega);have jy:((pg.length:Int) == 0)=false:=beq_false_of_ne QM;have ll:IntKind.wrap .i64 (q:Int)=(q:Int):=Asg _ (by omega);have OS:IntKind.wrap .i64 ((k:Int)+1)=(k:Int)+1:=Asg _ (by omega);obtain⟨b,o,rfl,ka,kb⟩:=Ca (Bh.ext Ad) hkn;obtain⟨b',o',he,qa,qb⟩:=Ca (Bh.ext Ad) Kw;simp only [Ase,Addr.mk.injEq,and_true]at he;obtain⟨rfl,rfl⟩:=he;have Pb:=Vm.out.1 _ (Asa hkn);have N8:=Vm.out.1 _ (Asa Kw);obtain⟨a0,ha0⟩:=ArV (pg[k]);obtain⟨b0,hb0⟩:=ArV (pg[q]);rw [←ha0]at ka kb Pb;rw [←hb0]at qa qb N8;have hk0:(0:Int)<=(k:Int):=(by omega);have BX:(k:Int)<(pg.length:Int):=(by omega);have km:(0:Int)<=(q:Int):=(by omega);have kq:(q:Int)<(pg.length:Int):=(by omega);have hm0:(0:Int)<(pg.length:Int):=(by omega);clear ha0 hb0 hq;have hpn:pg≠[]:=fun e=>(by rw [e]at hkn;simp at hkn);have X:=Aa.refl wr;have SO:∀w',Aa wr w'→(w'.cell? ⟨b,o+k*2,none⟩=some (S (R a0.x))/\w'.cell? ⟨b,o+k*2+1,none⟩=some (S (R a0.y))/\w'.cell? ⟨b,o+q*2,none⟩=some (S (R b0.x))/\w'.cell? ⟨b,o+q*2+1,none⟩=some (S (R b0.y))):=fun w' h=>⟨h.cellS ka,h.cellS kb,h.cellS qa,h.cellS qb⟩
     go_upto_region 9 with fail
     go_cut [7,8] (fun v7 v8 wx=>∃ba bb,v7=.pointer (some ⟨ba,0,none⟩)/\v8=.pointer (some ⟨bb,0,none⟩)/\wx.heap[ba]?=some (.cells #[S (R a0.x),S (R a0.y)] 94)/\wx.heap[bb]?=some (.cells #[S (R b0.x),S (R b0.y)] 94)/\ba≠bb/\wr.heap.size<=ba/\wr.heap.size<=bb/\Aa wr wx)
     case first=>
      go_region_held3 (fun w'=>w'.cell? ⟨b,o+k*2,none⟩=some (S (R a0.x))/\w'.cell? ⟨b,o+k*2+1,none⟩=some (S (R a0.y))/\w'.cell? ⟨b,o+q*2,none⟩=some (S (R b0.x))/\w'.cell? ⟨b,o+q*2+1,none⟩=some (S (R b0.y)))
       ((refine SO _ ?_;repeat (first|exact X|(with_reducible refine Aa.drew ?_)|(with_reducible refine Aa.alloc ?_ _)|(with_reducible refine Aa.setCell ?_ (by simp) _))))
       (fail)
      all_goals go_wp2
      all_goals go_meet
      all_goals (
       refine⟨_,_,rfl,rfl,?_,?_,by omega,by omega,by omega,?_⟩
       all_goals try unfold S
       all_goals first
        | with_reducible exact(oM _ _ _).1
        | with_reducible exact(oM _ _ _).2.1
        | with_reducible exact(oM _ _ _).2.2)
     case rest=>
      obtain⟨ba,bb,rfl,rfl,Aw,Bq,hab,Aqs,Aqu,Aj⟩:=hcut;obtain⟨W4,rfl⟩:=J9 Aj;have Cl:=Ad.trans Aj;have IF:=Ao hown Aj;have Ar3:=Ad.size;have Aqt:=ArX Aw;clear SO X ka kb qa qb
      go_upto_region 10 with fail
      go_loopw [3] (fun ov w3=>∃(l3:List Hf) (a:Pt),w3.heap[ba]?=some (.cells #[S (R a.x),S (R a.y)] 94)/\C3 a/\w3.ownsRow w.heap.size 176 5 ov l3.length (Bd l3)/\Sr n l3/\l3.length+dst a b0<=i*48+k*12+12/\w3.heap[bb]?=some (.cells #[S (R b0.x),S (R b0.y)] 94)/\Aa w w3) (fun ov _=>i*48+k*12+13-lF ov)
      case atStart=>exact⟨l,a0,Aw,Pb,IF,HL.out,by have:=AfA Pb N8;omega,Bq,Cl⟩
      case round=>
       obtain⟨l3,a,Q8,LP,CQ,hl3,gh,hcb,Xg⟩:=hrel;have Vg:=ArW hl3;clear hl3;obtain⟨vA,vc,rfl⟩:=KC (by omega) CQ;have z0:=Ab (o:=0) Q8 rfl;have z1:=Ab (o:=1) Q8 rfl;have z2:=Ab (o:=0) hcb rfl;have z3:=Ab (o:=1) hcb rfl
       cases Ah4:An a b0
       ·have Xz:=mT Ah4;have Cm:=ArY wr (.cells #[S (R b0.x),S (R b0.y)] 94);have E5:=(Aa.refl wr).alloc (.cells #[S (R b0.x),S (R b0.y)] 94);have gQ:=(E5.block _ (ArX Q8)).trans Q8;have QO:=Ao CQ E5;have CL:=Xg.trans E5;have ew:=(E5.block _ (ArX hcb)).trans hcb
        go_upto_region 13 with fail
        unfold S at Cm gQ QO CL ew;generalize (wr.alloc (.cells #[.string ⟨(R b0.x).toArray⟩,.string ⟨(R b0.y).toArray⟩] 94))=W5 at *;obtain⟨bn,Nq⟩:=ArV wr.heap.size;have jq:=ArX Q8;have Aiz:=ArX hcb;rw [←Nq]at Cm jq Aiz ⊢;have po:w.heap.size<=bn:=(by have:=Xg.size;omega);clear Nq z0 z1 z2 z3 Q8 hcb CQ Xg E5;have Ef:(0:Int)<=(n:Int):=by omega
        go_loopw [51] (fun iv w6=>∃(s:Nat) (nx:Pt),iv=.int .i64 (s:Nat)/\s<=n/\w6.heap[bn]?=some (.cells #[S (R nx.x),S (R nx.y)] 94)/\C3 nx/\It a b0 nx/\nx≠a/\Ar (fun q=>q=bn) W5 w6) (fun iv _=>n-(intOf iv).toNat)
        case atStart=>exact⟨0,b0,rfl,by omega,Cm,N8,Aj9 a b0,fun e=>Xz e.symm,Ar.refl _ _⟩
        case round=>
         obtain⟨s,nx,rfl,hs,Bl,Cf,Ap,jw,Jl⟩:=hrel;have HI:=ArW (And.intro Cf (And.intro Ap jw));clear Ap jw Cf;have BO:Aa w wr:=Jl.toExt CL (fun q e=>by subst e;exact po);by_cases Do:s<n
         ·have XM:s<P.length:=(by rw [←HN.out];exact Do);obtain⟨bA2,Yv,A2,c2,Gv,p0,p1,p2,zk,pr1,pr2⟩:=HA.out.row s XM;simp only [Ase,Addr.mk.injEq,and_true]at Gv;obtain⟨rfl,rfl⟩:=Gv;have OY:=(HP.out.pts _ (Asa XM)).1;obtain⟨IP,ki⟩:=ArV (P[s].1);obtain⟨RJ,XQ⟩:=ArV (P[s].2);rw [←ki]at p0 zk pr1 OY;rw [←XQ]at p1;replace p0:=BO.cellS p0;replace p1:=BO.cellS p1;replace p2:=BO.cellS p2;have AcD:=ArW OY;have hs0:(0:Int)<=(s:Int):=(by omega);have hs1:(s:Int)<(n:Int):=(by omega);have AK:=ArY wr (.cells #[.slice A2 IP.length c2,S RJ,.slice none 0 0] 97);have E7:=(Aa.refl wr).alloc (.cells #[.slice A2 IP.length c2,S RJ,.slice none 0 0] 97);have Qk:=Jl.ext E7;have QB:=(E7.block _ (ArX Bl)).trans Bl;clear ki XQ OY
          go_upto_region 15 with fail
          unfold S at AK Qk QB;generalize (wr.alloc (.cells #[.slice A2 IP.length c2,.string ⟨RJ.toArray⟩,.slice none 0 0] 97))=W7 at *;have w0:=Ab (o:=0) AK rfl;have hpl:(0:Int)<=(IP.length:Int):=(by omega);clear p0 p1 p2 E7 Bl Jl
          go_upto_region 16 with fail
          go_loopw [58] (fun iv w8=>∃(u:Nat) (nx:Pt),iv=.int .i64 (u:Nat)/\u<=IP.length/\w8.heap[bn]?=some (.cells #[S (R nx.x),S (R nx.y)] 94)/\C3 nx/\It a b0 nx/\nx≠a/\Ar (fun q=>q=bn) W5 w8) (fun iv _=>IP.length-(intOf iv).toNat)
          case atStart=>exact⟨0,nx,rfl,by omega,QB,HI.out.1,HI.out.2.1,HI.out.2.2,Qk⟩
          case round=>
           obtain⟨u,nx,rfl,hu,TJ,nh,WV,jx,EX⟩:=hrel;have IX:=ArW (And.intro nh (And.intro WV jx));clear WV jx nh;have Jp:Aa w wr:=EX.toExt CL (fun q e=>by subst e;exact po);by_cases D2:u<IP.length
           ·obtain⟨bq,oq,rfl,g1,g2⟩:=Ca (zk.ext Jp) D2;have EE:=AcD.out _ (Asa D2);obtain⟨q2,Bo⟩:=ArV (IP[u]);rw [←Bo]at g1 g2 EE;have nw:(0:Int)<=(u:Int):=(by omega);have hu1:(u:Int)<(IP.length:Int):=(by omega);have Db:=ArY wr (.cells #[S (R q2.x),S (R q2.y)] 94);have E9:=(Aa.refl wr).alloc (.cells #[S (R q2.x),S (R q2.y)] 94);have FV:=EX.ext E9;have QC:=(E9.block _ (ArX TJ)).trans TJ;have Gq:=Jp.trans E9;have AhJ:=ArX TJ;clear Bo
            go_upto_region 18 with fail
            unfold S at Db FV QC Gq;generalize (wr.alloc (.cells #[.string ⟨(R q2.x).toArray⟩,.string ⟨(R q2.y).toArray⟩] 94))=W9 at *;obtain⟨bz,Q6⟩:=ArV wr.heap.size;rw [←Q6]at Db AhJ ⊢;clear Q6 g1 g2 E9 EX TJ Jp;have TF:=FV.cells gQ (by omega);have bt:=Apk a nx q2 LP.sz2 IX.out.1.sz2 EE.sz2 W9 (hw.ext Gq);unfold Af Aap at bt;have z0:=Ab (o:=0) TF rfl;have z1:=Ab (o:=1) TF rfl;have z2:=Ab (o:=0) QC rfl;have z3:=Ab (o:=1) QC rfl;have z4:=Ab (o:=0) Db rfl;have z5:=Ab (o:=1) Db rfl;obtain⟨btv,fZ⟩:=ArV (PZ a nx q2);rw [←fZ]at bt;have HBT:=ArW fZ;clear fZ;(go_wp2_with fail);(with_reducible refine bt.mono ?_);rintro e Ot ⟨rfl,hx10⟩;have Qj:=FV.ext hx10;have OF:=(hx10.block _ (ArX QC)).trans QC;have gP:=(hx10.block _ (ArX TF)).trans TF;have fX:=(hx10.block _ (ArX Db)).trans Db;clear z0 z1 z2 z3 z4 z5 bt FV QC TF Db
            cases btv
            ·clear gP fX;go_wp2;go_roundw
             case rel=>exact⟨u+1,nx,by go_num,D2,OF,IX.out.1,IX.out.2.1,IX.out.2.2,Qj⟩
             case measure=>simp [intOf];omega
            ·have y0:=Ab (o:=0) gP rfl;have y1:=Ab (o:=1) gP rfl;have y4:=Ab (o:=0) fX rfl;have y5:=Ab (o:=1) fX rfl
             cases hqa:An q2 a
             ·have hne:=mT hqa;have qI:=ArW (And.intro hne (AjA IX.out.2.1 (Aer HBT.out.symm)));have y2:=Ab (o:=0) OF rfl;have y3:=Ab (o:=1) OF rfl;have y6:=AB (o:=0) OF;have y7:=AB (o:=1) OF;have CS:=PW (S (R q2.x)) (S (R q2.y)) OF;have Kg:=(Qj.setCell (p:=⟨bn,0,none⟩) (.inl rfl) (S (R q2.x))).setCell (p:=⟨bn,1,none⟩) (.inl rfl) (S (R q2.y));have HS:=ArW CS;have HB:=ArW Kg;clear hne CS Kg;go_wp2;go_roundw
              case rel=>exact⟨u+1,q2,by go_num,D2,HS.out,EE,qI.out.2,qI.out.1,HB.out⟩
              case measure=>simp [intOf];omega
             ·go_wp2;go_roundw
              case rel=>exact⟨u+1,nx,by go_num,D2,OF,IX.out.1,IX.out.2.1,IX.out.2.2,Qj⟩
              case measure=>simp [intOf];omega
           ·have huu:u=IP.length:=(by omega);subst huu;have Aiv:(IP.length:Int)<=(IP.length:Int):=(by omega);go_wp2;go_roundw
            case rel=>exact⟨s+1,nx,by go_num,Do,TJ,IX.out.1,IX.out.2.1,IX.out.2.2,EX⟩
            case measure=>simp [intOf];omega
         ·have If:s=n:=(by omega);subst If;have Aiv:(s:Int)<=(s:Int):=(by omega);have TE:=Jl.cells gQ (by omega);have gR:=Jl.cells ew (by omega);have AhH:(Value.slice vA l3.length vc).ownBlock≠some bn:=A8 QO Cm (by decide);have OX:=BG QO Jl (fun q hq e=>by subst e;exact AhH hq);have y0:=Ab (o:=0) TE rfl;have y1:=Ab (o:=1) TE rfl;have y2:=Ab (o:=0) Bl rfl;have y3:=Ab (o:=1) Bl rfl;have L2:=AfB LP N8 HI.out.1 HI.out.2.1 HI.out.2.2;have Aio:l3.length<200000:=(by have:=HN.out;have:=Vm.out.2;omega);have hbase:w.heap.size<=wr.heap.size:=BO.size;have ug:=ArX TE;have uh:=ArX gR;have uj:=ArX Bl;have lS:=A8 OX TE (by decide);have lT:=A8 OX gR (by decide);have ne3:=A8 OX Bl (by decide)
          have TT:∀(X:Obj) (W7:World),(wr.alloc X).grownBy W7 (Value.slice vA l3.length vc).ownBlock→W7.heap[ba]?=some (.cells #[S (R a.x),S (R a.y)] 94)/\W7.heap[bb]?=some (.cells #[S (R b0.x),S (R b0.y)] 94)/\W7.heap[bn]?=some (.cells #[S (R nx.x),S (R nx.y)] 94):=by intro X W7 hg;have Ex:=(Aa.refl wr).alloc X;exact⟨(hg.block ba (Asj ug Ex.size) (fun e=>lS e.symm)).trans ((Ex.block ba ug).trans TE),(hg.block bb (Asj uh Ex.size) (fun e=>lT e.symm)).trans ((Ex.block bb uh).trans gR),(hg.block bn (Asj uj Ex.size) (fun e=>ne3 e.symm)).trans ((Ex.block bn uj).trans Bl)⟩
          go_wp2_with (at_builtin;go_loud (refine aE rfl _ _ rfl _ w.heap.size (.slice vA l3.length vc) l3.length l3 [⟨a,nx,(i:Int)⟩] rfl (Ao OX ((Aa.refl wr).alloc _)) Aio (by simp) wr.heap.size 1 rfl (by rw [WY];exact ArY wr _) rfl (by simp;omega) ?_);intro v7 w7 Dm Ia EB;have BP:=Ia w (BO.trans ((Aa.refl wr).alloc _)) (ArZ _);obtain⟨T1,T2,T3⟩:=TT _ _ EB;have k0:=Ab (o:=0) T3 rfl;have k1:=Ab (o:=1) T3 rfl;have k2:=Ab (o:=0) T1 rfl;have k3:=Ab (o:=1) T1 rfl;have k4:=AB (o:=0) T1;have k5:=AB (o:=1) T1)
          have CS:=PW (S (R nx.x)) (S (R nx.y)) T1;have Aqo:bn≠ba:=by omega
          have Ay:Sr s (l3 ++ [⟨a,nx,(i:Int)⟩]):=by
           constructor
           ·intro z hz
            rcases List.mem_append.1 hz with e|e
            ·exact Vg.out.inn z e
            ·simp only [Asn]at e;rw [e];exact⟨LP,HI.out.1,fun e0=>HI.out.2.2 e0.symm,by show (-1:Int)<=(i:Int);omega,Jw⟩
           ·intro z hz
            rcases List.mem_append.1 hz with e|e
            ·exact Vg.out.nn z e
            ·simp only [Asn]at e;rw [e];exact GR
          have Jp:=(BP.setCell (p:=⟨ba,0,none⟩) (by show w.heap.size<=ba;omega) (S (R nx.x))).setCell (p:=⟨ba,1,none⟩) (by show w.heap.size<=ba;omega) (S (R nx.y));have LL:=BG (K:=fun q=>q=ba) Dm (((Ar.refl (fun q=>q=ba) w7).setCell (p:=⟨ba,0,none⟩) (.inl rfl) (S (R nx.x))).setCell (p:=⟨ba,1,none⟩) (.inl rfl) (S (R nx.y))) (fun q hq e=>by subst e;exact A8 Dm T1 (by decide) hq)
          have ey:((w7.setCell ⟨ba,0,none⟩ (S (R nx.x))).setCell ⟨ba,1,none⟩ (S (R nx.y))).heap[bb]?=some (.cells #[S (R b0.x),S (R b0.y)] 94):=by rw [Da (by show bb≠ba;exact fun e=>hab e.symm),Da (by show bb≠ba;exact fun e=>hab e.symm)];exact T2
          have hlv:=Akp LL;have HF:=ArW (And.intro CS (And.intro Ay (And.intro Jp (And.intro LL ey))));have HLV:=ArW hlv;have AiX:=HI.out.1;clear CS Ay Jp LL ey EB Ia T2 BP hlv;go_wp2;go_roundw
          case rel=>exact⟨l3 ++ [⟨a,nx,(i:Int)⟩],nx,HF.out.1,AiX,by rw [List.length_append,List.length_singleton];exact HF.out.2.2.2.1,HF.out.2.1,by rw [List.length_append,List.length_singleton];omega,HF.out.2.2.2.2,HF.out.2.2.1⟩
          case measure=>rw [HLV.out];simp [lF];omega
       ·have iY:l3.length<=i*48+(k+1)*12:=(by omega);go_wp2;go_roundw
        case rel=>exact⟨k+1,l3,by go_num,hkn,CQ,Vg.out,iY,Xg⟩
        case measure=>simp [intOf];omega
    ·have Bf:k=pg.length:=(by omega);subst Bf;have IE:(pg.length:Int)<=(pg.length:Int):=(by omega);go_wp2;go_roundw
     case rel=>exact⟨i+1,l,by go_num,hin,hown,HL.out,by omega,Ad⟩
     case measure=>simp [intOf];omega
  ·have OP:i=n:=(by omega);subst OP;have GU:(i:Int)<=(i:Int):=(by omega);go_wp2;go_ret;exact⟨_,l,rfl,hown,HL.out,by omega,Ad⟩
def YE(l:List Hf)(fs:List Int)(x:Hf):Int:=if 0<=Ek l x then fs.getD (Ek l x).toNat 0 else -1
theorem Anq(l:List Hf)(x:Hf)(fs:List Int)(hl:DT fs.length l)(A F:Option Addr)(c d bl bf:Nat)(w:World)(h1:w.cell? ⟨bl,0,none⟩=some (.slice A l.length c))(hr:Ae w A (Bd l))(hc:l.length<=c)(hcm:c<=9223372036854775807)
  (h2:w.cell? ⟨bf,0,none⟩=some (.slice F fs.length d)) (hf:Ae w F (zs fs)) :
  Calls Tryz.prog 122 #[Gw x,.pointer (some ⟨bl,0,none⟩),.pointer (some ⟨bf,0,none⟩)] w (Av (YE l fs x) w):=by
 have hE:=(Aa.refl w).alloc (.cells #[S (R x.a.x),S (R x.a.y),S (R x.b.x),S (R x.b.y),.int .i64 x.l] 176);have hb:=ArY w (.cells #[S (R x.a.x),S (R x.a.y),S (R x.b.x),S (R x.b.y),.int .i64 x.l] 176);have bk:=fun (w':World) (h:Aa w w')=>VJ l x A c w' (hr.ext h) hc hcm;have hbr:=hl.back x
 have XK:YE l fs x=if 0<=Ek l x then fs.getD (Ek l x).toNat 0 else -1:=rfl
 obtain⟨z,hz⟩:=ArV (YE l fs x);rw [←hz]at XK ⊢;obtain⟨r,hr0⟩:=ArV (Ek l x);rw [←hr0]at XK hbr;have KV:=ArW XK;simp only [←hr0]at bk;unfold Gw at bk ⊢;have k1:=hE.cellS h1;have k2:=hE.cellS h2;have OJ:=hf.ext hE;clear hz hr0 XK h1 h2 hf hr hl;go_enter Tryz.func122,Tryz.ntmps122
 go_upto_region 1 with fail
 generalize w.alloc (.cells #[S (R x.a.x),S (R x.a.y),S (R x.b.x),S (R x.b.y),.int .i64 x.l] 176)=V at *;obtain⟨bp,AK⟩:=ArV w.heap.size;rw [←AK]at hb ⊢;clear AK;have q0:=Ab (o:=0) hb rfl;have q1:=Ab (o:=1) hb rfl;have q2:=Ab (o:=2) hb rfl;have q3:=Ab (o:=3) hb rfl;have q4:=Ab (o:=4) hb rfl;(go_wp2_with fail);(with_reducible refine(bk _ hE).mono ?_);rintro e w1 ⟨rfl,hx1⟩;replace k2:=hx1.cellS k2;have hf2:=OJ.ext hx1;clear q0 q1 q2 q3 q4 bk k1 hb OJ;by_cases h0:r<0
 ·obtain rfl:z = -1:=(by rw [KV.out,if_neg (by omega)]);go_wp2;go_ret;exact⟨rfl,hE.trans hx1⟩
 ·obtain⟨m,rfl⟩:∃m:Nat,r=(m:Int):=⟨r.toNat,by omega⟩;have hm:m<fs.length:=(by omega);obtain⟨b,o,rfl,hc2⟩:=hf2.ad (by simp [zs];omega);have AhP:=hc2 m (by simp [zs];exact hm);have hzz:z=fs[m]:=(by rw [KV.out,if_pos (by omega)];simp [List.getD_eq_getElem?_getD,Asf hm]);have hge:(zs fs)[m]'(by simp [zs];exact hm)=.int .i64 z:=(by rw [hzz];simp [zs]);rw [hge]at AhP;have hm0:(0:Int)<=(m:Int):=(by omega);have hm1:(m:Int)<(fs.length:Int):=(by omega);clear hzz hge hc2 KV;go_wp2;go_ret;exact⟨rfl,hE.trans hx1⟩
end Go.Proofs.YtbejphgbbpplbaaGreatDoor
