/- K33: ShBL. -/
import Derived.Test.YtgnejnampofhoaaGreatDoorK30
set_option maxRecDepth 100000
set_option maxHeartbeats 16000000
namespace Go.Proofs.YtgnejnampofhoaaGreatDoor
open Go.RowKit Kl
def FV(p:List Pt)(k:Nat):Sg:=⟨p.getD k ⟨0,0⟩,p.getD ((k+1)%p.length) ⟨0,0⟩⟩
def EO(p:List Pt)(k:Nat)(i:Nat):List (Sg×Int):=(List.range k).map fun j=>(FV p j,(i:Int))
def BF(P:List (List Pt×Bs))(n:Nat):List (Sg×Int):=(List.range n).flatMap fun i=>EO (P.getD i ([],[])).1 (P.getD i ([],[])).1.length i
theorem dE(p:List Pt)(k i:Nat):EO p (k+1) i=EO p k i ++ [(FV p k,(i:Int))]:=by simp [EO,List.range_succ]
theorem zM{P:List (List Pt×Bs)}{n:Nat}(h:n<P.length):BF P (n+1)=BF P n++EO P[n].1 P[n].1.length n:=by
 unfold BF;rw [List.range_succ,List.flatMap_append];simp [List.getD_eq_getElem?_getD,Aj4 h]
def Qt(s:Sg):List Pt:=if 0<Bd s.a s.b then [s.b,s.a] else [s.a,s.b]
structure gC(P:List (List Pt×Bs)):Prop where
 len:P.length<=1000
 pc:∀e∈P,0<e.1.length/\e.1.length<=60
 sz:∀e∈P,∀p∈e.1,Az 1 p
 two:∀e∈P,∀k,k<e.1.length→(Qn P).filter (fun q=>EL (FV e.1 k).a (FV e.1 k).b q)=Qt (FV e.1 k)
 nd:((BF P P.length).map (·.1)).Nodup
theorem zL(P:List (List Pt×Bs))(m:Nat):∀d,∃r,BF P (m+d)=BF P m++r
 | 0=>⟨[],by simp⟩
 | d+1=>by
  obtain⟨r,hr⟩:=zL P m d;refine⟨r++EO (P.getD (m+d) ([],[])).1 (P.getD (m+d) ([],[])).1.length (m+d),?_⟩
  have e:BF P (m+(d+1))=BF P (m+d)++EO (P.getD (m+d) ([],[])).1 (P.getD (m+d) ([],[])).1.length (m+d):=by unfold BF;rw [←Nat.add_assoc,List.range_succ,List.flatMap_append];simp
  rw [e,hr,List.append_assoc]
theorem zN(p:List Pt)(k i:Nat):∀d,∃r,EO p (k+d) i=EO p k i++r
 | 0=>⟨[],by simp⟩
 | d+1=>by obtain⟨r,hr⟩:=zN p k i d;exact⟨r ++ [(FV p (k+d),(i:Int))],by rw [←Nat.add_assoc,dE,hr,List.append_assoc]⟩
theorem Agq{P:List (List Pt×Bs)}(Ci:((BF P P.length).map (·.1)).Nodup){j k:Nat}(hj:j<P.length)(hk:k<P[j].1.length):∀e∈BF P j++EO P[j].1 k j,AN (FV P[j].1 k) e.1=false:=by
 obtain⟨r1,h1⟩:=zL P (j+1) (P.length-(j+1));rw [show j+1+(P.length-(j+1))=P.length by omega,zM hj]at h1;obtain⟨r2,h2⟩:=zN P[j].1 (k+1) j (P[j].1.length-(k+1));rw [show k+1+(P[j].1.length-(k+1))=P[j].1.length by omega,dE]at h2;rw [h1,h2]at Ci;intro e he;refine yY fun hh=>?_;have e0:BF P j++(EO P[j].1 k j ++ [(FV P[j].1 k,(j:Int))]++r2)++r1=(BF P j++EO P[j].1 k j)++((FV P[j].1 k,(j:Int))::(r2++r1)):=(by simp);rw [e0,List.map_append,List.map_cons,List.nodup_append]at Ci;exact Ci.2.2 _ (List.mem_map_of_mem he) _ List.mem_cons_self hh.symm
theorem Agp{p:List Pt}{k q:Nat}(hk:k<p.length)(hq:q=(k+1)%p.length)(BN:q<p.length):FV p k=⟨p[k],p[q]⟩:=by
 unfold FV;rw [←hq];simp [List.getD_eq_getElem?_getD,Aj4 hk,Aj4 BN]
def ml(w:World)(L:List (Sg×Int))(e:Ending)(w':World):Prop:=
 ∃b,e=.returned (.map (some b))/\Ek w' b L/\w.heap.size<=b/\Ac w w'
theorem AeP(P:List (List Pt×Bs))(hP:gC P)(A:Option Addr)(c:Nat)(w:World)(hw:Ao w)(h:MK w A c P) :
  Calls Tryz.prog 113 #[.slice A P.length c] w (ml w (BF P P.length)):=by
 have hmm:=@run_makeMap Tryz.prog;obtain⟨n,hn⟩:=Ajv P.length;rw [←hn];have HN:=Ajw hn;have hlen:n<=1000:=(by rw [hn];exact hP.len);have HP:=Ajw hP;have HA:=Ajw h;have hc1:n<=c:=(by rw [hn];exact h.c1);clear hn hP h;go_enter Tryz.func113,Tryz.ntmps113
 go_upto_region 3 with fail
 go_loopw [3,18] (fun ov iv wr=>∃i:Nat,iv=.int .i64 (i:Nat)/\i<=n/\wr.ownsRow w.heap.size 27 2 ov (Dv P i).length (flat (Ai (Dv P i)))/\Ac w wr) (fun _ iv _=>n-(intOf iv).toNat)
 case atStart=>exact⟨0,rfl,by omega,⟨rfl,.inl ⟨rfl,rfl⟩⟩,Ac.refl _⟩
 case round=>
  obtain⟨i,rfl,hi,hown,Ag⟩:=hrel;obtain⟨vA,vc,rfl⟩:=KQ (by omega) hown;by_cases hin:i<n
  ·have Md:i<P.length:=(by rw [←HN.out];exact hin);obtain⟨bA,oA,A',c',rfl,Bc,Bu,BN,Bi,hr1,hr2⟩:=HA.out.row i Md;have IB:=HP.out.pc _ (Aj0 Md);have ZM:=kL Md;have Ed:=Xi (fun e he=>(HP.out.pc e he).2) i (by omega);obtain⟨pg,Et⟩:=Ajv (P[i].1);obtain⟨un,AQ⟩:=Ajv (P[i].2);rw [←Et]at Bc Bi hr1 IB ZM;rw [←AQ]at Bu;replace Bc:=Ag.cellS Bc;replace Bu:=Ag.cellS Bu;replace BN:=Ag.cellS BN;replace Bi:=Bi.ext Ag;have Jp:(0:Int)<=(i:Int):=(by omega);have Nu:(i:Int)<(n:Int):=(by omega);have E4:=(Ac.refl wr).alloc (.cells #[.slice A' pg.length c',S un,.slice none 0 0] 111);have AO:=Ajy wr (.cells #[.slice A' pg.length c',S un,.slice none 0 0] 111);have rN:(Dv P i).length<200000:=(by omega);have fL:=Ajw ZM;obtain⟨cl,hcl⟩:=Ajv (Dv P i);rw [←hcl]at hown rN fL ⊢;have HCL:=Ajw hcl;clear ZM Ed Et AQ hcl
   go_upto_region 5 with fail
   unfold S at AO E4;generalize wr.alloc (.cells #[.slice A' pg.length c',.string ⟨un.toArray⟩,.slice none 0 0] 111)=W4 at *;have y0:=Aa (o:=0) AO rfl;have ZC:wr.heap.size<=W4.heap.size:=E4.size;have hs0:=Ag.size;clear Bc Bu BN
   go_wp2_with (at_builtin;go_loud (refine oy rfl _ _ rfl _ w.heap.size (.slice vA cl.length vc) cl.length cl rfl (A9 hown E4) rN pg A' c' rfl (Bi.ext E4) IB.1 (by omega) (by omega) ?_);intro v7 w7 GX Rf)
   go_roundw
   case rel=>exact⟨i+1,by go_num,hin,by rw [fL.out,List.length_append];exact GX,Rf w (Ag.trans E4) (Ajz _)⟩
   case measure=>simp [intOf];omega
  ·have Rk:i=n:=(by omega);subst Rk;have hsz:=HP.out.sz;have Abv:=Xi (fun e he=>(HP.out.pc e he).2) i (by have:=HN.out;omega)
   have Df:=zS hw Ag (Ajz _) (Dv P i) (fun s hs=>by
    obtain⟨e,he,hq⟩:=vJ hs
    exact hsz e he s hq) (by omega) hown
   obtain⟨C,hC⟩:=Ajv (Qn P);have TN:Lib.compact (Eh (Dv P i))=C:=by rw [hC];unfold Qn;rw [←HN.out]
   have mZ:C.length<=60000:=by rw [←TN];refine Aj9 (vh _) ?_;rw [(JA _).length_eq];omega
   have nB:∀q∈C,Az 1 q:=fun q hq=>by rw [←TN]at hq;obtain⟨e,he,hq⟩:=vJ ((JA _).mem_iff.1 (mem_compact hq));exact hsz e he q hq
   have cc:=fun (w5:World) (h:w5.ownsRow w.heap.size 27 2 (.slice vA (Dv P i).length vc) (Dv P i).length (EK (Eh (Dv P i))))=>vg (Eh (Dv P i)) (.slice vA (Dv P i).length vc) w5 w.heap.size (by rw [(JA _).length_eq];exact h)
   rw [TN]at cc;have HC:=Ajw hC;have MF:=Ajw nB;clear hsz TN hC nB;obtain⟨m0,hm0⟩:=Ajv ((Dv P i).length);rw [←hm0]at hown Df cc Abv ⊢;clear hm0;(go_wp2_with fail);(with_reducible refine Df.mono ?_);rintro e w5 ⟨rfl,hg5,ho5⟩;have AE:Ac w w5:=Ag.grownOwn hg5 hown (Ajz _);have c5:=cc w5 ho5;clear cc Df hg5 hown;(go_wp2_with fail);(with_reducible refine c5.mono ?_);rintro e w6 ⟨A6,k6,rfl,hr6,h61,h62,O0⟩;have AU:Ac w w6:=O0 w AE (Ajz _);clear O0 c5 ho5 AE Ag;have AD:=Ajy w6 (.map #[] 0);have E7:=(Ac.refl w6).alloc (.map #[] 0)
   go_upto_region 11 with fail
   generalize w6.alloc (.map #[] 0)=W7 at *;obtain⟨bm,pW⟩:=Ajv w6.heap.size;rw [←pW]at AD ⊢;have hle:w.heap.size<=bm:=(by have:=AU.size;omega);have Nj:=AU.trans E7;have hr7:=hr6.ext E7;clear pW hr6 E7 AU;have XX:Ek W7 bm (BF P 0):=AD
   go_loopw [34] (fun iv wr=>∃j:Nat,iv=.int .i64 (j:Nat)/\j<=i/\Ek wr bm (BF P j)/\Ax (fun q=>q=bm) W7 wr) (fun iv _=>i-(intOf iv).toNat)
   case atStart=>exact⟨0,rfl,by omega,XX,Ax.refl _ _⟩
   case round=>
    obtain⟨j,rfl,hj,hM,hB⟩:=hrel;have BQ:Ac w wr:=hB.toExt Nj (fun q e=>by subst e;exact hle);by_cases hjn:j<i
    ·have H8:j<P.length:=(by rw [←HN.out];exact hjn);obtain⟨bA,oA,A',c',rfl,Bc,Bu,BN,Bi,hr1,hr2⟩:=HA.out.row j H8;have IB:=HP.out.pc _ (Aj0 H8);have GY:=HP.out.sz _ (Aj0 H8);have KC:=HP.out.two _ (Aj0 H8);have Dp:=zM H8;have hnew:=fun k (hk:k<P[j].1.length)=>Agq HP.out.nd H8 hk;obtain⟨pg,Et⟩:=Ajv (P[j].1);obtain⟨un,AQ⟩:=Ajv (P[j].2);rw [←Et]at Bc Bi hr1 IB GY KC Dp hnew;rw [←AQ]at Bu;replace Bc:=BQ.cellS Bc;replace Bu:=BQ.cellS Bu;replace BN:=BQ.cellS BN;have Jp:(0:Int)<=(j:Int):=(by omega);have Nu:(j:Int)<(i:Int):=(by omega);have E8:=(Ac.refl wr).alloc (.cells #[.slice A' pg.length c',S un,.slice none 0 0] 111);have Aw:=Ajy wr (.cells #[.slice A' pg.length c',S un,.slice none 0 0] 111);have jm:=Ajw hnew;have fJ:=Ajw GY;have kn:=Ajw KC;have Ip:=Ajw Dp;clear Et AQ GY KC Dp hnew
     go_upto_region 13 with fail
     unfold S at Aw E8;generalize wr.alloc (.cells #[.slice A' pg.length c',.string ⟨un.toArray⟩,.slice none 0 0] 111)=W8 at *;obtain⟨bp,YG⟩:=Ajv wr.heap.size;rw [←YG]at Aw ⊢;have Aie:bm<bp:=(by rw [YG];exact Ajx hM);have y0:=Aa (o:=0) Aw rfl
     have QE:Ek W8 bm (BF P j++EO pg 0 j):=by have e:EO pg 0 j = []:=rfl;rw [e,List.append_nil];exact hM.ext E8
     have TJ:=hB.ext E8;clear YG Bc Bu BN hM hB E8 BQ
     go_upto_region 14 with fail
     go_loopw [42] (fun kv wk=>∃k:Nat,kv=.int .i64 (k:Nat)/\k<=pg.length/\Ek wk bm (BF P j++EO pg k j)/\Ax (fun q=>q=bm) W8 wk) (fun kv _=>pg.length-(intOf kv).toNat)
     case atStart=>exact⟨0,rfl,by omega,QE,Ax.refl _ _⟩
     case round=>
      obtain⟨k,rfl,hk,LK,TL⟩:=hrel;have XF:=TJ.trans TL;have Uf:Ac w wr:=XF.toExt Nj (fun q e=>by subst e;exact hle);have qB:=TL.cells Aw (by omega);by_cases hkn:k<pg.length
      ·obtain⟨q,hq⟩:=Ajv ((k+1)%pg.length);have K7:q<pg.length:=by rw [hq];exact Nat.mod_lt _ (by omega)
       have Mg:(((k:Int)+1)).tmod (pg.length:Int)=(q:Int):=by rw [Int.tmod_eq_emod_of_nonneg (by omega),hq,Int.natCast_emod];rfl
       have rH:(((k:Int)+1))%(pg.length:Int)=(q:Int):=(by rw [hq,Int.natCast_emod];rfl);have U2:¬((pg.length:Int)=0):=(by omega);have rU:¬(pg.length=0):=(by omega);have Ab6:((pg.length:Int) == 0)=false:=beq_false_of_ne U2;have sS:IntKind.wrap .i64 (q:Int)=(q:Int):=Aj5 _ (by omega);have OG:IntKind.wrap .i64 ((k:Int)+1)=(k:Int)+1:=Aj5 _ (by omega);obtain⟨b,o,rfl,ka,kb⟩:=BW (Bi.ext Uf) hkn;obtain⟨b',o',he,qa,qb⟩:=BW (Bi.ext Uf) K7;simp only [Aj3,Addr.mk.injEq,and_true]at he;obtain⟨rfl,rfl⟩:=he;have Nz:=fJ.out _ (Aj0 hkn);have N1:=fJ.out _ (Aj0 K7);have RD:=Agp hkn hq K7;have KC:=kn.out k hkn;rw [RD]at KC;obtain⟨a0,ha0⟩:=Ajv (pg[k]);obtain⟨b0,hb0⟩:=Ajv (pg[q]);rw [←ha0]at ka kb Nz KC RD;rw [←hb0]at qa qb N1 KC RD;have ko:=Ajw KC;have kh:=Ajw RD;have hk0:(0:Int)<=(k:Int):=(by omega);have Dn:(k:Int)<(pg.length:Int):=(by omega);have AbH:(0:Int)<=(q:Int):=(by omega);have AbI:(q:Int)<(pg.length:Int):=(by omega);have hm0:(0:Int)<(pg.length:Int):=(by omega);clear ha0 hb0 hq KC RD;have hpn:pg≠[]:=fun e=>(by rw [e]at hkn;simp at hkn);have Av:=Ajy wr (.cells #[S (R a0.x),S (R a0.y)] 27);have EA:=(Ac.refl wr).alloc (.cells #[S (R a0.x),S (R a0.y)] 27)
       go_upto_region 16 with fail
       unfold S at Av EA;generalize wr.alloc (.cells #[.string ⟨(R a0.x).toArray⟩,.string ⟨(R a0.y).toArray⟩] 27)=VA at *;obtain⟨ba,LS⟩:=Ajv wr.heap.size;rw [←LS]at Av ⊢;have Ai3:w.heap.size<=ba:=(by have:=Uf.size;omega);clear LS;replace qa:=EA.cellS qa;replace qb:=EA.cellS qb;have yp:=EA.cellS (Aa (o:=0) qB rfl);have X:=Ac.refl VA;have SO:=fun (w':World) (h:Ac VA w')=>(⟨h.cellS yp,h.cellS qa,h.cellS qb⟩:_/\_/\_);clear y0 ka kb
       go_cut [11] (fun v11 wx=>∃bb,v11=.pointer (some ⟨bb,0,none⟩)/\wx.heap[bb]?=some (.cells #[S (R b0.x),S (R b0.y)] 27)/\Ac VA wx)
       case first=>
        go_region_held3 (fun w'=>w'.cell? ⟨bp,0,none⟩=some (.slice (some ⟨b,o,none⟩) pg.length c')/\w'.cell? ⟨b,o+q*2,none⟩=some (S (R b0.x))/\w'.cell? ⟨b,o+q*2+1,none⟩=some (S (R b0.y)))
         ((refine SO _ ?_;repeat (first|exact X|(with_reducible refine Ac.drew ?_)|(with_reducible refine Ac.alloc ?_ _)|(with_reducible refine Ac.setCell ?_ (by simp) _))))
         (fail)
        all_goals go_wp2
        all_goals go_meet
        all_goals exact⟨_,rfl,by unfold S;exact Ajy VA _,(X.alloc _).drew⟩
       case rest=>
        obtain⟨bb,rfl,Bf,Dz⟩:=hcut;obtain⟨W9,rfl⟩:=aQ Dz;have Hw:Ac w W9:=Uf.trans (EA.trans Dz)
        have Ui:=Dz.block _ (Ajx Av) |>.trans Av
        have hr9:Ae W9 A6 (flat (Ai C)):=by
         refine⟨fun h0=>?_⟩;obtain⟨g0,o0,e0,hc0⟩:=hr7.ad h0;refine⟨g0,o0,e0,fun z hz=>?_⟩;have h7:=hc0 z hz;refine(EA.trans Dz).cellS ?_
         exact(World.cell?_of_block (a:=⟨g0,o0+z,none⟩) (XF.block g0 (World.block_lt_of_cell? W7 _ h7) (fun e=>by
          subst e;rw [World.cell?]at h7
          simp [AD]at h7))).trans h7
        have FH:Ek W9 bm (BF P j++EO pg k j):=LK.ext (EA.trans Dz);have Ot:=(TL.ext EA).ext Dz;have hw9:=hw.ext Hw;clear SO X qa qb yp Av Dz EA LK qB
        go_upto_region 19 with fail
        go_loopw [12,59] (fun ov qv wx=>∃(z:Nat) (l:List Pt),qv=.int .i64 (z:Nat)/\z<=C.length/\l=(C.take z).filter (fun p=>EL a0 b0 p)/\wx.ownsRow W9.heap.size 27 2 ov l.length (flat (Ai l))/\Ac W9 wx) (fun _ qv _=>C.length-(intOf qv).toNat)
        case atStart=>exact⟨0,[],rfl,by omega,by simp,⟨rfl,.inl ⟨rfl,rfl⟩⟩,Ac.refl _⟩
        case round=>
         obtain⟨z,l,rfl,hz,hl,hown,Ag⟩:=hrel;obtain⟨vL,bj,rfl⟩:=KQ (by omega) hown;by_cases Mr:z<C.length
         ·obtain⟨b2,o2,rfl,ca,cb⟩:=BW (hr9.ext Ag) Mr;have DO:=MF.out _ (Aj0 Mr)
          have Ic:(C.take (z+1)).filter (fun p=>EL a0 b0 p)=l++(if EL a0 b0 C[z]=true then [C[z]] else []):=by
           rw [Aj2 Mr,List.filter_append,←hl]
           congr 1
           simp [List.filter_cons]
          obtain⟨q0,Bc⟩:=Ajv (C[z]);rw [←Bc]at ca cb DO Ic;have hz0:(0:Int)<=(z:Int):=(by omega);have hz1:(z:Int)<(C.length:Int):=(by omega);have Ed:l.length<200000:=(by rw [hl];have:=List.length_filter_le (fun p=>EL a0 b0 p) (C.take z);rw [List.length_take]at this;omega);have C7:=Ajy wr (.cells #[S (R q0.x),S (R q0.y)] 27);have EQ:=(Ac.refl wr).alloc (.cells #[S (R q0.x),S (R q0.y)] 27);have pc:=fun (V:World) (h:Ac w V)=>bT a0 b0 q0 Nz N1 DO (by omega) (by omega) V (hw.ext h);obtain⟨bt,FK⟩:=Ajv (EL a0 b0 q0);rw [←FK]at pc Ic;have Lr:=Ajw Ic;clear Bc Ic FK hl
          go_upto_region 21 with fail
          unfold S at C7 EQ Bf ca cb;generalize wr.alloc (.cells #[.string ⟨(R q0.x).toArray⟩,.string ⟨(R q0.y).toArray⟩] 27)=V2 at *;have Ce:=Ag.trans EQ;have x0:=Ce.cellS (Aa (o:=0) Ui rfl);have x1:=Ce.cellS (Aa (o:=1) Ui rfl);have x2:=Ce.cellS (Aa (o:=0) Bf rfl);have x3:=Ce.cellS (Aa (o:=1) Bf rfl);have x4:=Aa (o:=0) C7 rfl;have x5:=Aa (o:=1) C7 rfl;have p2:=pc V2 (Hw.trans Ce);unfold Ak S at p2;clear pc ca cb;(go_wp2_with fail);(with_reducible refine p2.mono ?_);rintro e w3 ⟨rfl,hx3⟩;have x6:=hx3.cellS x4;have x7:=hx3.cellS x5;have AiL:W9.heap.size<=w3.heap.size:=(Ce.trans hx3).size;clear p2 x0 x1 x2 x3 x4 x5
          cases bt
          ·have Ah5:=Ajw Lr.out;go_wp2;go_roundw
           case rel=>exact⟨z+1,l,by go_num,Mr,by rw [Lr.out];simp,A9 hown (EQ.trans hx3),Ce.trans hx3⟩
           case measure=>simp [intOf];omega
          ·have Fj:=A9 hown (EQ.trans hx3)
           go_wp2_with (at_builtin;go_loud (refine ox rfl _ _ rfl _ W9.heap.size (.slice vL l.length bj) l.length l rfl (A9 Fj ((Ac.refl w3).alloc _)) Ed q0 w3.heap.size (Ajy w3 _) rfl (by simp;omega) ?_);intro v8 w8 U6 AX)
           go_roundw
           case rel=>exact⟨z+1,l ++ [q0],by go_num,Mr,by rw [Lr.out];simp,by rw [List.length_append];exact U6,AX W9 ((Ce.trans hx3).alloc _) (Ajz _)⟩
           case measure=>simp [intOf];omega
         ·have tX:z=C.length:=by omega
          have Zi:l=Qt ⟨a0,b0⟩:=by rw [hl,tX,List.take_length];have h2:=ko.out;rw [←HC.out]at h2;exact h2
          subst tX;have hl2:l.length=2:=by rw [Zi];unfold Qt;split<;>rfl
          obtain⟨g,cap,ZO⟩:∃g cap,Value.slice vL l.length bj=.slice (some ⟨g,0,none⟩) 2 cap:=by
           rcases hown.2 with⟨_,h'⟩|⟨g,cap,cur,hv,_⟩
           ·omega
           ·exact⟨g,cap,by rw [hv,hl2]⟩
          rw [ZO,hl2,Zi]at hown;simp only [Value.slice.injEq]at ZO;obtain⟨ZN,-,hv2⟩:=ZO;subst ZN hv2;rw [hl2];have cp:=fun (V:World) (h:Ac w V)=>Ih a0 b0 Nz N1 (by omega) (by omega) V (hw.ext h);obtain⟨r,hr⟩:=Ajv (Bd a0 b0);rw [←hr]at cp;unfold Qt at hown;simp only [←hr]at hown;unfold S at Bf;have x0:=Ag.cellS (Aa (o:=0) Ui rfl);have x1:=Ag.cellS (Aa (o:=1) Ui rfl);have x2:=Ag.cellS (Aa (o:=0) Bf rfl);have x3:=Ag.cellS (Aa (o:=1) Bf rfl);have p2:=cp wr (Hw.trans Ag);unfold Ak S at p2;clear cp hr Zi hl hl2
          go_upto_region 24 with fail
          (go_wp2_with fail);(with_reducible refine p2.mono ?_);rintro e w3 ⟨rfl,hx3⟩;have Fj:=A9 hown hx3;clear p2 x0 x1 x2 x3 hown;by_cases Cl:0<r
          case' pos=>rw [if_pos Cl]at Fj;have rv:=Af7 b0 a0 g _ W9.heap.size w3 Fj;have AbE:r>0:=Cl;(go_wp2_with fail);(with_reducible refine rv.mono ?_);rintro e w4 ⟨rfl,Fi,hg4⟩;have Aq:=(Ag.trans hx3).grownOwn hg4 Fj (Ajz _);clear hg4 rv Fj
          case' neg=>rw [if_neg Cl]at Fj;have AbE:¬r>0:=Cl;obtain⟨w4,rfl⟩:=Ajv w3;have Fi:=Fj;have Aq:=Ag.trans hx3;clear Fj
          all_goals (
           have Hv:Ac w w4:=Hw.trans Aq;have f0:=Fi.cellAt 0 (by omega);have f1:=Fi.cellAt 1 (by omega);have f2:=Fi.cellAt 2 (by omega);have f3:=Fi.cellAt 3 (by omega);simp only [Ai,KR,flat,List.map_cons,List.map_nil,List.flatMap_cons,List.flatMap_nil,List.append_nil,List.cons_append,List.nil_append,List.getElem?_cons_zero,List.getElem?_cons_succ]at f0 f1 f2 f3;have SO:=fun (w':World) (h:Ac w4 w')=>(⟨h.cellS f0,h.cellS f1,h.cellS f2,h.cellS f3⟩:_/\_/\_/\_);have X:=Ac.refl w4;have C0:Ek w4 bm (BF P j++EO pg k j):=FH.ext Aq;obtain⟨Wp,hput,Jh,Mb,-⟩:=uZ (C0.ext X.drew) (FV pg k) (jm.out k hkn) (j:Int)
           have FP:∃cs t,w4.heap[g]?=some (.cells cs t (0,0)):=by
            rcases Fi.2 with⟨h',_⟩|⟨g',cap',cur,hv,_,hgb,_⟩
            ·omega
            ·simp only [Value.slice.injEq,Aj3,Addr.mk.injEq]at hv;obtain⟨⟨rfl,-⟩,-⟩:=hv;exact⟨_,_,hgb⟩
           obtain⟨cg,tg,FP⟩:=FP
           have qX:some g≠some bm:=by
            intro e
            cases e;have h4:=C0;unfold Ek at h4;rw [h4]at FP
            cases FP
           have KP:=fun (o:Nat) (v:Value) (h:w4.cell? ⟨g,o,none⟩=some v)=>(World.cell?_of_block (a:=⟨g,o,none⟩) (Mb.block g (Ajx FP) qX)).trans h;have SP:=And.intro (KP _ _ f0) (And.intro (KP _ _ f1) (And.intro (KP _ _ f2) (KP _ _ f3)));have h11:IntKind.i64.wrap (0:Int)=0:=(by decide);have h02:(0:Int)<2:=(by omega);have XL:=((Ot.ext Aq).ext X.drew).grown Mb (fun q e=>by cases e;exact .inl rfl);rw [kh.out]at hput;unfold AC S at hput;have PN:=Ajw Jh;clear Jh Mb C0 Fi Ag hx3 f0 f1 f2 f3 FP qX KP
           go_upto_region 27 with fail
           go_loopw [15] (fun v wx=>(v=.int .i64 1/\wx=w4)∨(v=.int .i64 2/\wx=Wp)) (fun v _=>2-(intOf v).toNat)
           case atStart=>exact .inl ⟨rfl,rfl⟩
           case round=>
            rcases hrel with⟨rfl,rfl⟩|⟨rfl,rfl⟩
            ·go_upto_region 29 with fail
             go_region_held3 (fun w'=>w'.cell? ⟨g,0,none⟩=some (S (R a0.x))/\w'.cell? ⟨g,1,none⟩=some (S (R a0.y))/\w'.cell? ⟨g,2,none⟩=some (S (R b0.x))/\w'.cell? ⟨g,3,none⟩=some (S (R b0.y)))
              (first|with_reducible exact SO _ X|with_reducible exact SO _ X.drew|with_reducible exact SP)
              (fail)
             all_goals go_wp2
             all_goals go_roundw
             case rel=>exact .inr ⟨rfl,trivial⟩
             case measure=>simp [intOf]
            ·go_wp2;go_roundw
             case rel=>exact⟨k+1,by go_num,hkn,by rw [dE,←List.append_assoc];exact PN.out,XL⟩
             case measure=>simp [intOf];omega)
      ·have CP:k=pg.length:=(by omega);subst CP;rw [←Ip.out]at LK;have VW:=Ajw LK;clear LK TJ TL;go_wp2;go_roundw
       case rel=>exact⟨j+1,by go_num,hjn,VW.out,XF⟩
       case measure=>simp [intOf];omega
    ·have Jr:j=i:=(by omega);subst Jr;have Cg:Ek wr bm (BF P j):=hM;go_wp2;go_ret;exact⟨bm,rfl,Cg,hle,BQ⟩
end Go.Proofs.YtgnejnampofhoaaGreatDoor
