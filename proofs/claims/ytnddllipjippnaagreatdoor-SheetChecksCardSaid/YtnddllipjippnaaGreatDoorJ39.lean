/- J39: BL. -/
import Derived.Test.YtnddllipjippnaaGreatDoorJ38
set_option maxRecDepth 100000
set_option maxHeartbeats 16000000
namespace Go.Proofs.YtnddllipjippnaaGreatDoor
open Go.RowKit Kl
def G7(p:List Pt)(k:Nat):Sg:=⟨p.getD k ⟨0,0⟩,p.getD ((k+1)%p.length) ⟨0,0⟩⟩
def FO(p:List Pt)(k:Nat)(i:Nat):List (Sg×Int):=(List.range k).map fun j=>(G7 p j,(i:Int))
def BR(P:List (List Pt×Bs))(n:Nat):List (Sg×Int):=(List.range n).flatMap fun i=>FO (P.getD i ([],[])).1 (P.getD i ([],[])).1.length i
theorem lN(p:List Pt)(k i:Nat):FO p (k+1) i=FO p k i ++ [(G7 p k,(i:Int))]:=by simp [FO,List.range_succ]
theorem uf{P:List (List Pt×Bs)}{n:Nat}(h:n<P.length):BR P (n+1)=BR P n++FO P[n].1 P[n].1.length n:=by
 unfold BR;rw [List.range_succ,List.flatMap_append];simp [List.getD_eq_getElem?_getD,AoC h]
def Sx(s:Sg):List Pt:=if 0<Bq s.a s.b then [s.b,s.a] else [s.a,s.b]
structure oM(P:List (List Pt×Bs)):Prop where
 len:P.length<=1000
 pc:∀e∈P,0<e.1.length/\e.1.length<=60
 sz:∀e∈P,∀p∈e.1,Az 200 p
 two:∀e∈P,∀k,k<e.1.length→(Sm P).filter (fun q=>FM (G7 e.1 k).a (G7 e.1 k).b q)=Sx (G7 e.1 k)
 nd:((BR P P.length).map (·.1)).Nodup
theorem ue(P:List (List Pt×Bs))(m:Nat):∀d,∃r,BR P (m+d)=BR P m++r
 | 0=>⟨[],by simp⟩
 | d+1=>by
  obtain⟨r,hr⟩:=ue P m d;refine⟨r++FO (P.getD (m+d) ([],[])).1 (P.getD (m+d) ([],[])).1.length (m+d),?_⟩
  have e:BR P (m+(d+1))=BR P (m+d)++FO (P.getD (m+d) ([],[])).1 (P.getD (m+d) ([],[])).1.length (m+d):=by unfold BR;rw [←Nat.add_assoc,List.range_succ,List.flatMap_append];simp
  rw [e,hr,List.append_assoc]
theorem ug(p:List Pt)(k i:Nat):∀d,∃r,FO p (k+d) i=FO p k i++r
 | 0=>⟨[],by simp⟩
 | d+1=>by obtain⟨r,hr⟩:=ug p k i d;exact⟨r ++ [(G7 p (k+d),(i:Int))],by rw [←Nat.add_assoc,lN,hr,List.append_assoc]⟩
theorem AkP{P:List (List Pt×Bs)}(C6:((BR P P.length).map (·.1)).Nodup){j k:Nat}(hj:j<P.length)(hk:k<P[j].1.length):∀e∈BR P j++FO P[j].1 k j,Be (G7 P[j].1 k) e.1=false:=by
 obtain⟨r1,h1⟩:=ue P (j+1) (P.length-(j+1));rw [show j+1+(P.length-(j+1))=P.length by omega,uf hj]at h1;obtain⟨r2,h2⟩:=ug P[j].1 (k+1) j (P[j].1.length-(k+1));rw [show k+1+(P[j].1.length-(k+1))=P[j].1.length by omega,lN]at h2;rw [h1,h2]at C6;intro e he;refine si fun hh=>?_;have e0:BR P j++(FO P[j].1 k j ++ [(G7 P[j].1 k,(j:Int))]++r2)++r1=(BR P j++FO P[j].1 k j)++((G7 P[j].1 k,(j:Int))::(r2++r1)):=(by simp);rw [e0,List.map_append,List.map_cons,List.nodup_append]at C6;exact C6.2.2 _ (List.mem_map_of_mem he) _ List.mem_cons_self hh.symm
theorem AkO{p:List Pt}{k q:Nat}(hk:k<p.length)(hq:q=(k+1)%p.length)(BH:q<p.length):G7 p k=⟨p[k],p[q]⟩:=by
 unfold G7;rw [←hq];simp [List.getD_eq_getElem?_getD,AoC hk,AoC BH]
def Abj(w:World)(L:List (Sg×Int))(e:Ending)(w':World):Prop:=
 ∃b,e=.returned (.map (some b))/\EO w' b L/\w.heap.size<=b/\Ab w w'
theorem Ajs(P:List (List Pt×Bs))(hP:oM P)(A:Option Addr)(c:Nat)(w:World)(hw:Am w)(h:NZ w A c P) :
  Calls Tryz.prog 81 #[.slice A P.length c] w (Abj w (BR P P.length)):=by
 have hmm:=@run_makeMap Tryz.prog;obtain⟨n,hn⟩:=Ao3 P.length;rw [←hn];have HN:=Ao4 hn;have hlen:n<=1000:=(by rw [hn];exact hP.len);have HP:=Ao4 hP;have HA:=Ao4 h;have hc1:n<=c:=(by rw [hn];exact h.c1);clear hn hP h;go_enter Tryz.func81,Tryz.ntmps81
 go_upto_region 3 with fail
 go_loopw [3,18] (fun ov iv wr=>∃i:Nat,iv=.int .i64 (i:Nat)/\i<=n/\wr.ownsRow w.heap.size 24 2 ov (DC P i).length (flat (Aq (DC P i)))/\Ab w wr) (fun _ iv _=>n-(intOf iv).toNat)
 case atStart=>exact⟨0,rfl,by omega,⟨rfl,.inl ⟨rfl,rfl⟩⟩,Ab.refl _⟩
 case round=>
  obtain⟨i,rfl,hi,hown,Ac⟩:=hrel;obtain⟨vA,vc,rfl⟩:=LY (by omega) hown;by_cases hin:i<n
  ·have Np:i<P.length:=(by rw [←HN.out];exact hin);obtain⟨bA,oA,A',c',rfl,AY,Bl,BH,Bf,hr1,hr2⟩:=HA.out.row i Np;have J1:=HP.out.pc _ (Ao8 Np);have Q3:=rR Np;have EH:=ZK (fun e he=>(HP.out.pc e he).2) i (by omega);obtain⟨pg,Ha⟩:=Ao3 (P[i].1);obtain⟨un,AM⟩:=Ao3 (P[i].2);rw [←Ha]at AY Bf hr1 J1 Q3;rw [←AM]at Bl;replace AY:=Ac.cellS AY;replace Bl:=Ac.cellS Bl;replace BH:=Ac.cellS BH;replace Bf:=Bf.ext Ac;have Kh:(0:Int)<=(i:Int):=(by omega);have OF:(i:Int)<(n:Int):=(by omega);have E4:=(Ab.refl wr).alloc (.cells #[.slice A' pg.length c',S un,.slice none 0 0] 84);have As:=Ao6 wr (.cells #[.slice A' pg.length c',S un,.slice none 0 0] 84);have zX:(DC P i).length<200000:=(by omega);have nU:=Ao4 Q3;obtain⟨cl,hcl⟩:=Ao3 (DC P i);rw [←hcl]at hown zX nU ⊢;have HCL:=Ao4 hcl;clear Q3 EH Ha AM hcl
   go_upto_region 5 with fail
   unfold S at As E4;generalize wr.alloc (.cells #[.slice A' pg.length c',.string ⟨un.toArray⟩,.slice none 0 0] 84)=W4 at *;have y0:=Aa (o:=0) As rfl;have Kn:wr.heap.size<=W4.heap.size:=E4.size;have hs0:=Ac.size;clear AY Bl BH
   go_wp2_with (at_builtin;go_loud (refine AbA rfl _ _ rfl _ w.heap.size (.slice vA cl.length vc) cl.length cl rfl (AL hown E4) zX pg A' c' rfl (Bf.ext E4) J1.1 (by omega) (by omega) ?_);intro v7 w7 Ih Tx)
   go_roundw
   case rel=>exact⟨i+1,by go_num,hin,by rw [nU.out,List.length_append];exact Ih,Tx w (Ac.trans E4) (Ao7 _)⟩
   case measure=>simp [intOf];omega
  ·have LC:i=n:=(by omega);subst LC;have hsz:=HP.out.sz;have AfA:=ZK (fun e he=>(HP.out.pc e he).2) i (by have:=HN.out;omega)
   have Dw:=um hw Ac (Ao7 _) (DC P i) (fun s hs=>by
    obtain⟨e,he,hq⟩:=li hs
    exact hsz e he s hq) (by omega) hown
   obtain⟨C,hC⟩:=Ao3 (Sm P);have Wd:Lib.compact (Fo (DC P i))=C:=by rw [hC];unfold Sm;rw [←HN.out]
   have uW:C.length<=60000:=by rw [←Wd];refine AoH (AcK _) ?_;rw [(KF _).length_eq];omega
   have uY:∀q∈C,Az 200 q:=fun q hq=>by rw [←Wd]at hq;obtain⟨e,he,hq⟩:=li ((KF _).mem_iff.1 (mem_compact hq));exact hsz e he q hq
   have cc:=fun (w5:World) (h:w5.ownsRow w.heap.size 24 2 (.slice vA (DC P i).length vc) (DC P i).length (FK (Fo (DC P i))))=>AcJ (Fo (DC P i)) (.slice vA (DC P i).length vc) w5 w.heap.size (by rw [(KF _).length_eq];exact h)
   rw [Wd]at cc;have HC:=Ao4 hC;have NR:=Ao4 uY;clear hsz Wd hC uY;obtain⟨m0,hm0⟩:=Ao3 ((DC P i).length);rw [←hm0]at hown Dw cc AfA ⊢;clear hm0;(go_wp2_with fail);(with_reducible refine Dw.mono ?_);rintro e w5 ⟨rfl,hg5,Dv⟩;have Ae:Ab w w5:=Ac.grownOwn hg5 hown (Ao7 _);have c5:=cc w5 Dv;clear cc Dw hg5 hown;(go_wp2_with fail);(with_reducible refine c5.mono ?_);rintro e w6 ⟨A6,k6,rfl,hr6,h61,h62,Qb⟩;have AG:Ab w w6:=Qb w Ae (Ao7 _);clear Qb c5 Dv Ae Ac;have AW:=Ao6 w6 (.map #[] 0);have E7:=(Ab.refl w6).alloc (.map #[] 0)
   go_upto_region 11 with fail
   generalize w6.alloc (.map #[] 0)=W7 at *;obtain⟨bm,xT⟩:=Ao3 w6.heap.size;rw [←xT]at AW ⊢;have hle:w.heap.size<=bm:=(by have:=AG.size;omega);have O6:=AG.trans E7;have hr7:=hr6.ext E7;clear xT hr6 E7 AG;have PY:EO W7 bm (BR P 0):=AW
   go_loopw [34] (fun iv wr=>∃j:Nat,iv=.int .i64 (j:Nat)/\j<=i/\EO wr bm (BR P j)/\AD (fun q=>q=bm) W7 wr) (fun iv _=>i-(intOf iv).toNat)
   case atStart=>exact⟨0,rfl,by omega,PY,AD.refl _ _⟩
   case round=>
    obtain⟨j,rfl,hj,hM,hB⟩:=hrel;have Cd:Ab w wr:=hB.toExt O6 (fun q e=>by subst e;exact hle);by_cases hjn:j<i
    ·have ID:j<P.length:=(by rw [←HN.out];exact hjn);obtain⟨bA,oA,A',c',rfl,AY,Bl,BH,Bf,hr1,hr2⟩:=HA.out.row j ID;have J1:=HP.out.pc _ (Ao8 ID);have Ii:=HP.out.sz _ (Ao8 ID);have LL:=HP.out.two _ (Ao8 ID);have D8:=uf ID;have hnew:=fun k (hk:k<P[j].1.length)=>AkP HP.out.nd ID hk;obtain⟨pg,Ha⟩:=Ao3 (P[j].1);obtain⟨un,AM⟩:=Ao3 (P[j].2);rw [←Ha]at AY Bf hr1 J1 Ii LL D8 hnew;rw [←AM]at Bl;replace AY:=Cd.cellS AY;replace Bl:=Cd.cellS Bl;replace BH:=Cd.cellS BH;have Kh:(0:Int)<=(j:Int):=(by omega);have OF:(j:Int)<(i:Int):=(by omega);have E8:=(Ab.refl wr).alloc (.cells #[.slice A' pg.length c',S un,.slice none 0 0] 84);have Au:=Ao6 wr (.cells #[.slice A' pg.length c',S un,.slice none 0 0] 84);have Aaq:=Ao4 hnew;have nR:=Ao4 Ii;have HTW:=Ao4 LL;have IY:=Ao4 D8;clear Ha AM Ii LL D8 hnew
     go_upto_region 13 with fail
     unfold S at Au E8;generalize wr.alloc (.cells #[.slice A' pg.length c',.string ⟨un.toArray⟩,.slice none 0 0] 84)=W8 at *;obtain⟨bp,dN⟩:=Ao3 wr.heap.size;rw [←dN]at Au ⊢;have AmS:bm<bp:=(by rw [dN];exact Ao5 hM);have y0:=Aa (o:=0) Au rfl
     have SU:EO W8 bm (BR P j++FO pg 0 j):=by have e:FO pg 0 j = []:=rfl;rw [e,List.append_nil];exact hM.ext E8
     have VX:=hB.ext E8;clear dN AY Bl BH hM hB E8 Cd
     go_upto_region 14 with fail
     go_loopw [42] (fun kv wk=>∃k:Nat,kv=.int .i64 (k:Nat)/\k<=pg.length/\EO wk bm (BR P j++FO pg k j)/\AD (fun q=>q=bm) W8 wk) (fun kv _=>pg.length-(intOf kv).toNat)
     case atStart=>exact⟨0,rfl,by omega,SU,AD.refl _ _⟩
     case round=>
      obtain⟨k,rfl,hk,MW,VZ⟩:=hrel;have aN:=VX.trans VZ;have Wx:Ab w wr:=aN.toExt O6 (fun q e=>by subst e;exact hle);have yA:=VZ.cells Au (by omega);by_cases hkn:k<pg.length
      ·obtain⟨q,hq⟩:=Ao3 ((k+1)%pg.length);have IE:q<pg.length:=by rw [hq];exact Nat.mod_lt _ (by omega)
       have LD:(((k:Int)+1)).tmod (pg.length:Int)=(q:Int):=by rw [Int.tmod_eq_emod_of_nonneg (by omega),hq,Int.natCast_emod];rfl
       have zP:(((k:Int)+1))%(pg.length:Int)=(q:Int):=(by rw [hq,Int.natCast_emod];rfl);have Xj:¬((pg.length:Int)=0):=(by omega);have av:¬(pg.length=0):=(by omega);have AfK:((pg.length:Int) == 0)=false:=beq_false_of_ne Xj;have dw:IntKind.wrap .i64 (q:Int)=(q:Int):=AoD _ (by omega);have Qp:IntKind.wrap .i64 ((k:Int)+1)=(k:Int)+1:=AoD _ (by omega);obtain⟨b,o,rfl,ka,kb⟩:=Co (Bf.ext Wx) hkn;obtain⟨b',o',he,qa,qb⟩:=Co (Bf.ext Wx) IE;simp only [AoB,Addr.mk.injEq,and_true]at he;obtain⟨rfl,rfl⟩:=he;have gC:=nR.out _ (Ao8 hkn);have TY:=nR.out _ (Ao8 IE);have TZ:=AkO hkn hq IE;have LL:=HTW.out k hkn;rw [TZ]at LL;obtain⟨a0,ha0⟩:=Ao3 (pg[k]);obtain⟨b0,hb0⟩:=Ao3 (pg[q]);rw [←ha0]at ka kb gC LL TZ;rw [←hb0]at qa qb TY LL TZ;have AaD:=Ao4 LL;have HSD:=Ao4 TZ;have hk0:(0:Int)<=(k:Int):=(by omega);have DX:(k:Int)<(pg.length:Int):=(by omega);have AfX:(0:Int)<=(q:Int):=(by omega);have AfY:(q:Int)<(pg.length:Int):=(by omega);have hm0:(0:Int)<(pg.length:Int):=(by omega);clear ha0 hb0 hq LL TZ;have hpn:pg≠[]:=fun e=>(by rw [e]at hkn;simp at hkn);have Av:=Ao6 wr (.cells #[S (R a0.x),S (R a0.y)] 24);have EA:=(Ab.refl wr).alloc (.cells #[S (R a0.x),S (R a0.y)] 24)
       go_upto_region 16 with fail
       unfold S at Av EA;generalize wr.alloc (.cells #[.string ⟨(R a0.x).toArray⟩,.string ⟨(R a0.y).toArray⟩] 24)=VA at *;obtain⟨ba,Ni⟩:=Ao3 wr.heap.size;rw [←Ni]at Av ⊢;have Anv:w.heap.size<=ba:=(by have:=Wx.size;omega);clear Ni;replace qa:=EA.cellS qa;replace qb:=EA.cellS qb;have yp:=EA.cellS (Aa (o:=0) yA rfl);have X:=Ab.refl VA;have SO:=fun (w':World) (h:Ab VA w')=>(⟨h.cellS yp,h.cellS qa,h.cellS qb⟩:_/\_/\_);clear y0 ka kb
       go_cut [11] (fun v11 wx=>∃bb,v11=.pointer (some ⟨bb,0,none⟩)/\wx.heap[bb]?=some (.cells #[S (R b0.x),S (R b0.y)] 24)/\Ab VA wx)
       case first=>
        go_region_held3 (fun w'=>w'.cell? ⟨bp,0,none⟩=some (.slice (some ⟨b,o,none⟩) pg.length c')/\w'.cell? ⟨b,o+q*2,none⟩=some (S (R b0.x))/\w'.cell? ⟨b,o+q*2+1,none⟩=some (S (R b0.y)))
         ((refine SO _ ?_;repeat (first|exact X|(with_reducible refine Ab.drew ?_)|(with_reducible refine Ab.alloc ?_ _)|(with_reducible refine Ab.setCell ?_ (by simp) _))))
         (fail)
        all_goals go_wp2
        all_goals go_meet
        all_goals exact⟨_,rfl,by unfold S;exact Ao6 VA _,(X.alloc _).drew⟩
       case rest=>
        obtain⟨bb,rfl,Br,Ah⟩:=hcut;obtain⟨W9,rfl⟩:=XK Ah;have I8:Ab w W9:=Wx.trans (EA.trans Ah)
        have WB:=Ah.block _ (Ao5 Av) |>.trans Av
        have dx:Af W9 A6 (flat (Aq C)):=by
         refine⟨fun h0=>?_⟩;obtain⟨g0,o0,e0,hc0⟩:=hr7.ad h0;refine⟨g0,o0,e0,fun z hz=>?_⟩;have h7:=hc0 z hz;refine(EA.trans Ah).cellS ?_
         exact(World.cell?_of_block (a:=⟨g0,o0+z,none⟩) (aN.block g0 (World.block_lt_of_cell? W7 _ h7) (fun e=>by
          subst e;rw [World.cell?]at h7
          simp [AW]at h7))).trans h7
        have Gs:EO W9 bm (BR P j++FO pg k j):=MW.ext (EA.trans Ah);have PS:=(VZ.ext EA).ext Ah;have hw9:=hw.ext I8;clear SO X qa qb yp Av Ah EA MW yA
        go_upto_region 19 with fail
        go_loopw [12,59] (fun ov qv wx=>∃(z:Nat) (l:List Pt),qv=.int .i64 (z:Nat)/\z<=C.length/\l=(C.take z).filter (fun p=>FM a0 b0 p)/\wx.ownsRow W9.heap.size 24 2 ov l.length (flat (Aq l))/\Ab W9 wx) (fun _ qv _=>C.length-(intOf qv).toNat)
        case atStart=>exact⟨0,[],rfl,by omega,by simp,⟨rfl,.inl ⟨rfl,rfl⟩⟩,Ab.refl _⟩
        case round=>
         obtain⟨z,l,rfl,hz,hl,hown,Ac⟩:=hrel;obtain⟨vL,wm,rfl⟩:=LY (by omega) hown;by_cases N5:z<C.length
         ·obtain⟨b2,o2,rfl,ca,cb⟩:=Co (dx.ext Ac) N5;have Bp:=NR.out _ (Ao8 N5)
          have IF:(C.take (z+1)).filter (fun p=>FM a0 b0 p)=l++(if FM a0 b0 C[z]=true then [C[z]] else []):=by
           rw [AoA N5,List.filter_append,←hl]
           congr 1
           simp [List.filter_cons]
          obtain⟨q0,AY⟩:=Ao3 (C[z]);rw [←AY]at ca cb Bp IF;have hz0:(0:Int)<=(z:Int):=(by omega);have hz1:(z:Int)<(C.length:Int):=(by omega);have EH:l.length<200000:=(by rw [hl];have:=List.length_filter_le (fun p=>FM a0 b0 p) (C.take z);rw [List.length_take]at this;omega);have D5:=Ao6 wr (.cells #[S (R q0.x),S (R q0.y)] 24);have EQ:=(Ab.refl wr).alloc (.cells #[S (R q0.x),S (R q0.y)] 24);have pc:=fun (V:World) (h:Ab w V)=>kS a0 b0 q0 gC TY Bp (by omega) (by omega) V (hw.ext h);obtain⟨bt,Gu⟩:=Ao3 (FM a0 b0 q0);rw [←Gu]at pc IF;have M6:=Ao4 IF;clear AY IF Gu hl
          go_upto_region 21 with fail
          unfold S at D5 EQ Br ca cb;generalize wr.alloc (.cells #[.string ⟨(R q0.x).toArray⟩,.string ⟨(R q0.y).toArray⟩] 24)=V2 at *;have CW:=Ac.trans EQ;have x0:=CW.cellS (Aa (o:=0) WB rfl);have x1:=CW.cellS (Aa (o:=1) WB rfl);have x2:=CW.cellS (Aa (o:=0) Br rfl);have x3:=CW.cellS (Aa (o:=1) Br rfl);have x4:=Aa (o:=0) D5 rfl;have x5:=Aa (o:=1) D5 rfl;have p2:=pc V2 (I8.trans CW);unfold Ak S at p2;clear pc ca cb;(go_wp2_with fail);(with_reducible refine p2.mono ?_);rintro e w3 ⟨rfl,hx3⟩;have x6:=hx3.cellS x4;have x7:=hx3.cellS x5;have Xp:W9.heap.size<=w3.heap.size:=(CW.trans hx3).size;clear p2 x0 x1 x2 x3 x4 x5
          cases bt
          ·have Amq:=Ao4 M6.out;go_wp2;go_roundw
           case rel=>exact⟨z+1,l,by go_num,N5,by rw [M6.out];simp,AL hown (EQ.trans hx3),CW.trans hx3⟩
           case measure=>simp [intOf];omega
          ·have Er:=AL hown (EQ.trans hx3)
           go_wp2_with (at_builtin;go_loud (refine Ab9 rfl _ _ rfl _ W9.heap.size (.slice vL l.length wm) l.length l rfl (AL Er ((Ab.refl w3).alloc _)) EH q0 w3.heap.size (Ao6 w3 _) rfl (by simp;omega) ?_);intro v8 w8 hown8 AX)
           go_roundw
           case rel=>exact⟨z+1,l ++ [q0],by go_num,N5,by rw [M6.out];simp,by rw [List.length_append];exact hown8,AX W9 ((CW.trans hx3).alloc _) (Ao7 _)⟩
           case measure=>simp [intOf];omega
         ·have jc:z=C.length:=by omega
          have eT:l=Sx ⟨a0,b0⟩:=by rw [hl,jc,List.take_length];have h2:=AaD.out;rw [←HC.out]at h2;exact h2
          subst jc;have hl2:l.length=2:=by rw [eT];unfold Sx;split<;>rfl
          obtain⟨g,cap,iC⟩:∃g cap,Value.slice vL l.length wm=.slice (some ⟨g,0,none⟩) 2 cap:=by
           rcases hown.2 with⟨_,h'⟩|⟨g,cap,cur,hv,_⟩
           ·omega
           ·exact⟨g,cap,by rw [hv,hl2]⟩
          rw [iC,hl2,eT]at hown;simp only [Value.slice.injEq]at iC;obtain⟨gY,-,hv2⟩:=iC;subst gY hv2;rw [hl2];have cp:=fun (V:World) (h:Ab w V)=>IM a0 b0 gC TY (by omega) (by omega) V (hw.ext h);obtain⟨r,hr⟩:=Ao3 (Bq a0 b0);rw [←hr]at cp;unfold Sx at hown;simp only [←hr]at hown;unfold S at Br;have x0:=Ac.cellS (Aa (o:=0) WB rfl);have x1:=Ac.cellS (Aa (o:=1) WB rfl);have x2:=Ac.cellS (Aa (o:=0) Br rfl);have x3:=Ac.cellS (Aa (o:=1) Br rfl);have p2:=cp wr (I8.trans Ac);unfold Ak S at p2;clear cp hr eT hl hl2
          go_upto_region 24 with fail
          (go_wp2_with fail);(with_reducible refine p2.mono ?_);rintro e w3 ⟨rfl,hx3⟩;have Er:=AL hown hx3;clear p2 x0 x1 x2 x3 hown;by_cases Cl:0<r
          case' pos=>rw [if_pos Cl]at Er;have rv:=AjV b0 a0 g _ W9.heap.size w3 Er;have AfU:r>0:=Cl;(go_wp2_with fail);(with_reducible refine rv.mono ?_);rintro e w4 ⟨rfl,Du,hg4⟩;have Ag:=(Ac.trans hx3).grownOwn hg4 Er (Ao7 _);clear hg4 rv Er
          case' neg=>rw [if_neg Cl]at Er;have AfU:¬r>0:=Cl;obtain⟨w4,rfl⟩:=Ao3 w3;have Du:=Er;have Ag:=Ac.trans hx3;clear Er
          all_goals (
           have I7:Ab w w4:=I8.trans Ag;have f0:=Du.cellAt 0 (by omega);have f1:=Du.cellAt 1 (by omega);have f2:=Du.cellAt 2 (by omega);have f3:=Du.cellAt 3 (by omega);simp only [Aq,Ma,flat,List.map_cons,List.map_nil,List.flatMap_cons,List.flatMap_nil,List.append_nil,List.cons_append,List.nil_append,List.getElem?_cons_zero,List.getElem?_cons_succ]at f0 f1 f2 f3;have SO:=fun (w':World) (h:Ab w4 w')=>(⟨h.cellS f0,h.cellS f1,h.cellS f2,h.cellS f3⟩:_/\_/\_/\_);have X:=Ab.refl w4;have Lo:EO w4 bm (BR P j++FO pg k j):=Gs.ext Ag;obtain⟨Wp,hput,Kb,Nm,-⟩:=ko (Lo.ext X.drew) (G7 pg k) (Aaq.out k hkn) (j:Int)
           have Dt:∃cs t,w4.heap[g]?=some (.cells cs t (0,0)):=by
            rcases Du.2 with⟨h',_⟩|⟨g',cap',cur,hv,_,hgb,_⟩
            ·omega
            ·simp only [Value.slice.injEq,AoB,Addr.mk.injEq]at hv;obtain⟨⟨rfl,-⟩,-⟩:=hv;exact⟨_,_,hgb⟩
           obtain⟨cg,tg,Dt⟩:=Dt
           have eL:some g≠some bm:=by
            intro e
            cases e;have h4:=Lo;unfold EO at h4;rw [h4]at Dt
            cases Dt
           have KP:=fun (o:Nat) (v:Value) (h:w4.cell? ⟨g,o,none⟩=some v)=>(World.cell?_of_block (a:=⟨g,o,none⟩) (Nm.block g (Ao5 Dt) eL)).trans h;have SP:=And.intro (KP _ _ f0) (And.intro (KP _ _ f1) (And.intro (KP _ _ f2) (KP _ _ f3)));have h11:IntKind.i64.wrap (0:Int)=0:=(by decide);have h02:(0:Int)<2:=(by omega);have aT:=((PS.ext Ag).ext X.drew).grown Nm (fun q e=>by cases e;exact .inl rfl);rw [HSD.out]at hput;unfold AC S at hput;have R7:=Ao4 Kb;clear Kb Nm Lo Du Ac hx3 f0 f1 f2 f3 Dt eL KP
           go_upto_region 27 with fail
           go_loopw [15] (fun v wx=>(v=.int .i64 1/\wx=w4)∨(v=.int .i64 2/\wx=Wp)) (fun v _=>2-(intOf v).toNat)
           case atStart=>exact .inl ⟨rfl,rfl⟩
           case round=>
            rcases hrel with⟨rfl,rfl⟩|⟨rfl,rfl⟩
            ·go_upto_region 29 with fail
             go_region_held3 (fun w'=>w'.cell? ⟨g,0,none⟩=some (S (R a0.x))/\w'.cell? ⟨g,1,none⟩=some (S (R a0.y))/\w'.cell? ⟨g,2,none⟩=some (S (R b0.x))/\w'.cell? ⟨g,3,none⟩=some (S (R b0.y)))
              (first|with_reducible exact SO _ X|with_reducible exact SO _ X.drew|with_reducible exact SP)
              (fail)
             all_goals go_wp2
             all_goals go_roundw
             case rel=>exact .inr ⟨rfl,trivial⟩
             case measure=>simp [intOf]
            ·go_wp2;go_roundw
             case rel=>exact⟨k+1,by go_num,hkn,by rw [lN,←List.append_assoc];exact R7.out,aT⟩
             case measure=>simp [intOf];omega)
      ·have CO:k=pg.length:=(by omega);subst CO;rw [←IY.out]at MW;have YS:=Ao4 MW;clear MW VX VZ;go_wp2;go_roundw
       case rel=>exact⟨j+1,by go_num,hjn,YS.out,aN⟩
       case measure=>simp [intOf];omega
    ·have Kj:j=i:=(by omega);subst Kj;have CC:EO wr bm (BR P j):=hM;go_wp2;go_ret;exact⟨bm,rfl,CC,hle,Cd⟩
end Go.Proofs.YtnddllipjippnaaGreatDoor
