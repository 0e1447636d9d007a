/- I35: ShBL ShKK2 ShQGB ShGH1. -/
import Derived.Test.YtnddllipjippnaaGreatDoorI33
import Derived.Test.YtnddllipjippnaaGreatDoorI34
set_option maxRecDepth 100000
set_option maxHeartbeats 16000000
namespace Go.Proofs.YtnddllipjippnaaGreatDoor
open Go.RowKit Kl
def GV(p:List Pt)(k:Nat):Sg:=⟨p.getD k ⟨0,0⟩,p.getD ((k+1)%p.length) ⟨0,0⟩⟩
def Gb(p:List Pt)(k:Nat)(i:Nat):List (Sg×Int):=(List.range k).map fun j=>(GV p j,(i:Int))
def BU(P:List (List Pt×Bs))(n:Nat):List (Sg×Int):=(List.range n).flatMap fun i=>Gb (P.getD i ([],[])).1 (P.getD i ([],[])).1.length i
theorem qC(p:List Pt)(k i:Nat):Gb p (k+1) i=Gb p k i ++ [(GV p k,(i:Int))]:=by simp [Gb,List.range_succ]
theorem AbW{P:List (List Pt×Bs)}{n:Nat}(h:n<P.length):BU P (n+1)=BU P n++Gb P[n].1 P[n].1.length n:=by
 unfold BU;rw [List.range_succ,List.flatMap_append];simp [List.getD_eq_getElem?_getD,As5 h]
def TK(s:Sg):List Pt:=if 0<AY s.a s.b then [s.b,s.a] else [s.a,s.b]
structure tZ(P:List (List Pt×Bs)):Prop where
 len:P.length<=1000
 pc:∀e∈P,0<e.1.length/\e.1.length<=60
 sz:∀e∈P,∀p∈e.1,Aw 1 p
 two:∀e∈P,∀k,k<e.1.length→(TD P).filter (fun q=>FY (GV e.1 k).a (GV e.1 k).b q)=TK (GV e.1 k)
 nd:((BU P P.length).map (·.1)).Nodup
theorem AbV(P:List (List Pt×Bs))(m:Nat):∀d,∃r,BU P (m+d)=BU P m++r
 | 0=>⟨[],by simp⟩
 | d+1=>by
  obtain⟨r,hr⟩:=AbV P m d;refine⟨r++Gb (P.getD (m+d) ([],[])).1 (P.getD (m+d) ([],[])).1.length (m+d),?_⟩
  have e:BU P (m+(d+1))=BU P (m+d)++Gb (P.getD (m+d) ([],[])).1 (P.getD (m+d) ([],[])).1.length (m+d):=by unfold BU;rw [←Nat.add_assoc,List.range_succ,List.flatMap_append];simp
  rw [e,hr,List.append_assoc]
theorem AbX(p:List Pt)(k i:Nat):∀d,∃r,Gb p (k+d) i=Gb p k i++r
 | 0=>⟨[],by simp⟩
 | d+1=>by obtain⟨r,hr⟩:=AbX p k i d;exact⟨r ++ [(GV p (k+d),(i:Int))],by rw [←Nat.add_assoc,qC,hr,List.append_assoc]⟩
theorem Ao8{P:List (List Pt×Bs)}(CN:((BU P P.length).map (·.1)).Nodup){j k:Nat}(hj:j<P.length)(hk:k<P[j].1.length):∀e∈BU P j++Gb P[j].1 k j,AU (GV P[j].1 k) e.1=false:=by
 obtain⟨r1,h1⟩:=AbV P (j+1) (P.length-(j+1));rw [show j+1+(P.length-(j+1))=P.length by omega,AbW hj]at h1;obtain⟨r2,h2⟩:=AbX P[j].1 (k+1) j (P[j].1.length-(k+1));rw [show k+1+(P[j].1.length-(k+1))=P[j].1.length by omega,qC]at h2;rw [h1,h2]at CN;intro e he;refine AbI fun hh=>?_;have e0:BU P j++(Gb P[j].1 k j ++ [(GV P[j].1 k,(j:Int))]++r2)++r1=(BU P j++Gb P[j].1 k j)++((GV P[j].1 k,(j:Int))::(r2++r1)):=(by simp);rw [e0,List.map_append,List.map_cons,List.nodup_append]at CN;exact CN.2.2 _ (List.mem_map_of_mem he) _ List.mem_cons_self hh.symm
theorem Ao5{p:List Pt}{k q:Nat}(hk:k<p.length)(hq:q=(k+1)%p.length)(Bp:q<p.length):GV p k=⟨p[k],p[q]⟩:=by
 unfold GV;rw [←hq];simp [List.getD_eq_getElem?_getD,As5 hk,As5 Bp]
def AeJ(w:World)(L:List (Sg×Int))(e:Ending)(w':World):Prop:=
 ∃b,e=.returned (.map (some b))/\Fp w' b L/\w.heap.size<=b/\Ab w w'
theorem Anm(P:List (List Pt×Bs))(hP:tZ P)(A:Option Addr)(c:Nat)(w:World)(hw:Aj w)(h:IS w A c P) :
  Calls Tryz.prog 81 #[.slice A P.length c] w (AeJ w (BU P P.length)):=by
 have hmm:=@run_makeMap Tryz.prog;obtain⟨n,hn⟩:=Asw P.length;rw [←hn];have HN:=Asx hn;have hlen:n<=1000:=(by rw [hn];exact hP.len);have HP:=Asx hP;have HA:=Asx h;have hc1:n<=c:=(by rw [hn];exact h.c1);clear hn hP h;go_enter Tryz.func81,Tryz.ntmps81
 go_upto_region 3 with fail
 go_loopw [3,18] (fun ov iv wr=>∃i:Nat,iv=.int .i64 (i:Nat)/\i<=n/\wr.ownsRow w.heap.size 24 2 ov (DT P i).length (flat (Ag (DT P i)))/\Ab w wr) (fun _ iv _=>n-(intOf iv).toNat)
 case atStart=>exact⟨0,rfl,by omega,⟨rfl,.inl ⟨rfl,rfl⟩⟩,Ab.refl _⟩
 case round=>
  obtain⟨i,rfl,hi,hown,Ae⟩:=hrel;obtain⟨vA,vc,rfl⟩:=Fb (by omega) hown;by_cases hin:i<n
  ·have Jj:i<P.length:=(by rw [←HN.out];exact hin);obtain⟨bA,oA,A',c',rfl,Bd,Bl,Bp,Bi,hr1,hr2⟩:=HA.out.row i Jj;have GP:=HP.out.pc _ (As1 Jj);have mM:=xG Jj;have DK:=dY (fun e he=>(HP.out.pc e he).2) i (by omega);obtain⟨pg,Ec⟩:=Asw (P[i].1);obtain⟨un,AG⟩:=Asw (P[i].2);rw [←Ec]at Bd Bi hr1 GP mM;rw [←AG]at Bl;replace Bd:=Ae.cellS Bd;replace Bl:=Ae.cellS Bl;replace Bp:=Ae.cellS Bp;replace Bi:=Bi.ext Ae;have EW:(0:Int)<=(i:Int):=(by omega);have Ji:(i:Int)<(n:Int):=(by omega);have E4:=(Ab.refl wr).alloc (.cells #[.slice A' pg.length c',S un,.slice none 0 0] 84);have Ax:=Asz wr (.cells #[.slice A' pg.length c',S un,.slice none 0 0] 84);have pq:(DT P i).length<200000:=(by omega);have tG:=Asx mM;obtain⟨cl,hcl⟩:=Asw (DT P i);rw [←hcl]at hown pq tG ⊢;have HCL:=Asx hcl;clear mM DK Ec AG hcl
   go_upto_region 5 with fail
   unfold S at Ax E4;generalize wr.alloc (.cells #[.slice A' pg.length c',.string ⟨un.toArray⟩,.slice none 0 0] 84)=W4 at *;have y0:=Aa (o:=0) Ax rfl;have UZ:wr.heap.size<=W4.heap.size:=E4.size;have hs0:=Ae.size;clear Bd Bl Bp
   go_wp2_with (at_builtin;go_loud (refine Afl rfl _ _ rfl _ w.heap.size (.slice vA cl.length vc) cl.length cl rfl (An hown E4) pq pg A' c' rfl (Bi.ext E4) GP.1 (by omega) (by omega) ?_);intro v7 w7 CU GK)
   go_roundw
   case rel=>exact⟨i+1,by go_num,hin,by rw [tG.out,List.length_append];exact CU,GK w (Ae.trans E4) (As0 _)⟩
   case measure=>simp [intOf];omega
  ·have Mp:i=n:=(by omega);subst Mp;have hsz:=HP.out.sz;have Ajs:=dY (fun e he=>(HP.out.pc e he).2) i (by have:=HN.out;omega)
   have D5:=Acd hw Ae (As0 _) (DT P i) (fun s hs=>by
    obtain⟨e,he,hq⟩:=Aag hs
    exact hsz e he s hq) (by omega) hown
   obtain⟨C,hC⟩:=Asw (TD P);have XH:Lib.compact (FK (DT P i))=C:=by rw [hC];unfold TD;rw [←HN.out]
   have zY:C.length<=60000:=by rw [←XH];refine AsA (Agv _) ?_;rw [(Lv _).length_eq];omega
   have aa:∀q∈C,Aw 1 q:=fun q hq=>by rw [←XH]at hq;obtain⟨e,he,hq⟩:=Aag ((Lv _).mem_iff.1 (mem_compact hq));exact hsz e he q hq
   have cc:=fun (w5:World) (h:w5.ownsRow w.heap.size 24 2 (.slice vA (DT P i).length vc) (DT P i).length (FX (FK (DT P i))))=>Agu (FK (DT P i)) (.slice vA (DT P i).length vc) w5 w.heap.size (by rw [(Lv _).length_eq];exact h)
   rw [XH]at cc;have HC:=Asx hC;have OC:=Asx aa;clear hsz XH hC aa;obtain⟨m0,hm0⟩:=Asw ((DT P i).length);rw [←hm0]at hown D5 cc Ajs ⊢;clear hm0;(go_wp2_with fail);(with_reducible refine D5.mono ?_);rintro e w5 ⟨rfl,hg5,ho5⟩;have As:Ab w w5:=Ae.grownOwn hg5 hown (As0 _);have c5:=cc w5 ho5;clear cc D5 hg5 hown;(go_wp2_with fail);(with_reducible refine c5.mono ?_);rintro e w6 ⟨A6,k6,rfl,hr6,h61,h62,QM⟩;have AX:Ab w w6:=QM w As (As0 _);clear QM c5 ho5 As Ae;have AB:=Asz w6 (.map #[] 0);have E7:=(Ab.refl w6).alloc (.map #[] 0)
   go_upto_region 11 with fail
   generalize w6.alloc (.map #[] 0)=W7 at *;obtain⟨bm,jl⟩:=Asw w6.heap.size;rw [←jl]at AB ⊢;have hle:w.heap.size<=bm:=(by have:=AX.size;omega);have Cl:=AX.trans E7;have hr7:=hr6.ext E7;clear jl hr6 E7 AX;have fV:Fp W7 bm (BU P 0):=AB
   go_loopw [34] (fun iv wr=>∃j:Nat,iv=.int .i64 (j:Nat)/\j<=i/\Fp wr bm (BU P j)/\Ak (fun q=>q=bm) W7 wr) (fun iv _=>i-(intOf iv).toNat)
   case atStart=>exact⟨0,rfl,by omega,fV,Ak.refl _ _⟩
   case round=>
    obtain⟨j,rfl,hj,hM,hB⟩:=hrel;have BG:Ab w wr:=hB.toExt Cl (fun q e=>by subst e;exact hle);by_cases hjn:j<i
    ·have Jk:j<P.length:=(by rw [←HN.out];exact hjn);obtain⟨bA,oA,A',c',rfl,Bd,Bl,Bp,Bi,hr1,hr2⟩:=HA.out.row j Jk;have GP:=HP.out.pc _ (As1 Jk);have IA:=HP.out.sz _ (As1 Jk);have M1:=HP.out.two _ (As1 Jk);have CV:=AbW Jk;have hnew:=fun k (hk:k<P[j].1.length)=>Ao8 HP.out.nd Jk hk;obtain⟨pg,Ec⟩:=Asw (P[j].1);obtain⟨un,AG⟩:=Asw (P[j].2);rw [←Ec]at Bd Bi hr1 GP IA M1 CV hnew;rw [←AG]at Bl;replace Bd:=BG.cellS Bd;replace Bl:=BG.cellS Bl;replace Bp:=BG.cellS Bp;have EW:(0:Int)<=(j:Int):=(by omega);have Ji:(j:Int)<(i:Int):=(by omega);have E8:=(Ab.refl wr).alloc (.cells #[.slice A' pg.length c',S un,.slice none 0 0] 84);have Ap:=Asz wr (.cells #[.slice A' pg.length c',S un,.slice none 0 0] 84);have SU:=Asx hnew;have SX:=Asx IA;have HTW:=Asx M1;have J3:=Asx CV;clear Ec AG IA M1 CV hnew
     go_upto_region 13 with fail
     unfold S at Ap E8;generalize wr.alloc (.cells #[.slice A' pg.length c',.string ⟨un.toArray⟩,.slice none 0 0] 84)=W8 at *;obtain⟨bp,jH⟩:=Asw wr.heap.size;rw [←jH]at Ap ⊢;have AqE:bm<bp:=(by rw [jH];exact Asy hM);have y0:=Aa (o:=0) Ap rfl
     have Uf:Fp W8 bm (BU P j++Gb pg 0 j):=by have e:Gb pg 0 j = []:=rfl;rw [e,List.append_nil];exact hM.ext E8
     have Fu:=hB.ext E8;clear jH Bd Bl Bp hM hB E8 BG
     go_upto_region 14 with fail
     go_loopw [42] (fun kv wk=>∃k:Nat,kv=.int .i64 (k:Nat)/\k<=pg.length/\Fp wk bm (BU P j++Gb pg k j)/\Ak (fun q=>q=bm) W8 wk) (fun kv _=>pg.length-(intOf kv).toNat)
     case atStart=>exact⟨0,rfl,by omega,Uf,Ak.refl _ _⟩
     case round=>
      obtain⟨k,rfl,hk,NA,LU⟩:=hrel;have eY:=Fu.trans LU;have QU:Ab w wr:=eY.toExt Cl (fun q e=>by subst e;exact hle);have jq:=LU.cells Ap (by omega);by_cases hkn:k<pg.length
      ·obtain⟨q,hq⟩:=Asw ((k+1)%pg.length);have Gx:q<pg.length:=by rw [hq];exact Nat.mod_lt _ (by omega)
       have I8:(((k:Int)+1)).tmod (pg.length:Int)=(q:Int):=by rw [Int.tmod_eq_emod_of_nonneg (by omega),hq,Int.natCast_emod];rfl
       have kR:(((k:Int)+1))%(pg.length:Int)=(q:Int):=(by rw [hq,Int.natCast_emod];rfl);have Rv:¬((pg.length:Int)=0):=(by omega);have lC:¬(pg.length=0):=(by omega);have qj:((pg.length:Int) == 0)=false:=beq_false_of_ne Rv;have lU:IntKind.wrap .i64 (q:Int)=(q:Int):=As6 _ (by omega);have NV:IntKind.wrap .i64 ((k:Int)+1)=(k:Int)+1:=As6 _ (by omega);obtain⟨b,o,rfl,ka,kb⟩:=BN (Bi.ext QU) hkn;obtain⟨b',o',he,qa,qb⟩:=BN (Bi.ext QU) Gx;simp only [As4,Addr.mk.injEq,and_true]at he;obtain⟨rfl,rfl⟩:=he;have Og:=SX.out _ (As1 hkn);have Mz:=SX.out _ (As1 Gx);have Ve:=Ao5 hkn hq Gx;have M1:=HTW.out k hkn;rw [Ve]at M1;obtain⟨a0,ha0⟩:=Asw (pg[k]);obtain⟨b0,hb0⟩:=Asw (pg[q]);rw [←ha0]at ka kb Og M1 Ve;rw [←hb0]at qa qb Mz M1 Ve;have Aep:=Asx M1;have HSD:=Asx Ve;have hk0:(0:Int)<=(k:Int):=(by omega);have D3:(k:Int)<(pg.length:Int):=(by omega);have rk:(0:Int)<=(q:Int):=(by omega);have rp:(q:Int)<(pg.length:Int):=(by omega);have hm0:(0:Int)<(pg.length:Int):=(by omega);clear ha0 hb0 hq M1 Ve;have hpn:pg≠[]:=fun e=>(by rw [e]at hkn;simp at hkn);have Au:=Asz wr (.cells #[S (R a0.x),S (R a0.y)] 24);have EA:=(Ab.refl wr).alloc (.cells #[S (R a0.x),S (R a0.y)] 24)
       go_upto_region 16 with fail
       unfold S at Au EA;generalize wr.alloc (.cells #[.string ⟨(R a0.x).toArray⟩,.string ⟨(R a0.y).toArray⟩] 24)=VA at *;obtain⟨ba,NK⟩:=Asw wr.heap.size;rw [←NK]at Au ⊢;have Arl:w.heap.size<=ba:=(by have:=QU.size;omega);clear NK;replace qa:=EA.cellS qa;replace qb:=EA.cellS qb;have yp:=EA.cellS (Aa (o:=0) jq rfl);have X:=Ab.refl VA;have SO:=fun (w':World) (h:Ab VA w')=>(⟨h.cellS yp,h.cellS qa,h.cellS qb⟩:_/\_/\_);clear y0 ka kb
       go_cut [11] (fun v11 wx=>∃bb,v11=.pointer (some ⟨bb,0,none⟩)/\wx.heap[bb]?=some (.cells #[S (R b0.x),S (R b0.y)] 24)/\Ab VA wx)
       case first=>
        go_region_held3 (fun w'=>w'.cell? ⟨bp,0,none⟩=some (.slice (some ⟨b,o,none⟩) pg.length c')/\w'.cell? ⟨b,o+q*2,none⟩=some (S (R b0.x))/\w'.cell? ⟨b,o+q*2+1,none⟩=some (S (R b0.y)))
         ((refine SO _ ?_;repeat (first|exact X|(with_reducible refine Ab.drew ?_)|(with_reducible refine Ab.alloc ?_ _)|(with_reducible refine Ab.setCell ?_ (by simp) _))))
         (fail)
        all_goals go_wp2
        all_goals go_meet
        all_goals exact⟨_,rfl,by unfold S;exact Asz VA _,(X.alloc _).drew⟩
       case rest=>
        obtain⟨bb,rfl,AZ,Df⟩:=hcut;obtain⟨W9,rfl⟩:=Li Df;have Fz:Ab w W9:=QU.trans (EA.trans Df)
        have Yf:=Df.block _ (Asy Au) |>.trans Au
        have hr9:Ad W9 A6 (flat (Ag C)):=by
         refine⟨fun h0=>?_⟩;obtain⟨g0,o0,e0,hc0⟩:=hr7.ad h0;refine⟨g0,o0,e0,fun z hz=>?_⟩;have h7:=hc0 z hz;refine(EA.trans Df).cellS ?_
         exact(World.cell?_of_block (a:=⟨g0,o0+z,none⟩) (eY.block g0 (World.block_lt_of_cell? W7 _ h7) (fun e=>by
          subst e;rw [World.cell?]at h7
          simp [AB]at h7))).trans h7
        have DG:Fp W9 bm (BU P j++Gb pg k j):=NA.ext (EA.trans Df);have Gq:=(LU.ext EA).ext Df;have hw9:=hw.ext Fz;clear SO X qa qb yp Au Df EA NA jq
        go_upto_region 19 with fail
        go_loopw [12,59] (fun ov qv wx=>∃(z:Nat) (l:List Pt),qv=.int .i64 (z:Nat)/\z<=C.length/\l=(C.take z).filter (fun p=>FY a0 b0 p)/\wx.ownsRow W9.heap.size 24 2 ov l.length (flat (Ag l))/\Ab W9 wx) (fun _ qv _=>C.length-(intOf qv).toNat)
        case atStart=>exact⟨0,[],rfl,by omega,by simp,⟨rfl,.inl ⟨rfl,rfl⟩⟩,Ab.refl _⟩
        case round=>
         obtain⟨z,l,rfl,hz,hl,hown,Ae⟩:=hrel;obtain⟨vL,vLc,rfl⟩:=Fb (by omega) hown;by_cases Js:z<C.length
         ·obtain⟨b2,o2,rfl,ca,cb⟩:=BN (hr9.ext Ae) Js;have Ee:=OC.out _ (As1 Js)
          have EY:(C.take (z+1)).filter (fun p=>FY a0 b0 p)=l++(if FY a0 b0 C[z]=true then [C[z]] else []):=by
           rw [As3 Js,List.filter_append,←hl]
           congr 1
           simp [List.filter_cons]
          obtain⟨q0,Bd⟩:=Asw (C[z]);rw [←Bd]at ca cb Ee EY;have hz0:(0:Int)<=(z:Int):=(by omega);have hz1:(z:Int)<(C.length:Int):=(by omega);have DK:l.length<200000:=(by rw [hl];have:=List.length_filter_le (fun p=>FY a0 b0 p) (C.take z);rw [List.length_take]at this;omega);have BH:=Asz wr (.cells #[S (R q0.x),S (R q0.y)] 24);have EQ:=(Ab.refl wr).alloc (.cells #[S (R q0.x),S (R q0.y)] 24);have pc:=fun (V:World) (h:Ab w V)=>pI a0 b0 q0 Og Mz Ee (by omega) (by omega) V (hw.ext h);obtain⟨bt,En⟩:=Asw (FY a0 b0 q0);rw [←En]at pc EY;have G4:=Asx EY;clear Bd EY En hl
          go_upto_region 21 with fail
          unfold S at BH EQ AZ ca cb;generalize wr.alloc (.cells #[.string ⟨(R q0.x).toArray⟩,.string ⟨(R q0.y).toArray⟩] 24)=V2 at *;have BR:=Ae.trans EQ;have x0:=BR.cellS (Aa (o:=0) Yf rfl);have x1:=BR.cellS (Aa (o:=1) Yf rfl);have x2:=BR.cellS (Aa (o:=0) AZ rfl);have x3:=BR.cellS (Aa (o:=1) AZ rfl);have x4:=Aa (o:=0) BH rfl;have x5:=Aa (o:=1) BH rfl;have p2:=pc V2 (Fz.trans BR);unfold Af S at p2;clear pc ca cb;(go_wp2_with fail);(with_reducible refine p2.mono ?_);rintro e w3 ⟨rfl,hx3⟩;have x6:=hx3.cellS x4;have x7:=hx3.cellS x5;have Ar6:W9.heap.size<=w3.heap.size:=(BR.trans hx3).size;clear p2 x0 x1 x2 x3 x4 x5
          cases bt
          ·have ApP:=Asx G4.out;go_wp2;go_roundw
           case rel=>exact⟨z+1,l,by go_num,Js,by rw [G4.out];simp,An hown (EQ.trans hx3),BR.trans hx3⟩
           case measure=>simp [intOf];omega
          ·have Ep:=An hown (EQ.trans hx3)
           go_wp2_with (at_builtin;go_loud (refine Afj rfl _ _ rfl _ W9.heap.size (.slice vL l.length vLc) l.length l rfl (An Ep ((Ab.refl w3).alloc _)) DK q0 w3.heap.size (Asz w3 _) rfl (by simp;omega) ?_);intro v8 w8 Mw Be)
           go_roundw
           case rel=>exact⟨z+1,l ++ [q0],by go_num,Js,by rw [G4.out];simp,by rw [List.length_append];exact Mw,Be W9 ((BR.trans hx3).alloc _) (As0 _)⟩
           case measure=>simp [intOf];omega
         ·have wu:z=C.length:=by omega
          have kS:l=TK ⟨a0,b0⟩:=by rw [hl,wu,List.take_length];have h2:=Aep.out;rw [←HC.out]at h2;exact h2
          subst wu;have hl2:l.length=2:=by rw [kS];unfold TK;split<;>rfl
          obtain⟨g,cap,mN⟩:∃g cap,Value.slice vL l.length vLc=.slice (some ⟨g,0,none⟩) 2 cap:=by
           rcases hown.2 with⟨_,h'⟩|⟨g,cap,cur,hv,_⟩
           ·omega
           ·exact⟨g,cap,by rw [hv,hl2]⟩
          rw [mN,hl2,kS]at hown;simp only [Value.slice.injEq]at mN;obtain⟨Vi,-,hv2⟩:=mN;subst Vi hv2;rw [hl2];have cp:=fun (V:World) (h:Ab w V)=>Ju a0 b0 Og Mz (by omega) (by omega) V (hw.ext h);obtain⟨r,hr⟩:=Asw (AY a0 b0);rw [←hr]at cp;unfold TK at hown;simp only [←hr]at hown;unfold S at AZ;have x0:=Ae.cellS (Aa (o:=0) Yf rfl);have x1:=Ae.cellS (Aa (o:=1) Yf rfl);have x2:=Ae.cellS (Aa (o:=0) AZ rfl);have x3:=Ae.cellS (Aa (o:=1) AZ rfl);have p2:=cp wr (Fz.trans Ae);unfold Af S at p2;clear cp hr kS hl hl2
          go_upto_region 24 with fail
          (go_wp2_with fail);(with_reducible refine p2.mono ?_);rintro e w3 ⟨rfl,hx3⟩;have Ep:=An hown hx3;clear p2 x0 x1 x2 x3 hown;by_cases C7:0<r
          case' pos=>rw [if_pos C7]at Ep;have rv:=AnU b0 a0 g _ W9.heap.size w3 Ep;have AjI:r>0:=C7;(go_wp2_with fail);(with_reducible refine rv.mono ?_);rintro e w4 ⟨rfl,Gw,hg4⟩;have Ao:=(Ae.trans hx3).grownOwn hg4 Ep (As0 _);clear hg4 rv Ep
          case' neg=>rw [if_neg C7]at Ep;have AjI:¬r>0:=C7;obtain⟨w4,rfl⟩:=Asw w3;have Gw:=Ep;have Ao:=Ae.trans hx3;clear Ep
          all_goals (
           have CJ:Ab w w4:=Fz.trans Ao;have f0:=Gw.cellAt 0 (by omega);have f1:=Gw.cellAt 1 (by omega);have f2:=Gw.cellAt 2 (by omega);have f3:=Gw.cellAt 3 (by omega);simp only [Ag,Lo,flat,List.map_cons,List.map_nil,List.flatMap_cons,List.flatMap_nil,List.append_nil,List.cons_append,List.nil_append,List.getElem?_cons_zero,List.getElem?_cons_succ]at f0 f1 f2 f3;have SO:=fun (w':World) (h:Ab w4 w')=>(⟨h.cellS f0,h.cellS f1,h.cellS f2,h.cellS f3⟩:_/\_/\_/\_);have X:=Ab.refl w4;have LX:Fp w4 bm (BU P j++Gb pg k j):=DG.ext Ao;obtain⟨Wp,hput,KT,NR,-⟩:=yy (LX.ext X.drew) (GV pg k) (SU.out k hkn) (j:Int)
           have Eo:∃cs t,w4.heap[g]?=some (.cells cs t (0,0)):=by
            rcases Gw.2 with⟨h',_⟩|⟨g',cap',cur,hv,_,hgb,_⟩
            ·omega
            ·simp only [Value.slice.injEq,As4,Addr.mk.injEq]at hv;obtain⟨⟨rfl,-⟩,-⟩:=hv;exact⟨_,_,hgb⟩
           obtain⟨cg,tg,Eo⟩:=Eo
           have ml:some g≠some bm:=by
            intro e
            cases e;have h4:=LX;unfold Fp at h4;rw [h4]at Eo
            cases Eo
           have KP:=fun (o:Nat) (v:Value) (h:w4.cell? ⟨g,o,none⟩=some v)=>(World.cell?_of_block (a:=⟨g,o,none⟩) (NR.block g (Asy Eo) ml)).trans h;have SP:=And.intro (KP _ _ f0) (And.intro (KP _ _ f1) (And.intro (KP _ _ f2) (KP _ _ f3)));have h11:IntKind.i64.wrap (0:Int)=0:=(by decide);have h02:(0:Int)<2:=(by omega);have fH:=((Gq.ext Ao).ext X.drew).grown NR (fun q e=>by cases e;exact .inl rfl);rw [HSD.out]at hput;unfold A8 S at hput;have SQ:=Asx KT;clear KT NR LX Gw Ae hx3 f0 f1 f2 f3 Eo ml KP
           go_upto_region 27 with fail
           go_loopw [15] (fun v wx=>(v=.int .i64 1/\wx=w4)∨(v=.int .i64 2/\wx=Wp)) (fun v _=>2-(intOf v).toNat)
           case atStart=>exact .inl ⟨rfl,rfl⟩
           case round=>
            rcases hrel with⟨rfl,rfl⟩|⟨rfl,rfl⟩
            ·go_upto_region 29 with fail
             go_region_held3 (fun w'=>w'.cell? ⟨g,0,none⟩=some (S (R a0.x))/\w'.cell? ⟨g,1,none⟩=some (S (R a0.y))/\w'.cell? ⟨g,2,none⟩=some (S (R b0.x))/\w'.cell? ⟨g,3,none⟩=some (S (R b0.y)))
              (first|with_reducible exact SO _ X|with_reducible exact SO _ X.drew|with_reducible exact SP)
              (fail)
             all_goals go_wp2
             all_goals go_roundw
             case rel=>exact .inr ⟨rfl,trivial⟩
             case measure=>simp [intOf]
            ·go_wp2;go_roundw
             case rel=>exact⟨k+1,by go_num,hkn,by rw [qC,←List.append_assoc];exact SQ.out,fH⟩
             case measure=>simp [intOf];omega)
      ·have Ch:k=pg.length:=(by omega);subst Ch;rw [←J3.out]at NA;have aX:=Asx NA;clear NA Fu LU;go_wp2;go_roundw
       case rel=>exact⟨j+1,by go_num,hjn,aX.out,eY⟩
       case measure=>simp [intOf];omega
    ·have D2:j=i:=(by omega);subst D2;have AQ:Fp wr bm (BU P j):=hM;go_wp2;go_ret;exact⟨bm,rfl,AQ,hle,BG⟩
def Tv(l:List Pt):Int:=if Cr [] l=0 then 2 else Cr [] l
theorem AmP(l:List Pt)(hgr:∀p∈l,Ce p)(T:List (Bs×Bs))(hT:T.take l.length=Ag l)(hk:l.length<T.length)(q:Bs×Bs)(hq:T[l.length]?=some q)(jC:D6 q=false)(hs1:q.1.length<=17)(hs2:q.2.length<=17)
  (A B F:Option Addr) (c n2 d n3 g:Nat) (hc1:T.length<=c) (hc2:c<=9223372036854775807) (l1:T.length<=400) (l2:n2<=1200) (l3:n3<=800) (w:World) (hw:Aj w) (hA:Ad w A (flat T)) :
  Calls Tryz.prog 19 #[.agg #[.slice A T.length c,.slice B n2 d,.slice F n3 g]] w (AI (Tv l) w):=by
 have HA:=Asx hA;have zP:Ad w A (flat (Ag l)):=(by rw [←hT,zH];exact hA.take _);have Wk:=Asx zP;obtain⟨r,hr⟩:=Asw (Tv l);rw [←hr];have HR:=Asx hr
 have ek:∀j (h:j<l.length),T[j]?=some (R l[j].x,R l[j].y):=by
  intro j h;have h1:(T.take l.length)[j]?=(Ag l)[j]?:=(by rw [hT]);rw [List.getElem?_take_of_lt h]at h1;rw [h1];unfold Ag;rw [List.getElem?_map,As5 h]
  rfl
 have HT:=Asx ek;have HQ:=Asx hq;have IL:=Asx hgr;obtain⟨n,hn⟩:=Asw T.length;rw [←hn]at hc1 l1 hk ⊢;have HN:=Asx hn;have hM:=Asz w (.cells #[.slice A n c,.slice B n2 d,.slice F n3 g] 35);have hE:=(Ab.refl w).alloc (.cells #[.slice A n c,.slice B n2 d,.slice F n3 g] 35);clear hA zP hr hT ek hq hgr hn;go_enter Tryz.func19,Tryz.ntmps19
 go_upto_region 1 with fail
 generalize w.alloc (.cells #[.slice A n c,.slice B n2 d,.slice F n3 g] 35)=V at *;obtain⟨bm,AB⟩:=Asw w.heap.size;rw [←AB]at hM ⊢;have hle:w.heap.size<=bm:=(by omega);clear AB;have m1:=Aa (o:=0) hM rfl;have m2:=Aa (o:=1) hM rfl;have m3:=Aa (o:=2) hM rfl;have TF:decide ((400:Int)<(n:Int))=false:=decide_eq_false (by omega);have Q8:decide ((1200:Int)<(n2:Int))=false:=decide_eq_false (by omega);have Xq:decide ((800:Int)<(n3:Int))=false:=decide_eq_false (by omega)
 go_upto_block 0 with fail
 clear TF Q8 Xq m2 m3
 go_upto_region 4 with fail
 clear m1
 go_loopw [33] (fun i wr=>∃j:Nat,i=.int .i64 (j:Nat)/\j<=l.length/\Cr (l.take j) (l.drop j)=Cr [] l/\Ab V wr) (fun i _=>n-(intOf i).toNat)
 case atStart=>exact⟨0,rfl,by omega,by simp,Ab.refl _⟩
 case round=>
  obtain⟨j,rfl,hj,Ai,Ae⟩:=hrel;have HO:=Asx Ai;clear Ai;have hjn:j<n:=(by omega);have hj0:(0:Int)<=(j:Int):=(by omega);have Ay:(j:Int)<(n:Int):=(by omega);have nw:(j:Int)<=(c:Int):=(by omega);obtain⟨b,o,rfl,hg1,hg2⟩:=ZD ((HA.out.ext hE).ext Ae) (show j<T.length by rw [←HN.out];exact hjn);by_cases hlt:j<l.length
  ·obtain⟨p,hp⟩:=Asw (l[j])
   have Vg:T[j]'(by rw [←HN.out];exact hjn)=(R p.x,R p.y):=by have h1:=HT.out j hlt;rw [As5 (by rw [←HN.out];exact hjn)]at h1;rw [hp];exact Option.some.inj h1
   rw [Vg]at hg1 hg2
   dsimp only at hg1 hg2
   have hz:Aw 7 p:=(by rw [hp];exact(IL.out _ (As1 hlt)).sz (by omega));have HP:=Asx hp;have HS:=Asx (wO hlt);have Ap:=Asz wr (.cells #[S (R p.x),S (R p.y)] 24);have hx1:=Ae.alloc (.cells #[S (R p.x),S (R p.y)] 24);have ck:=Ns (R p.x) (R p.y) true (by simp only [true_iff];exact⟨Kp hz.x (by omega) (by omega),Kp hz.y (by omega) (by omega)⟩) (MO hz.x (by omega) (by omega)) (MO hz.y (by omega) (by omega));rw [Iv]at ck;clear hp hz Vg
   go_upto_region 6 with fail
   generalize wr.alloc (.cells #[S (R p.x),S (R p.y)] 24)=V1 at *;obtain⟨bp,JP⟩:=Asw wr.heap.size;rw [←JP]at Ap ⊢;clear JP hg1 hg2;have k1:=Aa (o:=0) Ap rfl;have k2:=Aa (o:=1) Ap rfl;(go_wp2_with fail);(with_reducible refine(ck _ (hw.ext (hE.trans hx1))).mono ?_);rintro e w2 ⟨rfl,hx2⟩;have BH:=(hx2.block _ (Asy Ap)).trans Ap;replace hx2:=hx1.trans hx2;have hw2:=hw.ext (hE.trans hx2);have EB:=(hx2.block _ (Asy hM)).trans hM;have f1:∀q:Ac w2,q.w.cell? ⟨bp,0,none⟩=some (S (R p.x)):=Ac.cell (Aa BH rfl);have f2:∀q:Ac w2,q.w.cell? ⟨bp,1,none⟩=some (S (R p.y)):=Ac.cell (Aa BH rfl);have f3:∀q:Ac w2,q.w.cell? ⟨bm,0,none⟩=some (.slice (some ⟨b,o,none⟩) n c):=Ac.cell (Aa EB rfl);have ct:=fun q:Ac w2=>xE l j (by omega) p (some ⟨b,o,none⟩) c q.w ((Wk.out.ext (hE.trans hx2)).ext q.h) (by omega) hc2;unfold Af at ct;obtain⟨du,Hw⟩:=Asw ((l.take j).any (Aq p));rw [←Hw]at ct;have HD:=Asx Hw;clear Hw k1 k2 ck Ap BH EB hx1 Ae;(go_wp2_with fail);refine Bh (by kernel_rfl) (by kernel_rfl) ?_
   repeat (go_big_quiet_step (with_reducible refine TL (ct _)))
   refine wpQuiet_nil ?_;rintro _ ⟨q,rfl⟩;have mV:=hx2.trans q.h;have HX:=Asx mV
   cases du
   ·have HH:=Asx (show Cr (l.take (j+1)) (l.drop (j+1))=Cr [] l by
     rw [←HO.out,HS.out,←HP.out,←HD.out];rfl)
    go_wp2;go_roundw
    case rel=>exact⟨j+1,by go_num,hlt,HH.out,HX.out⟩
    case measure=>simp [intOf];omega
   ·have HH:=Asx (show Cr [] l=9 by rw [←HO.out,HS.out,←HP.out,←HD.out];rfl);have HR9:=Asx (show r=9 by rw [HR.out];unfold Tv;rw [HH.out];rfl);go_wp2;go_ret;exact⟨by rw [HR9.out];rfl,hE.trans HX.out⟩
  ·have Ay:j=l.length:=by omega
   have Vg:T[j]'(by rw [←HN.out];exact hjn)=q:=by have h1:=HQ.out;rw [←Ay,As5 (by rw [←HN.out];exact hjn)]at h1;exact Option.some.inj h1
   rw [Vg]at hg1 hg2
   have HH:=Asx (show r=2 by
    have h0:Cr [] l=0:=by rw [←HO.out,List.drop_eq_nil_of_le (by omega)];unfold Cr;rfl
    rw [HR.out];unfold Tv;rw [if_pos h0])
   have hx1:=Ae.alloc (.cells #[S q.1,S q.2] 24);have ck:=Ns q.1 q.2 false (by rw [←jC];exact Ot q) hs1 hs2 _ (hw.ext (hE.trans hx1));rw [Nu]at ck;clear Vg Ay hlt hj;(go_wp2_with fail);(with_reducible refine ck.mono ?_);rintro e w2 ⟨rfl,hx2⟩;go_wp2;go_ret;exact⟨by rw [HH.out];rfl,(hE.trans hx1).trans hx2⟩
def Qs(P:List (List Pt×Bs))(l:List Hf)(x:Hf):Prop:=0<=C4 l x/\(P.getD (C4 l x).toNat ([],[])).2=(P.getD x.l.toNat ([],[])).2
def MX(P:List (List Pt×Bs))(l:List Hf)(fs:List Int):Prop:=∀g:Int→Int,(∀x∈l,Qs P l x→g x.l=g (C4 l x))→∀z:Nat,z<fs.length→g (z:Int)=g (fs.getD z 0)
def L2(P:List (List Pt×Bs))(l:List Hf)(fs:List Int)(j:Nat):Prop:=∀x∈l.take j,Qs P l x→¬fs.getD (C4 l x).toNat 0<fs.getD x.l.toNat 0
structure GlF(P:List (List Pt×Bs))(l:List Hf)(fs:List Int):Prop where
 len:fs.length=P.length
 rng:∀z∈fs,0<=z/\z<(P.length:Int)
 con:MX P l fs
 stb:L2 P l fs l.length
theorem L2.next{P:List (List Pt×Bs)}{l:List Hf}{fs:List Int}{j:Nat}{x:Hf}(h:L2 P l fs j)(hj:j<l.length)(hx:x=l[j])(hs:Qs P l x→¬fs.getD (C4 l x).toNat 0<fs.getD x.l.toNat 0):L2 P l fs (j+1):=by
 intro y hy;rw [As3 hj,List.mem_append,AsC,←hx]at hy
 rcases hy with hy|rfl
 ·exact h y hy
 ·exact hs
theorem MX.set{P:List (List Pt×Bs)}{l:List Hf}{fs:List Int}{x:Hf}{q m:Nat}(h:MX P l fs)(hx:x∈l)(hs:Qs P l x)(hq:x.l=(q:Int))(hm:C4 l x=(m:Int))(hm1:m<fs.length):MX P l (fs.set q (fs.getD m 0)):=by
 intro g hg z hz;rw [List.length_set]at hz;have h0:=h g hg;by_cases e:q=z
 ·subst e;rw [List.getD_eq_getElem?_getD,List.getElem?_set_self hz,Option.getD_some];have h1:=hg x hx hs;rw [hq,hm]at h1;rw [h1];exact h0 m hm1
 ·rw [List.getD_eq_getElem?_getD,List.getElem?_set_ne e,←List.getD_eq_getElem?_getD];exact h0 z hz
def KJ(l:List Hf)(fs:List Int)(x:Hf):List Hf:=
 if PW l fs x=fs.getD x.l.toNat 0 then [] else if PW l fs x<0 then [⟨x.a,x.b,fs.getD x.l.toNat 0⟩,⟨x.b,x.a,-1⟩] else [⟨x.a,x.b,fs.getD x.l.toNat 0⟩]
theorem AhS{l:List Hf}{fs:List Int}{j:Nat}{x:Hf}{ed:List Hf}(hj:j<l.length)(hx:x=l[j])(h:ed=(l.take j).flatMap (KJ l fs)):ed++KJ l fs x=(l.take (j+1)).flatMap (KJ l fs):=by
 rw [As3 hj,List.flatMap_append,List.flatMap_singleton,←h,←hx]
theorem AhQ{l:List Hf}{fs:List Int}{x:Hf}{zr zf:Int}{q:Nat}(h1:zr=PW l fs x)(h2:fs.getD q 0=zf)(h3:x.l=(q:Int)):KJ l fs x=if zr=zf then [] else if zr<0 then [⟨x.a,x.b,zf⟩,⟨x.b,x.a,-1⟩] else [⟨x.a,x.b,zf⟩]:=by
 unfold KJ;rw [h3,Int.toNat_natCast,h2,←h1]
inductive LD(l0:List Hf):List Hf→Prop
 | refl:LD l0 l0
 | step {l:List Hf} {x y:Hf} : x∈l→y∈l→LD l0 l→WN l x y→LD l0 (Jt l x y)
def S9(P:List (List Pt×Bs))(m:MapZ)(faces:List Bs):Prop:=
 ∃fs,GlF P (MK P) fs/\bY (LD ((MK P).flatMap (KJ (MK P) fs))) (P.map (·.2)) m faces
def AcU(w:World)(P:List (List Pt×Bs))(e:Ending)(w':World):Prop:=
 ∃A B F c d g m faces,e=.returned (AH A B F m c d g)/\MapAt w' P.length (P.map (·.2)) A B F c d g m faces/\Ab w w'/\OA w.heap.size A B F/\S9 P m faces
section
open Kl
theorem AkQ{l:List Hf}{x y:Hf}(h:WN l x y):(Jt l x y).length<=l.length:=by
 have h1:2<=l.countP (fun z=>!C2 x.b z):=by rw [←h.two];refine List.countP_mono_left fun z _ hz=>?_;unfold C2;rw [hz];simp
 have h2:=List.length_eq_countP_add_countP (C2 x.b) (l:=l)
 have h3:l.countP (fun a=>decide ¬C2 x.b a=true)=l.countP (fun z=>!C2 x.b z):=by congr 1;funext a;cases C2 x.b a<;>rfl
 rw [h3]at h2;unfold Jt;rw [List.length_append,←List.countP_eq_length_filter];simp only [List.length_cons,List.length_nil];omega
theorem LD.le{ed l:List Hf}(hj:LD ed l):l.length<=ed.length:=by
 induction hj with
 | refl=>exact As0 _
 | step _ _ _ hn ih=>exact AsA (AkQ hn) ih
theorem AeO(ps:List Pt)(p:Pt):(G8 ps p).length<=ps.length+1:=by
 unfold G8
 split
 ·split
  ·omega
  ·simp
 ·simp
theorem Abl:∀(l:List Hf) (ps:List Pt),(l.foldl (fun ps h=>G8 ps h.a) ps).length<=ps.length+l.length
 | [],ps=>by simp
 | x::l,ps=>by have h1:=Abl l (G8 ps x.a);have h2:=AeO ps x.a;rw [List.foldl_cons,List.length_cons];omega
end
end Go.Proofs.YtnddllipjippnaaGreatDoor
