/- U35: ShBL. -/
import Derived.Test.YtbejphgbbpplbaaGreatDoorU32
set_option maxRecDepth 100000
set_option maxHeartbeats 16000000
namespace Go.Proofs.YtbejphgbbpplbaaGreatDoor
open Go.RowKit Kl
def G2(p:List Pt)(k:Nat):Sg:=⟨p.getD k ⟨0,0⟩,p.getD ((k+1)%p.length) ⟨0,0⟩⟩
def FD(p:List Pt)(k:Nat)(i:Nat):List (Sg×Int):=(List.range k).map fun j=>(G2 p j,(i:Int))
def BI(P:List (List Pt×Bs))(n:Nat):List (Sg×Int):=(List.range n).flatMap fun i=>FD (P.getD i ([],[])).1 (P.getD i ([],[])).1.length i
theorem nW(p:List Pt)(k i:Nat):FD p (k+1) i=FD p k i ++ [(G2 p k,(i:Int))]:=by simp [FD,List.range_succ]
theorem AaN{P:List (List Pt×Bs)}{n:Nat}(h:n<P.length):BI P (n+1)=BI P n++FD P[n].1 P[n].1.length n:=by
 unfold BI;rw [List.range_succ,List.flatMap_append];simp [List.getD_eq_getElem?_getD,Asf h]
def Ta(s:Sg):List Pt:=if 0<AX s.a s.b then [s.b,s.a] else [s.a,s.b]
structure rT(P:List (List Pt×Bs)):Prop where
 len:P.length<=1000
 pc:∀e∈P,0<e.1.length/\e.1.length<=60
 sz:∀e∈P,∀p∈e.1,Aq 1 p
 two:∀e∈P,∀k,k<e.1.length→(SJ P).filter (fun q=>Hg (G2 e.1 k).a (G2 e.1 k).b q)=Ta (G2 e.1 k)
 nd:((BI P P.length).map (·.1)).Nodup
theorem AaM(P:List (List Pt×Bs))(m:Nat):∀d,∃r,BI P (m+d)=BI P m++r
 | 0=>⟨[],by simp⟩
 | d+1=>by
  obtain⟨r,hr⟩:=AaM P m d;refine⟨r++FD (P.getD (m+d) ([],[])).1 (P.getD (m+d) ([],[])).1.length (m+d),?_⟩
  have e:BI P (m+(d+1))=BI P (m+d)++FD (P.getD (m+d) ([],[])).1 (P.getD (m+d) ([],[])).1.length (m+d):=by unfold BI;rw [←Nat.add_assoc,List.range_succ,List.flatMap_append];simp
  rw [e,hr,List.append_assoc]
theorem AaO(p:List Pt)(k i:Nat):∀d,∃r,FD p (k+d) i=FD p k i++r
 | 0=>⟨[],by simp⟩
 | d+1=>by obtain⟨r,hr⟩:=AaO p k i d;exact⟨r ++ [(G2 p (k+d),(i:Int))],by rw [←Nat.add_assoc,nW,hr,List.append_assoc]⟩
theorem AnL{P:List (List Pt×Bs)}(Cr:((BI P P.length).map (·.1)).Nodup){j k:Nat}(hj:j<P.length)(hk:k<P[j].1.length):∀e∈BI P j++FD P[j].1 k j,AO (G2 P[j].1 k) e.1=false:=by
 obtain⟨r1,h1⟩:=AaM P (j+1) (P.length-(j+1));rw [show j+1+(P.length-(j+1))=P.length by omega,AaN hj]at h1;obtain⟨r2,h2⟩:=AaO P[j].1 (k+1) j (P[j].1.length-(k+1));rw [show k+1+(P[j].1.length-(k+1))=P[j].1.length by omega,nW]at h2;rw [h1,h2]at Cr;intro e he;refine Aa9 fun hh=>?_;have e0:BI P j++(FD P[j].1 k j ++ [(G2 P[j].1 k,(j:Int))]++r2)++r1=(BI P j++FD P[j].1 k j)++((G2 P[j].1 k,(j:Int))::(r2++r1)):=(by simp);rw [e0,List.map_append,List.map_cons,List.nodup_append]at Cr;exact Cr.2.2 _ (List.mem_map_of_mem he) _ List.mem_cons_self hh.symm
theorem AnJ{p:List Pt}{k q:Nat}(hk:k<p.length)(hq:q=(k+1)%p.length)(Bo:q<p.length):G2 p k=⟨p[k],p[q]⟩:=by
 unfold G2;rw [←hq];simp [List.getD_eq_getElem?_getD,Asf hk,Asf Bo]
def Adw(w:World)(L:List (Sg×Int))(e:Ending)(w':World):Prop:=
 ∃b,e=.returned (.map (some b))/\DV w' b L/\w.heap.size<=b/\Aa w w'
theorem Am3(P:List (List Pt×Bs))(hP:rT P)(A:Option Addr)(c:Nat)(w:World)(hw:Al w)(h:G9 w A c P) :
  Calls Tryz.prog 103 #[.slice A P.length c] w (Adw w (BI P P.length)):=by
 have hmm:=@run_makeMap Tryz.prog;obtain⟨n,hn⟩:=ArV P.length;rw [←hn];have HN:=ArW hn;have hlen:n<=1000:=(by rw [hn];exact hP.len);have HP:=ArW hP;have HA:=ArW h;have hc1:n<=c:=(by rw [hn];exact h.c1);clear hn hP h;go_enter Tryz.func103,Tryz.ntmps103
 go_upto_region 3 with fail
 go_loopw [3,18] (fun ov iv wr=>∃i:Nat,iv=.int .i64 (i:Nat)/\i<=n/\wr.ownsRow w.heap.size 94 2 ov (D9 P i).length (flat (Ak (D9 P i)))/\Aa w wr) (fun _ iv _=>n-(intOf iv).toNat)
 case atStart=>exact⟨0,rfl,by omega,⟨rfl,.inl ⟨rfl,rfl⟩⟩,Aa.refl _⟩
 case round=>
  obtain⟨i,rfl,hi,hown,Ad⟩:=hrel;obtain⟨vA,vc,rfl⟩:=KC (by omega) hown;by_cases hin:i<n
  ·have Jy:i<P.length:=(by rw [←HN.out];exact hin);obtain⟨bA,oA,A',c',rfl,AW,Bg,Bo,Bh,hr1,hr2⟩:=HA.out.row i Jy;have Gy:=HP.out.pc _ (Asa Jy);have kF:=vC Jy;have Ce:=bI (fun e he=>(HP.out.pc e he).2) i (by omega);obtain⟨pg,Eg⟩:=ArV (P[i].1);obtain⟨un,Az⟩:=ArV (P[i].2);rw [←Eg]at AW Bh hr1 Gy kF;rw [←Az]at Bg;replace AW:=Ad.cellS AW;replace Bg:=Ad.cellS Bg;replace Bo:=Ad.cellS Bo;replace Bh:=Bh.ext Ad;have GR:(0:Int)<=(i:Int):=(by omega);have Jw:(i:Int)<(n:Int):=(by omega);have E4:=(Aa.refl wr).alloc (.cells #[.slice A' pg.length c',S un,.slice none 0 0] 97);have Ap:=ArY wr (.cells #[.slice A' pg.length c',S un,.slice none 0 0] 97);have jo:(D9 P i).length<200000:=(by omega);have qR:=ArW kF;obtain⟨cl,hcl⟩:=ArV (D9 P i);rw [←hcl]at hown jo qR ⊢;have HCL:=ArW hcl;clear kF Ce Eg Az hcl
   go_upto_region 5 with fail
   unfold S at Ap E4;generalize wr.alloc (.cells #[.slice A' pg.length c',.string ⟨un.toArray⟩,.slice none 0 0] 97)=W4 at *;have y0:=Ab (o:=0) Ap rfl;have Uj:wr.heap.size<=W4.heap.size:=E4.size;have hs0:=Ad.size;clear AW Bg Bo
   go_wp2_with (at_builtin;go_loud (refine AdH rfl _ _ rfl _ w.heap.size (.slice vA cl.length vc) cl.length cl rfl (Ao hown E4) jo pg A' c' rfl (Bh.ext E4) Gy.1 (by omega) (by omega) ?_);intro v7 w7 Dm Ia)
   go_roundw
   case rel=>exact⟨i+1,by go_num,hin,by rw [qR.out,List.length_append];exact Dm,Ia w (Ad.trans E4) (ArZ _)⟩
   case measure=>simp [intOf];omega
  ·have OP:i=n:=(by omega);subst OP;have hsz:=HP.out.sz;have Aiq:=bI (fun e he=>(HP.out.pc e he).2) i (by have:=HN.out;omega)
   have Dp:=AaV hw Ad (ArZ _) (D9 P i) (fun s hs=>by
    obtain⟨e,he,hq⟩:=vd hs
    exact hsz e he s hq) (by omega) hown
   obtain⟨C,hC⟩:=ArV (SJ P);have Wn:Lib.compact (Fo (D9 P i))=C:=by rw [hC];unfold SJ;rw [←HN.out]
   have yA:C.length<=60000:=by rw [←Wn];refine Asl (Aff _) ?_;rw [(KH _).length_eq];omega
   have yB:∀q∈C,Aq 1 q:=fun q hq=>by rw [←Wn]at hq;obtain⟨e,he,hq⟩:=vd ((KH _).mem_iff.1 (mem_compact hq));exact hsz e he q hq
   have cc:=fun (w5:World) (h:w5.ownsRow w.heap.size 94 2 (.slice vA (D9 P i).length vc) (D9 P i).length (F7 (Fo (D9 P i))))=>Afd (Fo (D9 P i)) (.slice vA (D9 P i).length vc) w5 w.heap.size (by rw [(KH _).length_eq];exact h)
   rw [Wn]at cc;have HC:=ArW hC;have G6:=ArW yB;clear hsz Wn hC yB;obtain⟨m0,hm0⟩:=ArV ((D9 P i).length);rw [←hm0]at hown Dp cc Aiq ⊢;clear hm0;(go_wp2_with fail);(with_reducible refine Dp.mono ?_);rintro e w5 ⟨rfl,hg5,ho5⟩;have Ax:Aa w w5:=Ad.grownOwn hg5 hown (ArZ _);have c5:=cc w5 ho5;clear cc Dp hg5 hown;(go_wp2_with fail);(with_reducible refine c5.mono ?_);rintro e w6 ⟨A6,k6,rfl,hr6,h61,h62,Qs⟩;have BF:Aa w w6:=Qs w Ax (ArZ _);clear Qs c5 ho5 Ax Ad;have CN:=ArY w6 (.map #[] 0);have E7:=(Aa.refl w6).alloc (.map #[] 0)
   go_upto_region 11 with fail
   generalize w6.alloc (.map #[] 0)=W7 at *;obtain⟨bm,dl⟩:=ArV w6.heap.size;rw [←dl]at CN ⊢;have hle:w.heap.size<=bm:=(by have:=BF.size;omega);have BP:=BF.trans E7;have hr7:=hr6.ext E7;clear dl hr6 E7 BF;have dV:DV W7 bm (BI P 0):=CN
   go_loopw [34] (fun iv wr=>∃j:Nat,iv=.int .i64 (j:Nat)/\j<=i/\DV wr bm (BI P j)/\Ar (fun q=>q=bm) W7 wr) (fun iv _=>i-(intOf iv).toNat)
   case atStart=>exact⟨0,rfl,by omega,dV,Ar.refl _ _⟩
   case round=>
    obtain⟨j,rfl,hj,hM,hB⟩:=hrel;have BD:Aa w wr:=hB.toExt BP (fun q e=>by subst e;exact hle);by_cases hjn:j<i
    ·have IC:j<P.length:=(by rw [←HN.out];exact hjn);obtain⟨bA,oA,A',c',rfl,AW,Bg,Bo,Bh,hr1,hr2⟩:=HA.out.row j IC;have Gy:=HP.out.pc _ (Asa IC);have N4:=HP.out.sz _ (Asa IC);have LR:=HP.out.two _ (Asa IC);have Do:=AaN IC;have hnew:=fun k (hk:k<P[j].1.length)=>AnL HP.out.nd IC hk;obtain⟨pg,Eg⟩:=ArV (P[j].1);obtain⟨un,Az⟩:=ArV (P[j].2);rw [←Eg]at AW Bh hr1 Gy N4 LR Do hnew;rw [←Az]at Bg;replace AW:=BD.cellS AW;replace Bg:=BD.cellS Bg;replace Bo:=BD.cellS Bo;have GR:(0:Int)<=(j:Int):=(by omega);have Jw:(j:Int)<(i:Int):=(by omega);have E8:=(Aa.refl wr).alloc (.cells #[.slice A' pg.length c',S un,.slice none 0 0] 97);have AK:=ArY wr (.cells #[.slice A' pg.length c',S un,.slice none 0 0] 97);have Ac6:=ArW hnew;have Vn:=ArW N4;have HTW:=ArW LR;have IY:=ArW Do;clear Eg Az N4 LR Do hnew
     go_upto_region 13 with fail
     unfold S at AK E8;generalize wr.alloc (.cells #[.slice A' pg.length c',.string ⟨un.toArray⟩,.slice none 0 0] 97)=W8 at *;obtain⟨bp,fW⟩:=ArV wr.heap.size;rw [←fW]at AK ⊢;have Aq3:bm<bp:=(by rw [fW];exact ArX hM);have y0:=Ab (o:=0) AK rfl
     have Tp:DV W8 bm (BI P j++FD pg 0 j):=by have e:FD pg 0 j = []:=rfl;rw [e,List.append_nil];exact hM.ext E8
     have EX:=hB.ext E8;clear fW AW Bg Bo hM hB E8 BD
     go_upto_region 14 with fail
     go_loopw [42] (fun kv wk=>∃k:Nat,kv=.int .i64 (k:Nat)/\k<=pg.length/\DV wk bm (BI P j++FD pg k j)/\Ar (fun q=>q=bm) W8 wk) (fun kv _=>pg.length-(intOf kv).toNat)
     case atStart=>exact⟨0,rfl,by omega,Tp,Ar.refl _ _⟩
     case round=>
      obtain⟨k,rfl,hk,MZ,Lq⟩:=hrel;have dG:=EX.trans Lq;have Q0:Aa w wr:=dG.toExt BP (fun q e=>by subst e;exact hle);have dx:=Lq.cells AK (by omega);by_cases hkn:k<pg.length
      ·obtain⟨q,hq⟩:=ArV ((k+1)%pg.length);have Kw:q<pg.length:=by rw [hq];exact Nat.mod_lt _ (by omega)
       have Ku:(((k:Int)+1)).tmod (pg.length:Int)=(q:Int):=by rw [Int.tmod_eq_emod_of_nonneg (by omega),hq,Int.natCast_emod];rfl
       have jf:(((k:Int)+1))%(pg.length:Int)=(q:Int):=(by rw [hq,Int.natCast_emod];rfl);have QM:¬((pg.length:Int)=0):=(by omega);have jE:¬(pg.length=0):=(by omega);have jy:((pg.length:Int) == 0)=false:=beq_false_of_ne QM;have ll:IntKind.wrap .i64 (q:Int)=(q:Int):=Asg _ (by omega);have OS:IntKind.wrap .i64 ((k:Int)+1)=(k:Int)+1:=Asg _ (by omega);obtain⟨b,o,rfl,ka,kb⟩:=Ca (Bh.ext Q0) hkn;obtain⟨b',o',he,qa,qb⟩:=Ca (Bh.ext Q0) Kw;simp only [Ase,Addr.mk.injEq,and_true]at he;obtain⟨rfl,rfl⟩:=he;have Pb:=Vn.out _ (Asa hkn);have N8:=Vn.out _ (Asa Kw);have Um:=AnJ hkn hq Kw;have LR:=HTW.out k hkn;rw [Um]at LR;obtain⟨a0,ha0⟩:=ArV (pg[k]);obtain⟨b0,hb0⟩:=ArV (pg[q]);rw [←ha0]at ka kb Pb LR Um;rw [←hb0]at qa qb N8 LR Um;have AcU:=ArW LR;have HSD:=ArW Um;have hk0:(0:Int)<=(k:Int):=(by omega);have BX:(k:Int)<(pg.length:Int):=(by omega);have km:(0:Int)<=(q:Int):=(by omega);have kq:(q:Int)<(pg.length:Int):=(by omega);have hm0:(0:Int)<(pg.length:Int):=(by omega);clear ha0 hb0 hq LR Um;have hpn:pg≠[]:=fun e=>(by rw [e]at hkn;simp at hkn);have Aw:=ArY wr (.cells #[S (R a0.x),S (R a0.y)] 94);have EA:=(Aa.refl wr).alloc (.cells #[S (R a0.x),S (R a0.y)] 94)
       go_upto_region 16 with fail
       unfold S at Aw EA;generalize wr.alloc (.cells #[.string ⟨(R a0.x).toArray⟩,.string ⟨(R a0.y).toArray⟩] 94)=VA at *;obtain⟨ba,Nn⟩:=ArV wr.heap.size;rw [←Nn]at Aw ⊢;have AqV:w.heap.size<=ba:=(by have:=Q0.size;omega);clear Nn;replace qa:=EA.cellS qa;replace qb:=EA.cellS qb;have yp:=EA.cellS (Ab (o:=0) dx rfl);have X:=Aa.refl VA;have SO:=fun (w':World) (h:Aa VA w')=>(⟨h.cellS yp,h.cellS qa,h.cellS qb⟩:_/\_/\_);clear y0 ka kb
       go_cut [11] (fun v11 wx=>∃bb,v11=.pointer (some ⟨bb,0,none⟩)/\wx.heap[bb]?=some (.cells #[S (R b0.x),S (R b0.y)] 94)/\Aa VA wx)
       case first=>
        go_region_held3 (fun w'=>w'.cell? ⟨bp,0,none⟩=some (.slice (some ⟨b,o,none⟩) pg.length c')/\w'.cell? ⟨b,o+q*2,none⟩=some (S (R b0.x))/\w'.cell? ⟨b,o+q*2+1,none⟩=some (S (R b0.y)))
         ((refine SO _ ?_;repeat (first|exact X|(with_reducible refine Aa.drew ?_)|(with_reducible refine Aa.alloc ?_ _)|(with_reducible refine Aa.setCell ?_ (by simp) _))))
         (fail)
        all_goals go_wp2
        all_goals go_meet
        all_goals exact⟨_,rfl,by unfold S;exact ArY VA _,(X.alloc _).drew⟩
       case rest=>
        obtain⟨bb,rfl,Bq,Ff⟩:=hcut;obtain⟨W9,rfl⟩:=J9 Ff;have Gq:Aa w W9:=Q0.trans (EA.trans Ff)
        have WT:=Ff.block _ (ArX Aw) |>.trans Aw
        have hr9:Ae W9 A6 (flat (Ak C)):=by
         refine⟨fun h0=>?_⟩;obtain⟨g0,o0,e0,hc0⟩:=hr7.ad h0;refine⟨g0,o0,e0,fun z hz=>?_⟩;have h7:=hc0 z hz;refine(EA.trans Ff).cellS ?_
         exact(World.cell?_of_block (a:=⟨g0,o0+z,none⟩) (dG.block g0 (World.block_lt_of_cell? W7 _ h7) (fun e=>by
          subst e;rw [World.cell?]at h7
          simp [CN]at h7))).trans h7
        have O8:DV W9 bm (BI P j++FD pg k j):=MZ.ext (EA.trans Ff);have FV:=(Lq.ext EA).ext Ff;have hw9:=hw.ext Gq;clear SO X qa qb yp Aw Ff EA MZ dx
        go_upto_region 19 with fail
        go_loopw [12,59] (fun ov qv wx=>∃(z:Nat) (l:List Pt),qv=.int .i64 (z:Nat)/\z<=C.length/\l=(C.take z).filter (fun p=>Hg a0 b0 p)/\wx.ownsRow W9.heap.size 94 2 ov l.length (flat (Ak l))/\Aa W9 wx) (fun _ qv _=>C.length-(intOf qv).toNat)
        case atStart=>exact⟨0,[],rfl,by omega,by simp,⟨rfl,.inl ⟨rfl,rfl⟩⟩,Aa.refl _⟩
        case round=>
         obtain⟨z,l,rfl,hz,hl,hown,Ad⟩:=hrel;obtain⟨vL,vLc,rfl⟩:=KC (by omega) hown;by_cases J6:z<C.length
         ·obtain⟨b2,o2,rfl,ca,cb⟩:=Ca (hr9.ext Ad) J6;have EE:=G6.out _ (Asa J6)
          have G0:(C.take (z+1)).filter (fun p=>Hg a0 b0 p)=l++(if Hg a0 b0 C[z]=true then [C[z]] else []):=by
           rw [Asd J6,List.filter_append,←hl]
           congr 1
           simp [List.filter_cons]
          obtain⟨q0,AW⟩:=ArV (C[z]);rw [←AW]at ca cb EE G0;have hz0:(0:Int)<=(z:Int):=(by omega);have hz1:(z:Int)<(C.length:Int):=(by omega);have Ce:l.length<200000:=(by rw [hl];have:=List.length_filter_le (fun p=>Hg a0 b0 p) (C.take z);rw [List.length_take]at this;omega);have Db:=ArY wr (.cells #[S (R q0.x),S (R q0.y)] 94);have EQ:=(Aa.refl wr).alloc (.cells #[S (R q0.x),S (R q0.y)] 94);have pc:=fun (V:World) (h:Aa w V)=>ze a0 b0 q0 Pb N8 EE (by omega) (by omega) V (hw.ext h);obtain⟨bt,Gs⟩:=ArV (Hg a0 b0 q0);rw [←Gs]at pc G0;have M7:=ArW G0;clear AW G0 Gs hl
          go_upto_region 21 with fail
          unfold S at Db EQ Bq ca cb;generalize wr.alloc (.cells #[.string ⟨(R q0.x).toArray⟩,.string ⟨(R q0.y).toArray⟩] 94)=V2 at *;have BN:=Ad.trans EQ;have x0:=BN.cellS (Ab (o:=0) WT rfl);have x1:=BN.cellS (Ab (o:=1) WT rfl);have x2:=BN.cellS (Ab (o:=0) Bq rfl);have x3:=BN.cellS (Ab (o:=1) Bq rfl);have x4:=Ab (o:=0) Db rfl;have x5:=Ab (o:=1) Db rfl;have p2:=pc V2 (Gq.trans BN);unfold Af S at p2;clear pc ca cb;(go_wp2_with fail);(with_reducible refine p2.mono ?_);rintro e w3 ⟨rfl,hx3⟩;have x6:=hx3.cellS x4;have x7:=hx3.cellS x5;have Aro:W9.heap.size<=w3.heap.size:=(BN.trans hx3).size;clear p2 x0 x1 x2 x3 x4 x5
          cases bt
          ·have ApD:=ArW M7.out;go_wp2;go_roundw
           case rel=>exact⟨z+1,l,by go_num,J6,by rw [M7.out];simp,Ao hown (EQ.trans hx3),BN.trans hx3⟩
           case measure=>simp [intOf];omega
          ·have CQ:=Ao hown (EQ.trans hx3)
           go_wp2_with (at_builtin;go_loud (refine AdF rfl _ _ rfl _ W9.heap.size (.slice vL l.length vLc) l.length l rfl (Ao CQ ((Aa.refl w3).alloc _)) Ce q0 w3.heap.size (ArY w3 _) rfl (by simp;omega) ?_);intro v8 w8 LL Ch)
           go_roundw
           case rel=>exact⟨z+1,l ++ [q0],by go_num,J6,by rw [M7.out];simp,by rw [List.length_append];exact LL,Ch W9 ((BN.trans hx3).alloc _) (ArZ _)⟩
           case measure=>simp [intOf];omega
         ·have qf:z=C.length:=by omega
          have iT:l=Ta ⟨a0,b0⟩:=by rw [hl,qf,List.take_length];have h2:=AcU.out;rw [←HC.out]at h2;exact h2
          subst qf;have hl2:l.length=2:=by rw [iT];unfold Ta;split<;>rfl
          obtain⟨g,cap,kG⟩:∃g cap,Value.slice vL l.length vLc=.slice (some ⟨g,0,none⟩) 2 cap:=by
           rcases hown.2 with⟨_,h'⟩|⟨g,cap,cur,hv,_⟩
           ·omega
           ·exact⟨g,cap,by rw [hv,hl2]⟩
          rw [kG,hl2,iT]at hown;simp only [Value.slice.injEq]at kG;obtain⟨QU,-,hv2⟩:=kG;subst QU hv2;rw [hl2];have cp:=fun (V:World) (h:Aa w V)=>IO a0 b0 Pb N8 (by omega) (by omega) V (hw.ext h);obtain⟨r,hr⟩:=ArV (AX a0 b0);rw [←hr]at cp;unfold Ta at hown;simp only [←hr]at hown;unfold S at Bq;have x0:=Ad.cellS (Ab (o:=0) WT rfl);have x1:=Ad.cellS (Ab (o:=1) WT rfl);have x2:=Ad.cellS (Ab (o:=0) Bq rfl);have x3:=Ad.cellS (Ab (o:=1) Bq rfl);have p2:=cp wr (Gq.trans Ad);unfold Af S at p2;clear cp hr iT hl hl2
          go_upto_region 24 with fail
          (go_wp2_with fail);(with_reducible refine p2.mono ?_);rintro e w3 ⟨rfl,hx3⟩;have CQ:=Ao hown hx3;clear p2 x0 x1 x2 x3 hown;by_cases Cp:0<r
          case' pos=>rw [if_pos Cp]at CQ;have rv:=Anp b0 a0 g _ W9.heap.size w3 CQ;have AiH:r>0:=Cp;(go_wp2_with fail);(with_reducible refine rv.mono ?_);rintro e w4 ⟨rfl,C2,hg4⟩;have Aj:=(Ad.trans hx3).grownOwn hg4 CQ (ArZ _);clear hg4 rv CQ
          case' neg=>rw [if_neg Cp]at CQ;have AiH:¬r>0:=Cp;obtain⟨w4,rfl⟩:=ArV w3;have C2:=CQ;have Aj:=Ad.trans hx3;clear CQ
          all_goals (
           have Cl:Aa w w4:=Gq.trans Aj;have f0:=C2.cellAt 0 (by omega);have f1:=C2.cellAt 1 (by omega);have f2:=C2.cellAt 2 (by omega);have f3:=C2.cellAt 3 (by omega);simp only [Ak,Me,flat,List.map_cons,List.map_nil,List.flatMap_cons,List.flatMap_nil,List.append_nil,List.cons_append,List.nil_append,List.getElem?_cons_zero,List.getElem?_cons_succ]at f0 f1 f2 f3;have SO:=fun (w':World) (h:Aa w4 w')=>(⟨h.cellS f0,h.cellS f1,h.cellS f2,h.cellS f3⟩:_/\_/\_/\_);have X:=Aa.refl w4;have Qn:DV w4 bm (BI P j++FD pg k j):=O8.ext Aj;obtain⟨Wp,hput,Qp,Ny,-⟩:=sr (Qn.ext X.drew) (G2 pg k) (Ac6.out k hkn) (j:Int)
           have Ee:∃cs t,w4.heap[g]?=some (.cells cs t (0,0)):=by
            rcases C2.2 with⟨h',_⟩|⟨g',cap',cur,hv,_,hgb,_⟩
            ·omega
            ·simp only [Value.slice.injEq,Ase,Addr.mk.injEq]at hv;obtain⟨⟨rfl,-⟩,-⟩:=hv;exact⟨_,_,hgb⟩
           obtain⟨cg,tg,Ee⟩:=Ee
           have ip:some g≠some bm:=by
            intro e
            cases e;have h4:=Qn;unfold DV at h4;rw [h4]at Ee
            cases Ee
           have KP:=fun (o:Nat) (v:Value) (h:w4.cell? ⟨g,o,none⟩=some v)=>(World.cell?_of_block (a:=⟨g,o,none⟩) (Ny.block g (ArX Ee) ip)).trans h;have SP:=And.intro (KP _ _ f0) (And.intro (KP _ _ f1) (And.intro (KP _ _ f2) (KP _ _ f3)));have h11:IntKind.i64.wrap (0:Int)=0:=(by decide);have h02:(0:Int)<2:=(by omega);have dM:=((FV.ext Aj).ext X.drew).grown Ny (fun q e=>by cases e;exact .inl rfl);rw [HSD.out]at hput;unfold AA S at hput;have Z4:=ArW Qp;clear Qp Ny Qn C2 Ad hx3 f0 f1 f2 f3 Ee ip KP
           go_upto_region 27 with fail
           go_loopw [15] (fun v wx=>(v=.int .i64 1/\wx=w4)∨(v=.int .i64 2/\wx=Wp)) (fun v _=>2-(intOf v).toNat)
           case atStart=>exact .inl ⟨rfl,rfl⟩
           case round=>
            rcases hrel with⟨rfl,rfl⟩|⟨rfl,rfl⟩
            ·go_upto_region 29 with fail
             go_region_held3 (fun w'=>w'.cell? ⟨g,0,none⟩=some (S (R a0.x))/\w'.cell? ⟨g,1,none⟩=some (S (R a0.y))/\w'.cell? ⟨g,2,none⟩=some (S (R b0.x))/\w'.cell? ⟨g,3,none⟩=some (S (R b0.y)))
              (first|with_reducible exact SO _ X|with_reducible exact SO _ X.drew|with_reducible exact SP)
              (fail)
             all_goals go_wp2
             all_goals go_roundw
             case rel=>exact .inr ⟨rfl,trivial⟩
             case measure=>simp [intOf]
            ·go_wp2;go_roundw
             case rel=>exact⟨k+1,by go_num,hkn,by rw [nW,←List.append_assoc];exact Z4.out,dM⟩
             case measure=>simp [intOf];omega)
      ·have Bf:k=pg.length:=(by omega);subst Bf;rw [←IY.out]at MZ;have Si:=ArW MZ;clear MZ EX Lq;go_wp2;go_roundw
       case rel=>exact⟨j+1,by go_num,hjn,Si.out,dG⟩
       case measure=>simp [intOf];omega
    ·have Dl:j=i:=(by omega);subst Dl;have Ay:DV wr bm (BI P j):=hM;go_wp2;go_ret;exact⟨bm,rfl,Ay,hle,BD⟩
end Go.Proofs.YtbejphgbbpplbaaGreatDoor
