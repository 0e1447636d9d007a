/- Y43: BP BL LGL LGN. -/
import Derived.Test.YtjalkoacphhgdaaGreatDoorY41
set_option maxRecDepth 100000
set_option maxHeartbeats 16000000
namespace Go.Proofs.YtjalkoacphhgdaaGreatDoor
open Go.RowKit Kl
theorem mz(w:World)(o1 o2:Obj):((w.alloc o1).alloc o2).drew.heap[w.heap.size]?=some o1/\((w.alloc o1).alloc o2).drew.heap[w.heap.size+1]?=some o2/\Aa w ((w.alloc o1).alloc o2).drew:=by
 have E1:=(Aa.refl w).alloc o1;have h1:=AmB w o1;have E2:=(Aa.refl (w.alloc o1)).alloc o2;have h2:=AmB (w.alloc o1) o2;rw [AmJ]at h2;exact⟨(E2.block _ (AmA h1)).trans h1,h2,(E1.trans E2).drew⟩
theorem eJ{a b:World}(_:Aa a b):∃c,c=b:=⟨b,rfl⟩
theorem Dq.keys{B:Nat}{W:World}{b2:Nat}{E:List (Pt×Value×Nat)}{R0:List (Pt×List Pt)}(h:Dq B W b2 E R0):E.map (·.1)=R0.map (·.1):=by
 apply List.ext_getElem
 ·simp [h.len]
 ·intro i h1 h2;simp only [List.getElem_map];exact(h.row i (by simpa using h1) (by simpa using h2)).1
theorem AfD{w0 w:World}(hw:An w0)(hx:Aa w0 w){B:Nat}{r b1 b2:Nat}{L:List (Sg×Int)}{E:List (Pt×Value×Nat)}{R0:List (Pt×List Pt)}(h:Bq B w r b1 b2 L E R0)(hz:∀e∈R0,Ar 200 e.1/\∀p∈e.2,Ar 200 p)
  (hlen:R0.length<=100000) (hrl:∀e∈R0,e.2.length<100000) (Ci:(R0.map (·.1)).Nodup) (hno:∀e∈R0,∀p q,e.2 = [p,q]→AD (Al p e.1 q)≠0) :
  Calls Tryz.prog 193 #[.pointer (some ⟨r,0,none⟩)] w fun e w'=>e=.returned (.tuple #[])/\Aa w w':=by
 have J5:=h.ar.len;have DC:=h.ar.keys;have m1:=Ab (o:=1) h.cell rfl;have EP:=(Aa.refl w).alloc (.cells #[.map (some b2)] 132);have BQ:=AmB w (.cells #[.map (some b2)] 132)
 have sk:=l4 hw (hx.trans EP) w.heap.size b2 E (fun i hi=>(h.ar.row i hi (by rw [←J5];exact hi)).2.1) (AmA BQ) (Ab BQ rfl) (h.ext EP).ar.blk
  (fun e he=>by
   have:e.1∈R0.map (·.1):=(by rw [←DC];exact List.mem_map_of_mem he);obtain⟨e',he',h1⟩:=List.mem_map.1 this
   rw [←h1];exact(hz e' he').1) (by omega)
 rw [DC]at sk;obtain⟨ks,IL⟩:=Am8 (EC (R0.map (·.1)));have Cm:ks.length=E.length:=by rw [IL,(JU _).length_eq,J5];simp
 have Si:∀p∈ks,∃e∈R0,e.1=p:=fun p hp=>by rw [IL]at hp;obtain⟨e,he,h1⟩:=List.mem_map.1 ((JU _).mem_iff.1 hp);exact⟨e,he,h1⟩
 rw [←IL,←Cm]at sk;have Hb:=Am9 h;have rh:=Am9 Si;have HZ:=Am9 hz;have Hd:=Am9 hrl;have Xu:=Am9 Ci;have Q0:=Am9 hno;have hkn:ks.length<=100000:=(by omega);clear IL Cm Si DC J5 hz hrl Ci hno h hlen;have kp:=zM (some b2) w;go_enter Tryz.func193,Tryz.ntmps193;(go_wp2_with fail);(with_reducible refine kp.mono ?_);rintro e w2 ⟨rfl,rfl⟩;(go_wp2_with fail);(with_reducible refine sk.mono ?_);rintro e w3 ⟨sv,rfl,CN,ER⟩;obtain⟨sA,sc,rfl,AP,-,-⟩:=Ae.of_own' (by omega) CN;unfold EY at AP;have I8:Aa w w3:=EP.trans ER;have CW:=hx.trans I8;have Gh:=Am9 (Hb.out.ext I8);clear sk kp BQ EP ER CN m1;have hl0:(0:Int)<=(ks.length:Int):=by omega
 go_upto_region 1 with fail
 go_loopw [20] (fun iv wr=>∃k:Nat,iv=.int .i64 (k:Nat)/\k<=ks.length/\Aa w3 wr) (fun iv _=>ks.length-(intOf iv).toNat)
 case atStart=>exact⟨0,rfl,by omega,Aa.refl _⟩
 case round=>
  obtain⟨k,rfl,hk,BI⟩:=hrel;by_cases Vs:k<ks.length
  ·obtain⟨b,o,rfl,f1,f2⟩:=Cu (AP.ext BI) Vs;obtain⟨e,he,Vj⟩:=rh.out _ (AmD Vs);obtain⟨p,hp⟩:=Am8 (ks[k]);rw [←hp]at f1 f2 Vj;have aH:=ji Xu.out he;rw [Vj]at aH;have hsz:=HZ.out e he;have hel:=Hd.out e he;have IP:=Q0.out e he;rw [Vj]at hsz IP;obtain⟨es,hes⟩:=Am8 e.2;have hk0:(0:Int)<=(k:Int):=(by omega);have Cb:(k:Int)<(ks.length:Int):=(by omega);have EA:=(Aa.refl wr).alloc (.cells #[S (R p.x),S (R p.y)] 92);have Aq:=AmB wr (.cells #[S (R p.x),S (R p.y)] 92);have OY:=Gh.out.ext (BI.trans EA);obtain⟨A,c,hv,hrow,hc1,hc2⟩:=OY.ar.look p aH;rw [←hes]at hv hrow hc1 hsz hel IP;have rx:=Am9 IP;clear hp hes aH Vj he IP
   go_upto_region 3 with fail
   unfold S at Aq EA OY hrow;generalize wr.alloc (.cells #[.string ⟨(R p.x).toArray⟩,.string ⟨(R p.y).toArray⟩] 92)=V at *;obtain⟨ba,Mn⟩:=Am8 wr.heap.size;rw [←Mn]at Aq ⊢;clear Mn f1 f2;have GM:=BI.trans EA;have q1:∀q:Af V,q.w.cell? ⟨r,1,none⟩=some (.map (some b2)):=Af.cell (Ab OY.cell rfl);have q2:∀q:Af V,q.w.cell? ⟨ba,0,none⟩=some (S (R p.x)):=Af.cell (Ab Aq rfl);have q3:∀q:Af V,q.w.cell? ⟨ba,1,none⟩=some (S (R p.y)):=Af.cell (Ab Aq rfl)
   have q5:∀q:Af V,(Instr.lookup 132 (.map (some b2)) (Ak p) false).run Tryz.prog q.w=.ok (.slice A es.length c) q.w:=fun q=>by rw [Qi PL p E (W:=q.w) ((q.h.block b2 OY.ar.lt).trans OY.ar.blk),hv]
   unfold Ak at q5;refine Fe (by kernel_rfl) (by kernel_rfl) ?_
   repeat (go_big_quiet_step (fail))
   refine wpQuiet_nil ?_;rintro W4 ⟨q,hq⟩;have Ai:Aa V W4:=hq▸q.h;have Hu:=GM.trans Ai;have ZM:=(Ai.block _ (AmA Aq)).trans Aq;have hrow4:=hrow.ext Ai;clear q1 q2 q3 q5 hq q OY hv hrow Aq Ai EA BI GM;by_cases h2:es.length=2
   ·obtain⟨a,d,rfl⟩:∃a d,es = [a,d]:=by
     match es,h2 with
     | [a,d],_=>exact⟨a,d,rfl⟩
    have Gs:=rx.out a d rfl;obtain⟨bA,oA,rfl,g1,g2⟩:=Cu hrow4 (show 0 < [a,d].length by simp);obtain⟨bA',oA',hA',g3,g4⟩:=Cu hrow4 (show 1 < [a,d].length by simp);simp only [AmG,Addr.mk.injEq,and_true]at hA';obtain⟨rfl,rfl⟩:=hA';simp only [List.getElem_cons_zero,List.getElem_cons_succ,Nat.zero_mul,Nat.add_zero,Nat.one_mul]at g1 g2 g3 g4;have za:=hsz.2 a (by simp);have zd:=hsz.2 d (by simp);have y0:=Ab (o:=0) ZM rfl;have y1:=Ab (o:=1) ZM rfl;have SO:=fun (w':World) (h:Aa W4 w')=>(⟨h.cellS g1,h.cellS g2,h.cellS g3,h.cellS g4⟩:_/\_/\_/\_);have X:=Aa.refl W4;clear hrow4
    go_upto_region 5 with fail
    go_cut [5,6] (fun v5 v6 wx=>∃b5 b6,v5=.pointer (some ⟨b5,0,none⟩)/\v6=.pointer (some ⟨b6,0,none⟩)/\wx.heap[b5]?=some (.cells #[S (R a.x),S (R a.y)] 92)/\wx.heap[b6]?=some (.cells #[S (R d.x),S (R d.y)] 92)/\Aa W4 wx)
    case first=>
     go_region_held3 (fun w'=>w'.cell? ⟨bA,oA,none⟩=some (S (R a.x))/\w'.cell? ⟨bA,oA+1,none⟩=some (S (R a.y))/\w'.cell? ⟨bA,oA+2,none⟩=some (S (R d.x))/\w'.cell? ⟨bA,oA+2+1,none⟩=some (S (R d.y)))
      ((refine SO _ ?_;repeat (first|exact X|(with_reducible refine Aa.drew ?_)|(with_reducible refine Aa.alloc ?_ _)|(with_reducible refine Aa.setCell ?_ (by simp) _))))
      (fail)
     all_goals go_wp2
     all_goals go_meet
     all_goals
      first
       | (have tn:=mz W4 (.cells #[S (R a.x),S (R a.y)] 92) (.cells #[S (R d.x),S (R d.y)] 92);exact⟨_,_,rfl,rfl,tn.1,tn.2.1,tn.2.2⟩)
       | (have tn:=mz W4 (.cells #[S (R d.x),S (R d.y)] 92) (.cells #[S (R a.x),S (R a.y)] 92);exact⟨_,_,rfl,rfl,tn.2.1,tn.1,tn.2.2⟩)
    case rest=>
     obtain⟨b5,b6,rfl,rfl,hb5,IB,Ad⟩:=hcut;obtain⟨W5,rfl⟩:=eJ Ad;have R9:=Hu.trans Ad;have y5:=Ad.cellS y0;have y6:=Ad.cellS y1;have u0:=Ab (o:=0) hb5 rfl;have u1:=Ab (o:=1) hb5 rfl;have u2:=Ab (o:=0) IB rfl;have u3:=Ab (o:=1) IB rfl;clear SO X g1 g2 g3 g4 y0 y1 Ad Hu ZM hb5 IB;have SO:=fun (w':World) (h:Aa W5 w')=>(⟨h.cellS u0,h.cellS u1,h.cellS u2,h.cellS u3,h.cellS y5,h.cellS y6⟩:_/\_/\_/\_/\_/\_);have X:=Aa.refl W5
     go_upto_region 6 with fail
     go_cut [7,8] (fun v7 v8 wx=>∃b7 b8,v7=.pointer (some ⟨b7,0,none⟩)/\v8=.pointer (some ⟨b8,0,none⟩)/\Aa W5 wx)
     case first=>
      go_region_held3 (fun w'=>w'.cell? ⟨b5,0,none⟩=some (S (R a.x))/\w'.cell? ⟨b5,1,none⟩=some (S (R a.y))/\w'.cell? ⟨b6,0,none⟩=some (S (R d.x))/\w'.cell? ⟨b6,1,none⟩=some (S (R d.y))/\w'.cell? ⟨ba,0,none⟩=some (S (R p.x))/\w'.cell? ⟨ba,1,none⟩=some (S (R p.y)))
       ((refine SO _ ?_;repeat (first|exact X|(with_reducible refine Aa.drew ?_)|(with_reducible refine Aa.alloc ?_ _)|(with_reducible refine Aa.setCell ?_ (by simp) _))))
       (fail)
      all_goals go_wp2
      all_goals go_meet
      all_goals exact⟨_,_,rfl,rfl,((X.alloc _).alloc _).drew⟩
     case rest=>
      obtain⟨b7,b8,rfl,rfl,AH⟩:=hcut;obtain⟨W6,rfl⟩:=eJ AH;have Mk:=R9.trans AH;have q0:∀q:Af W6,q.w.cell? ⟨b5,0,none⟩=some (S (R a.x)):=Af.cell (AH.cellS u0);have q1:∀q:Af W6,q.w.cell? ⟨b5,1,none⟩=some (S (R a.y)):=Af.cell (AH.cellS u1);have q2:∀q:Af W6,q.w.cell? ⟨b6,0,none⟩=some (S (R d.x)):=Af.cell (AH.cellS u2);have q3:∀q:Af W6,q.w.cell? ⟨b6,1,none⟩=some (S (R d.y)):=Af.cell (AH.cellS u3);have q4:∀q:Af W6,q.w.cell? ⟨ba,0,none⟩=some (S (R p.x)):=Af.cell (AH.cellS y5);have q5:∀q:Af W6,q.w.cell? ⟨ba,1,none⟩=some (S (R p.y)):=Af.cell (AH.cellS y6);have ct:=fun (q:Af W6)=>Ln a p d za hsz.1 zd (by omega) (by omega) q.w (hw.ext ((CW.trans Mk).trans q.h));obtain⟨s,hs⟩:=Am8 (AD (Al a p d));rw [←hs]at ct Gs;unfold Ak S at ct;have hs1:(s == 0)=false:=beq_false_of_ne Gs;have hs2:(s != 0)=true:=(by rw [bne,hs1];rfl);clear hs SO X u0 u1 u2 u3 y5 y6 AH Gs
      go_upto_region 7 with fail
      refine Fe (by kernel_rfl) (by kernel_rfl) ?_
      repeat (go_big_quiet_step (with_reducible refine DU (ct _)))
      refine wpQuiet_nil ?_;rintro W7 ⟨q,hq⟩;have AB:Aa W6 W7:=hq▸q.h;clear hq q q0 q1 q2 q3 q4 q5 ct;go_wp2;go_roundw
      case rel=>exact⟨k+1,by go_num,Vs,Mk.trans AB⟩
      case measure=>simp [intOf];omega
   ·have EU:¬((es.length:Int)=2):=(by omega);have hb2:((es.length:Int) == 2)=false:=beq_false_of_ne EU;have hb3:((es.length:Int) != 2)=true:=(by rw [bne,hb2];rfl);go_wp2;go_roundw
    case rel=>exact⟨k+1,by go_num,Vs,Hu⟩
    case measure=>simp [intOf];omega
  ·have Bw:k=ks.length:=(by omega);subst Bw;go_wp2
   go_end0
   exact⟨rfl,I8.trans BI⟩
def FX(p:List Pt)(k:Nat):Sg:=⟨p.getD k ⟨0,0⟩,p.getD ((k+1)%p.length) ⟨0,0⟩⟩
def Fb(p:List Pt)(k:Nat)(i:Nat):List (Sg×Int):=(List.range k).map fun j=>(FX p j,(i:Int))
def B8(P:List (List Pt×Bs))(n:Nat):List (Sg×Int):=(List.range n).flatMap fun i=>Fb (P.getD i ([],[])).1 (P.getD i ([],[])).1.length i
theorem iF(p:List Pt)(k i:Nat):Fb p (k+1) i=Fb p k i ++ [(FX p k,(i:Int))]:=by simp [Fb,List.range_succ]
theorem kx{P:List (List Pt×Bs)}{n:Nat}(h:n<P.length):B8 P (n+1)=B8 P n++Fb P[n].1 P[n].1.length n:=by
 unfold B8;rw [List.range_succ,List.flatMap_append];simp [List.getD_eq_getElem?_getD,AmH h]
def Rh(s:Sg):List Pt:=if 0<AX s.a s.b then [s.b,s.a] else [s.a,s.b]
structure lE(P:List (List Pt×Bs)):Prop where
 len:P.length<=1000
 pc:∀e∈P,0<e.1.length/\e.1.length<=60
 sz:∀e∈P,∀p∈e.1,Ar 200 p
 two:∀e∈P,∀k,k<e.1.length→(QV P).filter (fun q=>Gy (FX e.1 k).a (FX e.1 k).b q)=Rh (FX e.1 k)
 nd:((B8 P P.length).map (·.1)).Nodup
theorem kr(P:List (List Pt×Bs))(m:Nat):∀d,∃r,B8 P (m+d)=B8 P m++r
 | 0=>⟨[],by simp⟩
 | d+1=>by
  obtain⟨r,hr⟩:=kr P m d;refine⟨r++Fb (P.getD (m+d) ([],[])).1 (P.getD (m+d) ([],[])).1.length (m+d),?_⟩
  have e:B8 P (m+(d+1))=B8 P (m+d)++Fb (P.getD (m+d) ([],[])).1 (P.getD (m+d) ([],[])).1.length (m+d):=by unfold B8;rw [←Nat.add_assoc,List.range_succ,List.flatMap_append];simp
  rw [e,hr,List.append_assoc]
theorem ky(p:List Pt)(k i:Nat):∀d,∃r,Fb p (k+d) i=Fb p k i++r
 | 0=>⟨[],by simp⟩
 | d+1=>by obtain⟨r,hr⟩:=ky p k i d;exact⟨r ++ [(FX p (k+d),(i:Int))],by rw [←Nat.add_assoc,iF,hr,List.append_assoc]⟩
theorem AiR{P:List (List Pt×Bs)}(Ci:((B8 P P.length).map (·.1)).Nodup){j k:Nat}(hj:j<P.length)(hk:k<P[j].1.length):∀e∈B8 P j++Fb P[j].1 k j,AK (FX P[j].1 k) e.1=false:=by
 obtain⟨r1,h1⟩:=kr P (j+1) (P.length-(j+1));rw [show j+1+(P.length-(j+1))=P.length by omega,kx hj]at h1;obtain⟨r2,h2⟩:=ky P[j].1 (k+1) j (P[j].1.length-(k+1));rw [show k+1+(P[j].1.length-(k+1))=P[j].1.length by omega,iF]at h2;rw [h1,h2]at Ci;intro e he;refine jz fun hh=>?_;have e0:B8 P j++(Fb P[j].1 k j ++ [(FX P[j].1 k,(j:Int))]++r2)++r1=(B8 P j++Fb P[j].1 k j)++((FX P[j].1 k,(j:Int))::(r2++r1)):=(by simp);rw [e0,List.map_append,List.map_cons,List.nodup_append]at Ci;exact Ci.2.2 _ (List.mem_map_of_mem he) _ List.mem_cons_self hh.symm
theorem AiQ{p:List Pt}{k q:Nat}(hk:k<p.length)(hq:q=(k+1)%p.length)(Bt:q<p.length):FX p k=⟨p[k],p[q]⟩:=by
 unfold FX;rw [←hq];simp [List.getD_eq_getElem?_getD,AmH hk,AmH Bt]
def xi(w:World)(L:List (Sg×Int))(e:Ending)(w':World):Prop:=
 ∃b,e=.returned (.map (some b))/\Dp w' b L/\w.heap.size<=b/\Aa w w'
theorem AhH(P:List (List Pt×Bs))(hP:lE P)(A:Option Addr)(c:Nat)(w:World)(hw:An w)(h:Jv w A c P) :
  Calls Tryz.prog 103 #[.slice A P.length c] w (xi w (B8 P P.length)):=by
 have hmm:=@run_makeMap Tryz.prog;obtain⟨n,hn⟩:=Am8 P.length;rw [←hn];have HN:=Am9 hn;have hlen:n<=1000:=(by rw [hn];exact hP.len);have HP:=Am9 hP;have HA:=Am9 h;have hc1:n<=c:=(by rw [hn];exact h.c1);clear hn hP h;go_enter Tryz.func103,Tryz.ntmps103
 go_upto_region 3 with fail
 go_loopw [3,18] (fun ov iv wr=>∃i:Nat,iv=.int .i64 (i:Nat)/\i<=n/\wr.ownsRow w.heap.size 92 2 ov (Dd P i).length (flat (Ao (Dd P i)))/\Aa w wr) (fun _ iv _=>n-(intOf iv).toNat)
 case atStart=>exact⟨0,rfl,by omega,⟨rfl,.inl ⟨rfl,rfl⟩⟩,Aa.refl _⟩
 case round=>
  obtain⟨i,rfl,hi,hown,Ac⟩:=hrel;obtain⟨vA,vc,rfl⟩:=fK (by omega) hown;by_cases hin:i<n
  ·have Mv:i<P.length:=(by rw [←HN.out];exact hin);obtain⟨bA,oA,A',c',rfl,AE,AS,Bt,AP,hr1,hr2⟩:=HA.out.row i Mv;have IS:=HP.out.pc _ (AmD Mv);have P6:=nT Mv;have Dh:=Y9 (fun e he=>(HP.out.pc e he).2) i (by omega);obtain⟨pg,Gr⟩:=Am8 (P[i].1);obtain⟨un,Ay⟩:=Am8 (P[i].2);rw [←Gr]at AE AP hr1 IS P6;rw [←Ay]at AS;replace AE:=Ac.cellS AE;replace AS:=Ac.cellS AS;replace Bt:=Ac.cellS Bt;replace AP:=AP.ext Ac;have NJ:(0:Int)<=(i:Int):=(by omega);have Pv:(i:Int)<(n:Int):=(by omega);have E4:=(Aa.refl wr).alloc (.cells #[.slice A' pg.length c',S un,.slice none 0 0] 95);have Aw:=AmB wr (.cells #[.slice A' pg.length c',S un,.slice none 0 0] 95);have vU:(Dd P i).length<200000:=(by omega);have kM:=Am9 P6;obtain⟨cl,hcl⟩:=Am8 (Dd P i);rw [←hcl]at hown vU kM ⊢;have HCL:=Am9 hcl;clear P6 Dh Gr Ay hcl
   go_upto_region 5 with fail
   unfold S at Aw E4;generalize wr.alloc (.cells #[.slice A' pg.length c',.string ⟨un.toArray⟩,.slice none 0 0] 95)=W4 at *;have y0:=Ab (o:=0) Aw rfl;have JF:wr.heap.size<=W4.heap.size:=E4.size;have hs0:=Ac.size;clear AE AS Bt
   go_wp2_with (at_builtin;go_loud (refine ye rfl _ _ rfl _ w.heap.size (.slice vA cl.length vc) cl.length cl rfl (AI hown E4) vU pg A' c' rfl (AP.ext E4) IS.1 (by omega) (by omega) ?_);intro v7 w7 KT aA)
   go_roundw
   case rel=>exact⟨i+1,by go_num,hin,by rw [kM.out,List.length_append];exact KT,aA w (Ac.trans E4) (AmC _)⟩
   case measure=>simp [intOf];omega
  ·have NK:i=n:=(by omega);subst NK;have hsz:=HP.out.sz;have AdM:=Y9 (fun e he=>(HP.out.pc e he).2) i (by have:=HN.out;omega)
   have CN:=ll hw Ac (AmC _) (Dd P i) (fun s hs=>by
    obtain⟨e,he,hq⟩:=aa hs
    exact hsz e he s hq) (by omega) hown
   obtain⟨C,hC⟩:=Am8 (QV P);have UA:Lib.compact (EC (Dd P i))=C:=by rw [hC];unfold QV;rw [←HN.out]
   have rC:C.length<=60000:=by rw [←UA];refine AmM (AaN _) ?_;rw [(JU _).length_eq];omega
   have rD:∀q∈C,Ar 200 q:=fun q hq=>by rw [←UA]at hq;obtain⟨e,he,hq⟩:=aa ((JU _).mem_iff.1 (mem_compact hq));exact hsz e he q hq
   have cc:=fun (w5:World) (h:w5.ownsRow w.heap.size 92 2 (.slice vA (Dd P i).length vc) (Dd P i).length (EY (EC (Dd P i))))=>AaL (EC (Dd P i)) (.slice vA (Dd P i).length vc) w5 w.heap.size (by rw [(JU _).length_eq];exact h)
   rw [UA]at cc;have HC:=Am9 hC;have FZ:=Am9 rD;clear hsz UA hC rD;obtain⟨m0,hm0⟩:=Am8 ((Dd P i).length);rw [←hm0]at hown CN cc AdM ⊢;clear hm0;(go_wp2_with fail);(with_reducible refine CN.mono ?_);rintro e w5 ⟨rfl,hg5,Cj⟩;have Ad:Aa w w5:=Ac.grownOwn hg5 hown (AmC _);have c5:=cc w5 Cj;clear cc CN hg5 hown;(go_wp2_with fail);(with_reducible refine c5.mono ?_);rintro e w6 ⟨A6,k6,rfl,hr6,h61,h62,Pa⟩;have AH:Aa w w6:=Pa w Ad (AmC _);clear Pa c5 Cj Ad Ac;have C4:=AmB w6 (.map #[] 0);have E7:=(Aa.refl w6).alloc (.map #[] 0)
   go_upto_region 11 with fail
   generalize w6.alloc (.map #[] 0)=W7 at *;obtain⟨bm,tN⟩:=Am8 w6.heap.size;rw [←tN]at C4 ⊢;have hle:w.heap.size<=bm:=(by have:=AH.size;omega);have J9:=AH.trans E7;have hr7:=hr6.ext E7;clear tN hr6 E7 AH;have OV:Dp W7 bm (B8 P 0):=C4
   go_loopw [34] (fun iv wr=>∃j:Nat,iv=.int .i64 (j:Nat)/\j<=i/\Dp wr bm (B8 P j)/\Au (fun q=>q=bm) W7 wr) (fun iv _=>i-(intOf iv).toNat)
   case atStart=>exact⟨0,rfl,by omega,OV,Au.refl _ _⟩
   case round=>
    obtain⟨j,rfl,hj,hM,hB⟩:=hrel;have BI:Aa w wr:=hB.toExt J9 (fun q e=>by subst e;exact hle);by_cases hjn:j<i
    ·have H6:j<P.length:=(by rw [←HN.out];exact hjn);obtain⟨bA,oA,A',c',rfl,AE,AS,Bt,AP,hr1,hr2⟩:=HA.out.row j H6;have IS:=HP.out.pc _ (AmD H6);have M4:=HP.out.sz _ (AmD H6);have KY:=HP.out.two _ (AmD H6);have Ea:=kx H6;have hnew:=fun k (hk:k<P[j].1.length)=>AiR HP.out.nd H6 hk;obtain⟨pg,Gr⟩:=Am8 (P[j].1);obtain⟨un,Ay⟩:=Am8 (P[j].2);rw [←Gr]at AE AP hr1 IS M4 KY Ea hnew;rw [←Ay]at AS;replace AE:=BI.cellS AE;replace AS:=BI.cellS AS;replace Bt:=BI.cellS Bt;have NJ:(0:Int)<=(j:Int):=(by omega);have Pv:(j:Int)<(i:Int):=(by omega);have E8:=(Aa.refl wr).alloc (.cells #[.slice A' pg.length c',S un,.slice none 0 0] 95);have Bv:=AmB wr (.cells #[.slice A' pg.length c',S un,.slice none 0 0] 95);have rq:=Am9 hnew;have kG:=Am9 M4;have uh:=Am9 KY;have Iw:=Am9 Ea;clear Gr Ay M4 KY Ea hnew
     go_upto_region 13 with fail
     unfold S at Bv E8;generalize wr.alloc (.cells #[.slice A' pg.length c',.string ⟨un.toArray⟩,.slice none 0 0] 95)=W8 at *;obtain⟨bp,ZQ⟩:=Am8 wr.heap.size;rw [←ZQ]at Bv ⊢;have Alt:bm<bp:=(by rw [ZQ];exact AmA hM);have y0:=Ab (o:=0) Bv rfl
     have Ry:Dp W8 bm (B8 P j++Fb pg 0 j):=by have e:Fb pg 0 j = []:=rfl;rw [e,List.append_nil];exact hM.ext E8
     have U6:=hB.ext E8;clear ZQ AE AS Bt hM hB E8 BI
     go_upto_region 14 with fail
     go_loopw [42] (fun kv wk=>∃k:Nat,kv=.int .i64 (k:Nat)/\k<=pg.length/\Dp wk bm (B8 P j++Fb pg k j)/\Au (fun q=>q=bm) W8 wk) (fun kv _=>pg.length-(intOf kv).toNat)
     case atStart=>exact⟨0,rfl,by omega,Ry,Au.refl _ _⟩
     case round=>
      obtain⟨k,rfl,hk,Mf,U8⟩:=hrel;have YZ:=U6.trans U8;have UT:Aa w wr:=YZ.toExt J9 (fun q e=>by subst e;exact hle);have tU:=U8.cells Bv (by omega);by_cases hkn:k<pg.length
      ·obtain⟨q,hq⟩:=Am8 ((k+1)%pg.length);have JE:q<pg.length:=by rw [hq];exact Nat.mod_lt _ (by omega)
       have Py:(((k:Int)+1)).tmod (pg.length:Int)=(q:Int):=by rw [Int.tmod_eq_emod_of_nonneg (by omega),hq,Int.natCast_emod];rfl
       have AdH:(((k:Int)+1))%(pg.length:Int)=(q:Int):=(by rw [hq,Int.natCast_emod];rfl);have Vz:¬((pg.length:Int)=0):=(by omega);have wE:¬(pg.length=0):=(by omega);have AdW:((pg.length:Int) == 0)=false:=beq_false_of_ne Vz;have hqw:IntKind.wrap .i64 (q:Int)=(q:Int):=AmI _ (by omega);have Sk:IntKind.wrap .i64 ((k:Int)+1)=(k:Int)+1:=AmI _ (by omega);obtain⟨b,o,rfl,ka,kb⟩:=Cu (AP.ext UT) hkn;obtain⟨b',o',he,qa,qb⟩:=Cu (AP.ext UT) JE;simp only [AmG,Addr.mk.injEq,and_true]at he;obtain⟨rfl,rfl⟩:=he;have cL:=kG.out _ (AmD hkn);have S2:=kG.out _ (AmD JE);have S3:=AiQ hkn hq JE;have KY:=uh.out k hkn;rw [S3]at KY;obtain⟨a0,ha0⟩:=Am8 (pg[k]);obtain⟨b0,hb0⟩:=Am8 (pg[q]);rw [←ha0]at ka kb cL KY S3;rw [←hb0]at qa qb S2 KY S3;have uj:=Am9 KY;have tq:=Am9 S3;have hk0:(0:Int)<=(k:Int):=(by omega);have Cb:(k:Int)<(pg.length:Int):=(by omega);have Aeh:(0:Int)<=(q:Int):=(by omega);have Aei:(q:Int)<(pg.length:Int):=(by omega);have hm0:(0:Int)<(pg.length:Int):=(by omega);clear ha0 hb0 hq KY S3;have hpn:pg≠[]:=fun e=>(by rw [e]at hkn;simp at hkn);have Aq:=AmB wr (.cells #[S (R a0.x),S (R a0.y)] 92);have EA:=(Aa.refl wr).alloc (.cells #[S (R a0.x),S (R a0.y)] 92)
       go_upto_region 16 with fail
       unfold S at Aq EA;generalize wr.alloc (.cells #[.string ⟨(R a0.x).toArray⟩,.string ⟨(R a0.y).toArray⟩] 92)=VA at *;obtain⟨ba,Mn⟩:=Am8 wr.heap.size;rw [←Mn]at Aq ⊢;have AlG:w.heap.size<=ba:=(by have:=UT.size;omega);clear Mn;replace qa:=EA.cellS qa;replace qb:=EA.cellS qb;have yp:=EA.cellS (Ab (o:=0) tU rfl);have X:=Aa.refl VA;have SO:=fun (w':World) (h:Aa VA w')=>(⟨h.cellS yp,h.cellS qa,h.cellS qb⟩:_/\_/\_);clear y0 ka kb
       go_cut [11] (fun v11 wx=>∃bb,v11=.pointer (some ⟨bb,0,none⟩)/\wx.heap[bb]?=some (.cells #[S (R b0.x),S (R b0.y)] 92)/\Aa VA wx)
       case first=>
        go_region_held3 (fun w'=>w'.cell? ⟨bp,0,none⟩=some (.slice (some ⟨b,o,none⟩) pg.length c')/\w'.cell? ⟨b,o+q*2,none⟩=some (S (R b0.x))/\w'.cell? ⟨b,o+q*2+1,none⟩=some (S (R b0.y)))
         ((refine SO _ ?_;repeat (first|exact X|(with_reducible refine Aa.drew ?_)|(with_reducible refine Aa.alloc ?_ _)|(with_reducible refine Aa.setCell ?_ (by simp) _))))
         (fail)
        all_goals go_wp2
        all_goals go_meet
        all_goals exact⟨_,rfl,by unfold S;exact AmB VA _,(X.alloc _).drew⟩
       case rest=>
        obtain⟨bb,rfl,AZ,BS⟩:=hcut;obtain⟨W9,rfl⟩:=Agw BS;have K2:Aa w W9:=UT.trans (EA.trans BS)
        have UX:=BS.block _ (AmA Aq) |>.trans Aq
        have wU:Ae W9 A6 (flat (Ao C)):=by
         refine⟨fun h0=>?_⟩;obtain⟨g0,o0,e0,hc0⟩:=hr7.ad h0;refine⟨g0,o0,e0,fun z hz=>?_⟩;have h7:=hc0 z hz;refine(EA.trans BS).cellS ?_
         exact(World.cell?_of_block (a:=⟨g0,o0+z,none⟩) (YZ.block g0 (World.block_lt_of_cell? W7 _ h7) (fun e=>by
          subst e;rw [World.cell?]at h7
          simp [C4]at h7))).trans h7
        have hM9:Dp W9 bm (B8 P j++Fb pg k j):=Mf.ext (EA.trans BS);have LZ:=(U8.ext EA).ext BS;have hw9:=hw.ext K2;clear SO X qa qb yp Aq BS EA Mf tU
        go_upto_region 19 with fail
        go_loopw [12,59] (fun ov qv wx=>∃(z:Nat) (l:List Pt),qv=.int .i64 (z:Nat)/\z<=C.length/\l=(C.take z).filter (fun p=>Gy a0 b0 p)/\wx.ownsRow W9.heap.size 92 2 ov l.length (flat (Ao l))/\Aa W9 wx) (fun _ qv _=>C.length-(intOf qv).toNat)
        case atStart=>exact⟨0,[],rfl,by omega,by simp,⟨rfl,.inl ⟨rfl,rfl⟩⟩,Aa.refl _⟩
        case round=>
         obtain⟨z,l,rfl,hz,hl,hown,Ac⟩:=hrel;obtain⟨vL,nj,rfl⟩:=fK (by omega) hown;by_cases Ie:z<C.length
         ·obtain⟨b2,o2,rfl,ca,cb⟩:=Cu (wU.ext Ac) Ie;have FS:=FZ.out _ (AmD Ie)
          have Ib:(C.take (z+1)).filter (fun p=>Gy a0 b0 p)=l++(if Gy a0 b0 C[z]=true then [C[z]] else []):=by
           rw [AmF Ie,List.filter_append,←hl]
           congr 1
           simp [List.filter_cons]
          obtain⟨q0,AE⟩:=Am8 (C[z]);rw [←AE]at ca cb FS Ib;have hz0:(0:Int)<=(z:Int):=(by omega);have hz1:(z:Int)<(C.length:Int):=(by omega);have Dh:l.length<200000:=(by rw [hl];have:=List.length_filter_le (fun p=>Gy a0 b0 p) (C.take z);rw [List.length_take]at this;omega);have Hx:=AmB wr (.cells #[S (R q0.x),S (R q0.y)] 92);have EQ:=(Aa.refl wr).alloc (.cells #[S (R q0.x),S (R q0.y)] 92);have pc:=fun (V:World) (h:Aa w V)=>il a0 b0 q0 cL S2 FS (by omega) (by omega) V (hw.ext h);obtain⟨bt,FI⟩:=Am8 (Gy a0 b0 q0);rw [←FI]at pc Ib;have LJ:=Am9 Ib;clear AE Ib FI hl
          go_upto_region 21 with fail
          unfold S at Hx EQ AZ ca cb;generalize wr.alloc (.cells #[.string ⟨(R q0.x).toArray⟩,.string ⟨(R q0.y).toArray⟩] 92)=V2 at *;have C3:=Ac.trans EQ;have x0:=C3.cellS (Ab (o:=0) UX rfl);have x1:=C3.cellS (Ab (o:=1) UX rfl);have x2:=C3.cellS (Ab (o:=0) AZ rfl);have x3:=C3.cellS (Ab (o:=1) AZ rfl);have x4:=Ab (o:=0) Hx rfl;have x5:=Ab (o:=1) Hx rfl;have p2:=pc V2 (K2.trans C3);unfold Ak S at p2;clear pc ca cb;(go_wp2_with fail);(with_reducible refine p2.mono ?_);rintro e w3 ⟨rfl,hx3⟩;have x6:=hx3.cellS x4;have x7:=hx3.cellS x5;have VD:W9.heap.size<=w3.heap.size:=(C3.trans hx3).size;clear p2 x0 x1 x2 x3 x4 x5
          cases bt
          ·have AkH:=Am9 LJ.out;go_wp2;go_roundw
           case rel=>exact⟨z+1,l,by go_num,Ie,by rw [LJ.out];simp,AI hown (EQ.trans hx3),C3.trans hx3⟩
           case measure=>simp [intOf];omega
          ·have DD:=AI hown (EQ.trans hx3)
           go_wp2_with (at_builtin;go_loud (refine yc rfl _ _ rfl _ W9.heap.size (.slice vL l.length nj) l.length l rfl (AI DD ((Aa.refl w3).alloc _)) Dh q0 w3.heap.size (AmB w3 _) rfl (by simp;omega) ?_);intro v8 w8 hown8 Bn)
           go_roundw
           case rel=>exact⟨z+1,l ++ [q0],by go_num,Ie,by rw [LJ.out];simp,by rw [List.length_append];exact hown8,Bn W9 ((C3.trans hx3).alloc _) (AmC _)⟩
           case measure=>simp [intOf];omega
         ·have yM:z=C.length:=by omega
          have aV:l=Rh ⟨a0,b0⟩:=by rw [hl,yM,List.take_length];have h2:=uj.out;rw [←HC.out]at h2;exact h2
          subst yM;have hl2:l.length=2:=by rw [aV];unfold Rh;split<;>rfl
          obtain⟨g,cap,cZ⟩:∃g cap,Value.slice vL l.length nj=.slice (some ⟨g,0,none⟩) 2 cap:=by
           rcases hown.2 with⟨_,h'⟩|⟨g,cap,cur,hv,_⟩
           ·omega
           ·exact⟨g,cap,by rw [hv,hl2]⟩
          rw [cZ,hl2,aV]at hown;simp only [Value.slice.injEq]at cZ;obtain⟨VJ,-,hv2⟩:=cZ;subst VJ hv2;rw [hl2];have cp:=fun (V:World) (h:Aa w V)=>Ik a0 b0 cL S2 (by omega) (by omega) V (hw.ext h);obtain⟨r,hr⟩:=Am8 (AX a0 b0);rw [←hr]at cp;unfold Rh at hown;simp only [←hr]at hown;unfold S at AZ;have x0:=Ac.cellS (Ab (o:=0) UX rfl);have x1:=Ac.cellS (Ab (o:=1) UX rfl);have x2:=Ac.cellS (Ab (o:=0) AZ rfl);have x3:=Ac.cellS (Ab (o:=1) AZ rfl);have p2:=cp wr (K2.trans Ac);unfold Ak S at p2;clear cp hr aV hl hl2
          go_upto_region 24 with fail
          (go_wp2_with fail);(with_reducible refine p2.mono ?_);rintro e w3 ⟨rfl,hx3⟩;have DD:=AI hown hx3;clear p2 x0 x1 x2 x3 hown;by_cases Cc:0<r
          case' pos=>rw [if_pos Cc]at DD;have rv:=Aiv b0 a0 g _ W9.heap.size w3 DD;have Aef:r>0:=Cc;(go_wp2_with fail);(with_reducible refine rv.mono ?_);rintro e w4 ⟨rfl,BW,hg4⟩;have Ai:=(Ac.trans hx3).grownOwn hg4 DD (AmC _);clear hg4 rv DD
          case' neg=>rw [if_neg Cc]at DD;have Aef:¬r>0:=Cc;obtain⟨w4,rfl⟩:=Am8 w3;have BW:=DD;have Ai:=Ac.trans hx3;clear DD
          all_goals (
           have Hu:Aa w w4:=K2.trans Ai;have f0:=BW.cellAt 0 (by omega);have f1:=BW.cellAt 1 (by omega);have f2:=BW.cellAt 2 (by omega);have f3:=BW.cellAt 3 (by omega);simp only [Ao,Lm,flat,List.map_cons,List.map_nil,List.flatMap_cons,List.flatMap_nil,List.append_nil,List.cons_append,List.nil_append,List.getElem?_cons_zero,List.getElem?_cons_succ]at f0 f1 f2 f3;have SO:=fun (w':World) (h:Aa w4 w')=>(⟨h.cellS f0,h.cellS f1,h.cellS f2,h.cellS f3⟩:_/\_/\_/\_);have X:=Aa.refl w4;have OW:Dp w4 bm (B8 P j++Fb pg k j):=hM9.ext Ai;obtain⟨Wp,hput,OX,Ms,-⟩:=zR (OW.ext X.drew) (FX pg k) (rq.out k hkn) (j:Int)
           have CL:∃cs t,w4.heap[g]?=some (.cells cs t (0,0)):=by
            rcases BW.2 with⟨h',_⟩|⟨g',cap',cur,hv,_,hgb,_⟩
            ·omega
            ·simp only [Value.slice.injEq,AmG,Addr.mk.injEq]at hv;obtain⟨⟨rfl,-⟩,-⟩:=hv;exact⟨_,_,hgb⟩
           obtain⟨cg,tg,CL⟩:=CL
           have aP:some g≠some bm:=by
            intro e
            cases e;have h4:=OW;unfold Dp at h4;rw [h4]at CL
            cases CL
           have KP:=fun (o:Nat) (v:Value) (h:w4.cell? ⟨g,o,none⟩=some v)=>(World.cell?_of_block (a:=⟨g,o,none⟩) (Ms.block g (AmA CL) aP)).trans h;have SP:=And.intro (KP _ _ f0) (And.intro (KP _ _ f1) (And.intro (KP _ _ f2) (KP _ _ f3)));have h11:IntKind.i64.wrap (0:Int)=0:=(by decide);have h02:(0:Int)<2:=(by omega);have Zf:=((LZ.ext Ai).ext X.drew).grown Ms (fun q e=>by cases e;exact .inl rfl);rw [tq.out]at hput;unfold As S at hput;have Xs:=Am9 OX;clear OX Ms OW BW Ac hx3 f0 f1 f2 f3 CL aP KP
           go_upto_region 27 with fail
           go_loopw [15] (fun v wx=>(v=.int .i64 1/\wx=w4)∨(v=.int .i64 2/\wx=Wp)) (fun v _=>2-(intOf v).toNat)
           case atStart=>exact .inl ⟨rfl,rfl⟩
           case round=>
            rcases hrel with⟨rfl,rfl⟩|⟨rfl,rfl⟩
            ·go_upto_region 29 with fail
             go_region_held3 (fun w'=>w'.cell? ⟨g,0,none⟩=some (S (R a0.x))/\w'.cell? ⟨g,1,none⟩=some (S (R a0.y))/\w'.cell? ⟨g,2,none⟩=some (S (R b0.x))/\w'.cell? ⟨g,3,none⟩=some (S (R b0.y)))
              (first|with_reducible exact SO _ X|with_reducible exact SO _ X.drew|with_reducible exact SP)
              (fail)
             all_goals go_wp2
             all_goals go_roundw
             case rel=>exact .inr ⟨rfl,trivial⟩
             case measure=>simp [intOf]
            ·go_wp2;go_roundw
             case rel=>exact⟨k+1,by go_num,hkn,by rw [iF,←List.append_assoc];exact Xs.out,Zf⟩
             case measure=>simp [intOf];omega)
      ·have Bw:k=pg.length:=(by omega);subst Bw;rw [←Iw.out]at Mf;have Xr:=Am9 Mf;clear Mf U6 U8;go_wp2;go_roundw
       case rel=>exact⟨j+1,by go_num,hjn,Xr.out,YZ⟩
       case measure=>simp [intOf];omega
    ·have H7:j=i:=(by omega);subst H7;have AY:Dp wr bm (B8 P j):=hM;go_wp2;go_ret;exact⟨bm,rfl,AY,hle,BI⟩
section
open Go.Shelf
def oK:List (Nat×Nat):=[(25,24),(25,23),(23,5),(23,11),(23,16),(23,22),(5,4),(4,0),(4,3),(3,2),(2,1),(11,10),(10,9),(9,8),(8,7),(7,6),(16,15),(15,14),(14,13),(13,12),(22,21),(21,17),(21,20),(20,19),(19,18)]
def Jf(i:Nat):Nat:=if i=24 then 6 else 17+i
structure CM where
 x:Dr
 bx:Nat
 ku:Nat
 ks:Nat
 kp:Nat
 kt:Nat
 sy:UInt8
 nm:Bs
 tx:Bs
structure CM.Ok(X:CM):Prop where
 u:X.ku=X.x.u.toNat%12
 s:X.ks=X.x.s.toNat%90
 p:X.kp=X.x.p.toNat%5
 t:X.kt=X.x.t.toNat%4
 y:(X.sy.toNat:Int)=33+(X.ks:Int)
 n:X.nm=Agx.getD X.ku []
 x':X.tx=AjI.getD X.kt []
def Qx(X:CM)(B:Nat)(w:World):Nat→Value→Prop
 | 0,v=>∃g,v=.slice (some ⟨g,0,none⟩) 12 12/\w.cell? ⟨g,X.ku,none⟩=some (S X.nm)
 | 1,v=>v=.pointer (some ⟨X.bx,0,none⟩)
 | 2,v=>v=.int .u8 (X.x.u.toNat:Nat)
 | 3,v=>v=.int .u8 (X.ku:Nat)
 | 4,v=>∃g,v=.pointer (some ⟨g,X.ku,none⟩)/\w.cell? ⟨g,X.ku,none⟩=some (S X.nm)
 | 5,v=>v=S X.nm
 | 6,v=>v=.pointer (some ⟨X.bx,1,none⟩)
 | 7,v=>v=.int .u8 (X.x.s.toNat:Nat)
 | 8,v=>v=.int .u8 (X.ks:Nat)
 | 9,v=>v=.int .u8 (X.sy.toNat:Nat)
 | 10,v=>∃g,v=.slice (some ⟨g,0,none⟩) 1 1/\w.cell? ⟨g,0,none⟩=some (.int .u8 (X.sy.toNat:Nat))
 | 11,v=>v=S [X.sy]
 | 12,v=>v=.pointer (some ⟨X.bx,2,none⟩)
 | 13,v=>v=.int .u8 (X.x.p.toNat:Nat)
 | 14,v=>v=.int .u8 (X.kp:Nat)
 | 15,v=>v=.int .i64 (X.kp:Nat)
 | 16,v=>v=.int .i64 (1+(X.kp:Int))
 | 17,v=>∃g,v=.slice (some ⟨g,0,none⟩) 4 4/\w.cell? ⟨g,X.kt,none⟩=some (S X.tx)
 | 18,v=>v=.pointer (some ⟨X.bx,3,none⟩)
 | 19,v=>v=.int .u8 (X.x.t.toNat:Nat)
 | 20,v=>v=.int .u8 (X.kt:Nat)
 | 21,v=>∃g,v=.pointer (some ⟨g,X.kt,none⟩)/\w.cell? ⟨g,X.kt,none⟩=some (S X.tx)
 | 22,v=>v=S X.tx
 | 23,v=>v=.agg #[S X.nm,S [X.sy],.int .i64 (1+(X.kp:Int)),S X.tx]
 | 24,v=>∃g,v=.pointer (some ⟨g,0,none⟩)/\w.heap[g]?=some (.cells #[S [],S [],.int .i64 0,S []] 40)/\B<=g
 | _,_=>True
theorem Qx.ext{X:CM}{B:Nat}{w w':World}(hx:Aa w w'){i:Nat}(hi:i<25){v:Value}(h:Qx X B w i v):Qx X B w' i v:=by
 rcases(by omega:i=0∨i=1∨i=2∨i=3∨i=4∨i=5∨i=6∨i=7∨i=8∨i=9∨i=10∨i=11∨i=12∨i=13∨i=14∨i=15∨i=16∨i=17∨i=18∨i=19∨i=20∨i=21∨i=22∨i=23∨i=24)with rfl|rfl|rfl|rfl|rfl|rfl|rfl|rfl|rfl|rfl|rfl|rfl|rfl|rfl|rfl|rfl|rfl|rfl|rfl|rfl|rfl|rfl|rfl|rfl|rfl
 ·obtain⟨g,h1,h2⟩:=h;exact⟨g,h1,hx.cellS h2⟩
 ·exact h
 ·exact h
 ·exact h
 ·obtain⟨g,h1,h2⟩:=h;exact⟨g,h1,hx.cellS h2⟩
 ·exact h
 ·exact h
 ·exact h
 ·exact h
 ·exact h
 ·obtain⟨g,h1,h2⟩:=h;exact⟨g,h1,hx.cellS h2⟩
 ·exact h
 ·exact h
 ·exact h
 ·exact h
 ·exact h
 ·exact h
 ·obtain⟨g,h1,h2⟩:=h;exact⟨g,h1,hx.cellS h2⟩
 ·exact h
 ·exact h
 ·exact h
 ·obtain⟨g,h1,h2⟩:=h;exact⟨g,h1,hx.cellS h2⟩
 ·exact h
 ·exact h
 ·obtain⟨g,h1,h2,h3⟩:=h;exact⟨g,h1,(hx.block _ (AmA h2)).trans h2,h3⟩
structure JM(X:CM)(V:World)(a0:Act)(ops:Array Oper)(l:Array Bool)(a:Act)(w:World):Prop where
 fr:Ha (fun d=>d=6∨(17<=d/\d<=40)) a0 a
 cl:∀j k,oK.contains (j,k)=true→l.getD j false=true→l.getD k false=true
 ext:l.getD 25 false=false→Aa V w
 fc:l.getD 25 false=false→∀i,i<25→l.getD i false=true→Qx X V.heap.size w i (a.eval (.tmp (Jf i)))
 fin:l.getD 25 false=true→∃g,a.eval (.tmp 6)=.pointer (some ⟨g,0,none⟩)/\w.heap[g]?=some (.cells #[S X.nm,S [X.sy],.int .i64 (1+(X.kp:Int)),S X.tx] 40)/\Aa V w
theorem AiT{i j:Nat}(hi:i<25)(hj:j<25)(h:i≠j):Jf j≠Jf i:=by unfold Jf;split<;>split<;>omega
theorem AiU{i:Nat}(hi:i<25):Jf i<=40:=by unfold Jf;split<;>omega
theorem AiS{i:Nat}(hi:i<25):Jf i=6∨(17<=Jf i/\Jf i<=40):=by unfold Jf;split<;>omega
theorem eval_put{a:Act}{d:Nat}(v:Value)(h:d<a.tmps.size):(a.put (some d) v).eval (.tmp d)=v:=by
 simp only [Act.eval,Act.put,Array.getD_eq_getD_getElem?];rw [Array.getElem?_setIfInBounds_self_of_lt h]
 rfl
section
variable {X : CM} {V : World} {a0 a : Act} {ops : Array Oper} {l : Array Bool} {w : World}
theorem JM.before(h:JM X V a0 ops l a w)(qS:l.getD 25 false=true):∀i,i<25→l.getD i false=true:=by
 intro i hi;have k24:=h.cl 25 24 (by decide) qS;have VR:=h.cl 25 23 (by decide) qS;have k5:=h.cl 23 5 (by decide) VR;have zE:=h.cl 23 11 (by decide) VR;have zF:=h.cl 23 16 (by decide) VR;have k22:=h.cl 23 22 (by decide) VR;have k4:=h.cl 5 4 (by decide) k5;have k0:=h.cl 4 0 (by decide) k4;have k3:=h.cl 4 3 (by decide) k4;have k2:=h.cl 3 2 (by decide) k3;have k1:=h.cl 2 1 (by decide) k2;have zD:=h.cl 11 10 (by decide) zE;have k9:=h.cl 10 9 (by decide) zD;have k8:=h.cl 9 8 (by decide) k9;have k7:=h.cl 8 7 (by decide) k8;have k6:=h.cl 7 6 (by decide) k7;have dT:=h.cl 16 15 (by decide) zF;have dS:=h.cl 15 14 (by decide) dT;have dR:=h.cl 14 13 (by decide) dS;have k12:=h.cl 13 12 (by decide) dR;have VQ:=h.cl 22 21 (by decide) k22;have zG:=h.cl 21 17 (by decide) VQ;have PH:=h.cl 21 20 (by decide) VQ;have VP:=h.cl 20 19 (by decide) PH;have dU:=h.cl 19 18 (by decide) VP
 rcases(by omega:i=0∨i=1∨i=2∨i=3∨i=4∨i=5∨i=6∨i=7∨i=8∨i=9∨i=10∨i=11∨i=12∨i=13∨i=14∨i=15∨i=16∨i=17∨i=18∨i=19∨i=20∨i=21∨i=22∨i=23∨i=24)with rfl|rfl|rfl|rfl|rfl|rfl|rfl|rfl|rfl|rfl|rfl|rfl|rfl|rfl|rfl|rfl|rfl|rfl|rfl|rfl|rfl|rfl|rfl|rfl|rfl<;>assumption
theorem JM.put(h:JM X V a0 ops l a w)(hs:l.size=26)(hz:51<=a0.tmps.size){i:Nat}(hi:i<25)(Ay:l.getD i false=false)(hd:∀k,oK.contains (i,k)=true→l.getD k false=true){v:Value}{w':World}(hx:Aa w w')(hf:Qx X V.heap.size w' i v):JM X V a0 ops (l.setIfInBounds i true) (a.put (some (Jf i)) v) w':=by
 have n25:l.getD 25 false=false:=by
  cases e:l.getD 25 false
  ·rfl
  ·have:=h.before e i hi;rw [Ay]at this;cases this
 have m25:(l.setIfInBounds i true).getD 25 false=false:=(by rw [getD_set_ne false (show i≠25 by omega)];exact n25);refine⟨h.fr.put (AiS hi) v,?_,fun _=>(h.ext n25).trans hx,?_,fun e=>by rw [m25]at e;cases e⟩
 ·intro j k hjk hj
  have hk:l.getD k false=true:=by
   by_cases e:i=j
   ·subst e;exact hd k hjk
   ·rw [getD_set_ne false e]at hj;exact h.cl j k hjk hj
  by_cases e:i=k
  ·subst e;rw [I6 (by omega)]
  ·rw [getD_set_ne false e];exact hk
 ·intro _ j hj hl;by_cases e:i=j
  ·subst e;rw [eval_put v (by rw [h.fr.size];have:=AiU hi;omega)];exact hf
  ·rw [getD_set_ne false e]at hl;rw [pN v (AiT hi hj e)];exact(h.fc n25 j hj hl).ext hx hj
end
end
end Go.Proofs.YtjalkoacphhgdaaGreatDoor
