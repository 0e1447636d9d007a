/- Z40: BP BL. -/
import Derived.Test.YtjalkoacphhgdaaGreatDoorZ38
set_option maxRecDepth 100000
set_option maxHeartbeats 16000000
namespace Go.Proofs.YtjalkoacphhgdaaGreatDoor
open Go.RowKit Kl
theorem pp(w:World)(o1 o2:Obj):((w.alloc o1).alloc o2).drew.heap[w.heap.size]?=some o1/\((w.alloc o1).alloc o2).drew.heap[w.heap.size+1]?=some o2/\Aa w ((w.alloc o1).alloc o2).drew:=by
 have E1:=(Aa.refl w).alloc o1;have h1:=Ann w o1;have E2:=(Aa.refl (w.alloc o1)).alloc o2;have h2:=Ann (w.alloc o1) o2;rw [Anv]at h2;exact⟨(E2.block _ (Anm h1)).trans h1,h2,(E1.trans E2).drew⟩
theorem fC{a b:World}(_:Aa a b):∃c,c=b:=⟨b,rfl⟩
theorem Dt.keys{B:Nat}{W:World}{b2:Nat}{E:List (Pt×Value×Nat)}{R0:List (Pt×List Pt)}(h:Dt B W b2 E R0):E.map (·.1)=R0.map (·.1):=by
 apply List.ext_getElem
 ·simp [h.len]
 ·intro i h1 h2;simp only [List.getElem_map];exact(h.row i (by simpa using h1) (by simpa using h2)).1
theorem Agi{w0 w:World}(hw:An w0)(hx:Aa w0 w){B:Nat}{r b1 b2:Nat}{L:List (Sg×Int)}{E:List (Pt×Value×Nat)}{R0:List (Pt×List Pt)}(h:Bo B w r b1 b2 L E R0)(hz:∀e∈R0,Ar 200 e.1/\∀p∈e.2,Ar 200 p)
  (hlen:R0.length<=100000) (hrl:∀e∈R0,e.2.length<100000) (BU:(R0.map (·.1)).Nodup) (hno:∀e∈R0,∀p q,e.2 = [p,q]→AE (Al p e.1 q)≠0) :
  Calls Tryz.prog 193 #[.pointer (some ⟨r,0,none⟩)] w fun e w'=>e=.returned (.tuple #[])/\Aa w w':=by
 have J0:=h.ar.len;have DC:=h.ar.keys;have m1:=Ab (o:=1) h.cell rfl;have EG:=(Aa.refl w).alloc (.cells #[.map (some b2)] 132);have BP:=Ann w (.cells #[.map (some b2)] 132)
 have sk:=nl hw (hx.trans EG) w.heap.size b2 E (fun i hi=>(h.ar.row i hi (by rw [←J0];exact hi)).2.1) (Anm BP) (Ab BP rfl) (h.ext EG).ar.blk
  (fun e he=>by
   have:e.1∈R0.map (·.1):=(by rw [←DC];exact List.mem_map_of_mem he);obtain⟨e',he',h1⟩:=List.mem_map.1 this
   rw [←h1];exact(hz e' he').1) (by omega)
 rw [DC]at sk;obtain⟨ks,IH⟩:=Ank (Ev (R0.map (·.1)));have Cl:ks.length=E.length:=by rw [IH,(JO _).length_eq,J0];simp
 have Sk:∀p∈ks,∃e∈R0,e.1=p:=fun p hp=>by rw [IH]at hp;obtain⟨e,he,h1⟩:=List.mem_map.1 ((JO _).mem_iff.1 hp);exact⟨e,he,h1⟩
 rw [←IH,←Cl]at sk;have Hb:=Anl h;have ut:=Anl Sk;have HZ:=Anl hz;have JY:=Anl hrl;have TK:=Anl BU;have Qy:=Anl hno;have hkn:ks.length<=100000:=(by omega);clear IH Cl Sk DC J0 hz hrl BU hno h hlen;have kp:=ay (some b2) w;go_enter Tryz.func193,Tryz.ntmps193;(go_wp2_with fail);(with_reducible refine kp.mono ?_);rintro e w2 ⟨rfl,rfl⟩;(go_wp2_with fail);(with_reducible refine sk.mono ?_);rintro e w3 ⟨sv,rfl,CN,EH⟩;obtain⟨sA,sc,rfl,AP,-,-⟩:=Ae.of_own' (by omega) CN;unfold ES at AP;have I5:Aa w w3:=EG.trans EH;have CX:=hx.trans I5;have Gg:=Anl (Hb.out.ext I5);clear sk kp BP EG EH CN m1;have hl0:(0:Int)<=(ks.length:Int):=by omega
 go_upto_region 1 with fail
 go_loopw [20] (fun iv wr=>∃k:Nat,iv=.int .i64 (k:Nat)/\k<=ks.length/\Aa w3 wr) (fun iv _=>ks.length-(intOf iv).toNat)
 case atStart=>exact⟨0,rfl,by omega,Aa.refl _⟩
 case round=>
  obtain⟨k,rfl,hk,BH⟩:=hrel;by_cases V8:k<ks.length
  ·obtain⟨b,o,rfl,f1,f2⟩:=Ct (AP.ext BH) V8;obtain⟨e,he,Vr⟩:=ut.out _ (Anp V8);obtain⟨p,hp⟩:=Ank (ks[k]);rw [←hp]at f1 f2 Vr;have aY:=kr TK.out he;rw [Vr]at aY;have hsz:=HZ.out e he;have hel:=JY.out e he;have IK:=Qy.out e he;rw [Vr]at hsz IK;obtain⟨es,hes⟩:=Ank e.2;have hk0:(0:Int)<=(k:Int):=(by omega);have Ca:(k:Int)<(ks.length:Int):=(by omega);have EA:=(Aa.refl wr).alloc (.cells #[S (R p.x),S (R p.y)] 92);have Aq:=Ann wr (.cells #[S (R p.x),S (R p.y)] 92);have OX:=Gg.out.ext (BH.trans EA);obtain⟨A,c,hv,hrow,hc1,hc2⟩:=OX.ar.look p aY;rw [←hes]at hv hrow hc1 hsz hel IK;have vn:=Anl IK;clear hp hes aY Vr he IK
   go_upto_region 3 with fail
   unfold S at Aq EA OX hrow;generalize wr.alloc (.cells #[.string ⟨(R p.x).toArray⟩,.string ⟨(R p.y).toArray⟩] 92)=V at *;obtain⟨ba,Mj⟩:=Ank wr.heap.size;rw [←Mj]at Aq ⊢;clear Mj f1 f2;have GK:=BH.trans EA;have q1:∀q:Af V,q.w.cell? ⟨r,1,none⟩=some (.map (some b2)):=Af.cell (Ab OX.cell rfl);have q2:∀q:Af V,q.w.cell? ⟨ba,0,none⟩=some (S (R p.x)):=Af.cell (Ab Aq rfl);have q3:∀q:Af V,q.w.cell? ⟨ba,1,none⟩=some (S (R p.y)):=Af.cell (Ab Aq rfl)
   have q5:∀q:Af V,(Instr.lookup 132 (.map (some b2)) (Ak p) false).run Tryz.prog q.w=.ok (.slice A es.length c) q.w:=fun q=>by rw [Qe PI p E (W:=q.w) ((q.h.block b2 OX.ar.lt).trans OX.ar.blk),hv]
   unfold Ak at q5;refine Ft (by kernel_rfl) (by kernel_rfl) ?_
   repeat (go_big_quiet_step (fail))
   refine wpQuiet_nil ?_;rintro W4 ⟨q,hq⟩;have Ai:Aa V W4:=hq▸q.h;have Ht:=GK.trans Ai;have aD:=(Ai.block _ (Anm Aq)).trans Aq;have hrow4:=hrow.ext Ai;clear q1 q2 q3 q5 hq q OX hv hrow Aq Ai EA BH GK;by_cases h2:es.length=2
   ·obtain⟨a,d,rfl⟩:∃a d,es = [a,d]:=by
     match es,h2 with
     | [a,d],_=>exact⟨a,d,rfl⟩
    have Gq:=vn.out a d rfl;obtain⟨bA,oA,rfl,g1,g2⟩:=Ct hrow4 (show 0 < [a,d].length by simp);obtain⟨bA',oA',hA',g3,g4⟩:=Ct hrow4 (show 1 < [a,d].length by simp);simp only [Ans,Addr.mk.injEq,and_true]at hA';obtain⟨rfl,rfl⟩:=hA';simp only [List.getElem_cons_zero,List.getElem_cons_succ,Nat.zero_mul,Nat.add_zero,Nat.one_mul]at g1 g2 g3 g4;have za:=hsz.2 a (by simp);have zd:=hsz.2 d (by simp);have y0:=Ab (o:=0) aD rfl;have y1:=Ab (o:=1) aD rfl;have SO:=fun (w':World) (h:Aa W4 w')=>(⟨h.cellS g1,h.cellS g2,h.cellS g3,h.cellS g4⟩:_/\_/\_/\_);have X:=Aa.refl W4;clear hrow4
    go_upto_region 5 with fail
    go_cut [5,6] (fun v5 v6 wx=>∃b5 b6,v5=.pointer (some ⟨b5,0,none⟩)/\v6=.pointer (some ⟨b6,0,none⟩)/\wx.heap[b5]?=some (.cells #[S (R a.x),S (R a.y)] 92)/\wx.heap[b6]?=some (.cells #[S (R d.x),S (R d.y)] 92)/\Aa W4 wx)
    case first=>
     go_region_held3 (fun w'=>w'.cell? ⟨bA,oA,none⟩=some (S (R a.x))/\w'.cell? ⟨bA,oA+1,none⟩=some (S (R a.y))/\w'.cell? ⟨bA,oA+2,none⟩=some (S (R d.x))/\w'.cell? ⟨bA,oA+2+1,none⟩=some (S (R d.y)))
      ((refine SO _ ?_;repeat (first|exact X|(with_reducible refine Aa.drew ?_)|(with_reducible refine Aa.alloc ?_ _)|(with_reducible refine Aa.setCell ?_ (by simp) _))))
      (fail)
     all_goals go_wp2
     all_goals go_meet
     all_goals
      first
       | (have tn:=pp W4 (.cells #[S (R a.x),S (R a.y)] 92) (.cells #[S (R d.x),S (R d.y)] 92);exact⟨_,_,rfl,rfl,tn.1,tn.2.1,tn.2.2⟩)
       | (have tn:=pp W4 (.cells #[S (R d.x),S (R d.y)] 92) (.cells #[S (R a.x),S (R a.y)] 92);exact⟨_,_,rfl,rfl,tn.2.1,tn.1,tn.2.2⟩)
    case rest=>
     obtain⟨b5,b6,rfl,rfl,hb5,I8,Ad⟩:=hcut;obtain⟨W5,rfl⟩:=fC Ad;have R9:=Ht.trans Ad;have y5:=Ad.cellS y0;have y6:=Ad.cellS y1;have u0:=Ab (o:=0) hb5 rfl;have u1:=Ab (o:=1) hb5 rfl;have u2:=Ab (o:=0) I8 rfl;have u3:=Ab (o:=1) I8 rfl;clear SO X g1 g2 g3 g4 y0 y1 Ad Ht aD hb5 I8;have SO:=fun (w':World) (h:Aa W5 w')=>(⟨h.cellS u0,h.cellS u1,h.cellS u2,h.cellS u3,h.cellS y5,h.cellS y6⟩:_/\_/\_/\_/\_/\_);have X:=Aa.refl W5
     go_upto_region 6 with fail
     go_cut [7,8] (fun v7 v8 wx=>∃b7 b8,v7=.pointer (some ⟨b7,0,none⟩)/\v8=.pointer (some ⟨b8,0,none⟩)/\Aa W5 wx)
     case first=>
      go_region_held3 (fun w'=>w'.cell? ⟨b5,0,none⟩=some (S (R a.x))/\w'.cell? ⟨b5,1,none⟩=some (S (R a.y))/\w'.cell? ⟨b6,0,none⟩=some (S (R d.x))/\w'.cell? ⟨b6,1,none⟩=some (S (R d.y))/\w'.cell? ⟨ba,0,none⟩=some (S (R p.x))/\w'.cell? ⟨ba,1,none⟩=some (S (R p.y)))
       ((refine SO _ ?_;repeat (first|exact X|(with_reducible refine Aa.drew ?_)|(with_reducible refine Aa.alloc ?_ _)|(with_reducible refine Aa.setCell ?_ (by simp) _))))
       (fail)
      all_goals go_wp2
      all_goals go_meet
      all_goals exact⟨_,_,rfl,rfl,((X.alloc _).alloc _).drew⟩
     case rest=>
      obtain⟨b7,b8,rfl,rfl,AI⟩:=hcut;obtain⟨W6,rfl⟩:=fC AI;have Mg:=R9.trans AI;have q0:∀q:Af W6,q.w.cell? ⟨b5,0,none⟩=some (S (R a.x)):=Af.cell (AI.cellS u0);have q1:∀q:Af W6,q.w.cell? ⟨b5,1,none⟩=some (S (R a.y)):=Af.cell (AI.cellS u1);have q2:∀q:Af W6,q.w.cell? ⟨b6,0,none⟩=some (S (R d.x)):=Af.cell (AI.cellS u2);have q3:∀q:Af W6,q.w.cell? ⟨b6,1,none⟩=some (S (R d.y)):=Af.cell (AI.cellS u3);have q4:∀q:Af W6,q.w.cell? ⟨ba,0,none⟩=some (S (R p.x)):=Af.cell (AI.cellS y5);have q5:∀q:Af W6,q.w.cell? ⟨ba,1,none⟩=some (S (R p.y)):=Af.cell (AI.cellS y6);have ct:=fun (q:Af W6)=>Lk a p d za hsz.1 zd (by omega) (by omega) q.w (hw.ext ((CX.trans Mg).trans q.h));obtain⟨s,hs⟩:=Ank (AE (Al a p d));rw [←hs]at ct Gq;unfold Ak S at ct;have hs1:(s == 0)=false:=beq_false_of_ne Gq;have hs2:(s != 0)=true:=(by rw [bne,hs1];rfl);clear hs SO X u0 u1 u2 u3 y5 y6 AI Gq
      go_upto_region 7 with fail
      refine Ft (by kernel_rfl) (by kernel_rfl) ?_
      repeat (go_big_quiet_step (with_reducible refine Eg (ct _)))
      refine wpQuiet_nil ?_;rintro W7 ⟨q,hq⟩;have AG:Aa W6 W7:=hq▸q.h;clear hq q q0 q1 q2 q3 q4 q5 ct;go_wp2;go_roundw
      case rel=>exact⟨k+1,by go_num,V8,Mg.trans AG⟩
      case measure=>simp [intOf];omega
   ·have EL:¬((es.length:Int)=2):=(by omega);have hb2:((es.length:Int) == 2)=false:=beq_false_of_ne EL;have hb3:((es.length:Int) != 2)=true:=(by rw [bne,hb2];rfl);go_wp2;go_roundw
    case rel=>exact⟨k+1,by go_num,V8,Ht⟩
    case measure=>simp [intOf];omega
  ·have Bu:k=ks.length:=(by omega);subst Bu;go_wp2
   go_end0
   exact⟨rfl,I5.trans BH⟩
def FW(p:List Pt)(k:Nat):Sg:=⟨p.getD k ⟨0,0⟩,p.getD ((k+1)%p.length) ⟨0,0⟩⟩
def EW(p:List Pt)(k:Nat)(i:Nat):List (Sg×Int):=(List.range k).map fun j=>(FW p j,(i:Int))
def B8(P:List (List Pt×Bs))(n:Nat):List (Sg×Int):=(List.range n).flatMap fun i=>EW (P.getD i ([],[])).1 (P.getD i ([],[])).1.length i
theorem jG(p:List Pt)(k i:Nat):EW p (k+1) i=EW p k i ++ [(FW p k,(i:Int))]:=by simp [EW,List.range_succ]
theorem my{P:List (List Pt×Bs)}{n:Nat}(h:n<P.length):B8 P (n+1)=B8 P n++EW P[n].1 P[n].1.length n:=by
 unfold B8;rw [List.range_succ,List.flatMap_append];simp [List.getD_eq_getElem?_getD,Ant h]
def Rf(s:Sg):List Pt:=if 0<AX s.a s.b then [s.b,s.a] else [s.a,s.b]
structure lZ(P:List (List Pt×Bs)):Prop where
 len:P.length<=1000
 pc:∀e∈P,0<e.1.length/\e.1.length<=60
 sz:∀e∈P,∀p∈e.1,Ar 200 p
 two:∀e∈P,∀k,k<e.1.length→(QT P).filter (fun q=>Gv (FW e.1 k).a (FW e.1 k).b q)=Rf (FW e.1 k)
 nd:((B8 P P.length).map (·.1)).Nodup
theorem mr(P:List (List Pt×Bs))(m:Nat):∀d,∃r,B8 P (m+d)=B8 P m++r
 | 0=>⟨[],by simp⟩
 | d+1=>by
  obtain⟨r,hr⟩:=mr P m d;refine⟨r++EW (P.getD (m+d) ([],[])).1 (P.getD (m+d) ([],[])).1.length (m+d),?_⟩
  have e:B8 P (m+(d+1))=B8 P (m+d)++EW (P.getD (m+d) ([],[])).1 (P.getD (m+d) ([],[])).1.length (m+d):=by unfold B8;rw [←Nat.add_assoc,List.range_succ,List.flatMap_append];simp
  rw [e,hr,List.append_assoc]
theorem mz(p:List Pt)(k i:Nat):∀d,∃r,EW p (k+d) i=EW p k i++r
 | 0=>⟨[],by simp⟩
 | d+1=>by obtain⟨r,hr⟩:=mz p k i d;exact⟨r ++ [(FW p (k+d),(i:Int))],by rw [←Nat.add_assoc,jG,hr,List.append_assoc]⟩
theorem Aj7{P:List (List Pt×Bs)}(BU:((B8 P P.length).map (·.1)).Nodup){j k:Nat}(hj:j<P.length)(hk:k<P[j].1.length):∀e∈B8 P j++EW P[j].1 k j,AK (FW P[j].1 k) e.1=false:=by
 obtain⟨r1,h1⟩:=mr P (j+1) (P.length-(j+1));rw [show j+1+(P.length-(j+1))=P.length by omega,my hj]at h1;obtain⟨r2,h2⟩:=mz P[j].1 (k+1) j (P[j].1.length-(k+1));rw [show k+1+(P[j].1.length-(k+1))=P[j].1.length by omega,jG]at h2;rw [h1,h2]at BU;intro e he;refine l8 fun hh=>?_;have e0:B8 P j++(EW P[j].1 k j ++ [(FW P[j].1 k,(j:Int))]++r2)++r1=(B8 P j++EW P[j].1 k j)++((FW P[j].1 k,(j:Int))::(r2++r1)):=(by simp);rw [e0,List.map_append,List.map_cons,List.nodup_append]at BU;exact BU.2.2 _ (List.mem_map_of_mem he) _ List.mem_cons_self hh.symm
theorem Aj6{p:List Pt}{k q:Nat}(hk:k<p.length)(hq:q=(k+1)%p.length)(Bp:q<p.length):FW p k=⟨p[k],p[q]⟩:=by
 unfold FW;rw [←hq];simp [List.getD_eq_getElem?_getD,Ant hk,Ant Bp]
def ym(w:World)(L:List (Sg×Int))(e:Ending)(w':World):Prop:=
 ∃b,e=.returned (.map (some b))/\Ds w' b L/\w.heap.size<=b/\Aa w w'
theorem Ait(P:List (List Pt×Bs))(hP:lZ P)(A:Option Addr)(c:Nat)(w:World)(hw:An w)(h:Kd w A c P) :
  Calls Tryz.prog 103 #[.slice A P.length c] w (ym w (B8 P P.length)):=by
 have hmm:=@run_makeMap Tryz.prog;obtain⟨n,hn⟩:=Ank P.length;rw [←hn];have HN:=Anl hn;have hlen:n<=1000:=(by rw [hn];exact hP.len);have HP:=Anl hP;have HA:=Anl h;have hc1:n<=c:=(by rw [hn];exact h.c1);clear hn hP h;go_enter Tryz.func103,Tryz.ntmps103
 go_upto_region 3 with fail
 go_loopw [3,18] (fun ov iv wr=>∃i:Nat,iv=.int .i64 (i:Nat)/\i<=n/\wr.ownsRow w.heap.size 92 2 ov (Df P i).length (flat (Ao (Df P i)))/\Aa w wr) (fun _ iv _=>n-(intOf iv).toNat)
 case atStart=>exact⟨0,rfl,by omega,⟨rfl,.inl ⟨rfl,rfl⟩⟩,Aa.refl _⟩
 case round=>
  obtain⟨i,rfl,hi,hown,Ac⟩:=hrel;obtain⟨vA,vc,rfl⟩:=gI (by omega) hown;by_cases hin:i<n
  ·have Mq:i<P.length:=(by rw [←HN.out];exact hin);obtain⟨bA,oA,A',c',rfl,AD,AU,Bp,AP,hr1,hr2⟩:=HA.out.row i Mq;have IM:=HP.out.pc _ (Anp Mq);have P5:=oW Mq;have Dk:=YQ (fun e he=>(HP.out.pc e he).2) i (by omega);obtain⟨pg,Gp⟩:=Ank (P[i].1);obtain⟨un,Au⟩:=Ank (P[i].2);rw [←Gp]at AD AP hr1 IM P5;rw [←Au]at AU;replace AD:=Ac.cellS AD;replace AU:=Ac.cellS AU;replace Bp:=Ac.cellS Bp;replace AP:=AP.ext Ac;have KF:(0:Int)<=(i:Int):=(by omega);have Pp:(i:Int)<(n:Int):=(by omega);have E4:=(Aa.refl wr).alloc (.cells #[.slice A' pg.length c',S un,.slice none 0 0] 95);have Aw:=Ann wr (.cells #[.slice A' pg.length c',S un,.slice none 0 0] 95);have wT:(Df P i).length<200000:=(by omega);have lH:=Anl P5;obtain⟨cl,hcl⟩:=Ank (Df P i);rw [←hcl]at hown wT lH ⊢;have HCL:=Anl hcl;clear P5 Dk Gp Au hcl
   go_upto_region 5 with fail
   unfold S at Aw E4;generalize wr.alloc (.cells #[.slice A' pg.length c',.string ⟨un.toArray⟩,.slice none 0 0] 95)=W4 at *;have y0:=Ab (o:=0) Aw rfl;have J9:wr.heap.size<=W4.heap.size:=E4.size;have hs0:=Ac.size;clear AD AU Bp
   go_wp2_with (at_builtin;go_loud (refine zm rfl _ _ rfl _ w.heap.size (.slice vA cl.length vc) cl.length cl rfl (Az hown E4) wT pg A' c' rfl (AP.ext E4) IM.1 (by omega) (by omega) ?_);intro v7 w7 KO aR)
   go_roundw
   case rel=>exact⟨i+1,by go_num,hin,by rw [lH.out,List.length_append];exact KO,aR w (Ac.trans E4) (Ano _)⟩
   case measure=>simp [intOf];omega
  ·have NF:i=n:=(by omega);subst NF;have hsz:=HP.out.sz;have Aey:=YQ (fun e he=>(HP.out.pc e he).2) i (by have:=HN.out;omega)
   have CN:=ng hw Ac (Ano _) (Df P i) (fun s hs=>by
    obtain⟨e,he,hq⟩:=dx hs
    exact hsz e he s hq) (by omega) hown
   obtain⟨C,hC⟩:=Ank (QT P);have UG:Lib.compact (Ev (Df P i))=C:=by rw [hC];unfold QT;rw [←HN.out]
   have sE:C.length<=60000:=by rw [←UG];refine Anz (Abu _) ?_;rw [(JO _).length_eq];omega
   have sF:∀q∈C,Ar 200 q:=fun q hq=>by rw [←UG]at hq;obtain⟨e,he,hq⟩:=dx ((JO _).mem_iff.1 (mem_compact hq));exact hsz e he q hq
   have cc:=fun (w5:World) (h:w5.ownsRow w.heap.size 92 2 (.slice vA (Df P i).length vc) (Df P i).length (ES (Ev (Df P i))))=>Abr (Ev (Df P i)) (.slice vA (Df P i).length vc) w5 w.heap.size (by rw [(JO _).length_eq];exact h)
   rw [UG]at cc;have HC:=Anl hC;have FY:=Anl sF;clear hsz UG hC sF;obtain⟨m0,hm0⟩:=Ank ((Df P i).length);rw [←hm0]at hown CN cc Aey ⊢;clear hm0;(go_wp2_with fail);(with_reducible refine CN.mono ?_);rintro e w5 ⟨rfl,hg5,Ch⟩;have Ad:Aa w w5:=Ac.grownOwn hg5 hown (Ano _);have c5:=cc w5 Ch;clear cc CN hg5 hown;(go_wp2_with fail);(with_reducible refine c5.mono ?_);rintro e w6 ⟨A6,k6,rfl,hr6,h61,h62,OZ⟩;have AI:Aa w w6:=OZ w Ad (Ano _);clear OZ c5 Ch Ad Ac;have Di:=Ann w6 (.map #[] 0);have E7:=(Aa.refl w6).alloc (.map #[] 0)
   go_upto_region 11 with fail
   generalize w6.alloc (.map #[] 0)=W7 at *;obtain⟨bm,uM⟩:=Ank w6.heap.size;rw [←uM]at Di ⊢;have hle:w.heap.size<=bm:=(by have:=AI.size;omega);have J3:=AI.trans E7;have hr7:=hr6.ext E7;clear uM hr6 E7 AI;have OU:Ds W7 bm (B8 P 0):=Di
   go_loopw [34] (fun iv wr=>∃j:Nat,iv=.int .i64 (j:Nat)/\j<=i/\Ds wr bm (B8 P j)/\Av (fun q=>q=bm) W7 wr) (fun iv _=>i-(intOf iv).toNat)
   case atStart=>exact⟨0,rfl,by omega,OU,Av.refl _ _⟩
   case round=>
    obtain⟨j,rfl,hj,hM,hB⟩:=hrel;have BH:Aa w wr:=hB.toExt J3 (fun q e=>by subst e;exact hle);by_cases hjn:j<i
    ·have H7:j<P.length:=(by rw [←HN.out];exact hjn);obtain⟨bA,oA,A',c',rfl,AD,AU,Bp,AP,hr1,hr2⟩:=HA.out.row j H7;have IM:=HP.out.pc _ (Anp H7);have Mw:=HP.out.sz _ (Anp H7);have KV:=HP.out.two _ (Anp H7);have DY:=my H7;have hnew:=fun k (hk:k<P[j].1.length)=>Aj7 HP.out.nd H7 hk;obtain⟨pg,Gp⟩:=Ank (P[j].1);obtain⟨un,Au⟩:=Ank (P[j].2);rw [←Gp]at AD AP hr1 IM Mw KV DY hnew;rw [←Au]at AU;replace AD:=BH.cellS AD;replace AU:=BH.cellS AU;replace Bp:=BH.cellS Bp;have KF:(0:Int)<=(j:Int):=(by omega);have Pp:(j:Int)<(i:Int):=(by omega);have E8:=(Aa.refl wr).alloc (.cells #[.slice A' pg.length c',S un,.slice none 0 0] 95);have Bt:=Ann wr (.cells #[.slice A' pg.length c',S un,.slice none 0 0] 95);have vh:=Anl hnew;have lD:=Anl Mw;have xf:=Anl KV;have Iv:=Anl DY;clear Gp Au Mw KV DY hnew
     go_upto_region 13 with fail
     unfold S at Bt E8;generalize wr.alloc (.cells #[.slice A' pg.length c',.string ⟨un.toArray⟩,.slice none 0 0] 95)=W8 at *;obtain⟨bp,aH⟩:=Ank wr.heap.size;rw [←aH]at Bt ⊢;have AlU:bm<bp:=(by rw [aH];exact Anm hM);have y0:=Ab (o:=0) Bt rfl
     have Ry:Ds W8 bm (B8 P j++EW pg 0 j):=by have e:EW pg 0 j = []:=rfl;rw [e,List.append_nil];exact hM.ext E8
     have UC:=hB.ext E8;clear aH AD AU Bp hM hB E8 BH
     go_upto_region 14 with fail
     go_loopw [42] (fun kv wk=>∃k:Nat,kv=.int .i64 (k:Nat)/\k<=pg.length/\Ds wk bm (B8 P j++EW pg k j)/\Av (fun q=>q=bm) W8 wk) (fun kv _=>pg.length-(intOf kv).toNat)
     case atStart=>exact⟨0,rfl,by omega,Ry,Av.refl _ _⟩
     case round=>
      obtain⟨k,rfl,hk,Mb,UE⟩:=hrel;have Zp:=UC.trans UE;have UZ:Aa w wr:=Zp.toExt J3 (fun q e=>by subst e;exact hle);have uR:=UE.cells Bt (by omega);by_cases hkn:k<pg.length
      ·obtain⟨q,hq⟩:=Ank ((k+1)%pg.length);have J8:q<pg.length:=by rw [hq];exact Nat.mod_lt _ (by omega)
       have Pw:(((k:Int)+1)).tmod (pg.length:Int)=(q:Int):=by rw [Int.tmod_eq_emod_of_nonneg (by omega),hq,Int.natCast_emod];rfl
       have Aet:(((k:Int)+1))%(pg.length:Int)=(q:Int):=(by rw [hq,Int.natCast_emod];rfl);have VH:¬((pg.length:Int)=0):=(by omega);have xE:¬(pg.length=0):=(by omega);have Ae7:((pg.length:Int) == 0)=false:=beq_false_of_ne VH;have xR:IntKind.wrap .i64 (q:Int)=(q:Int):=Anu _ (by omega);have Sm:IntKind.wrap .i64 ((k:Int)+1)=(k:Int)+1:=Anu _ (by omega);obtain⟨b,o,rfl,ka,kb⟩:=Ct (AP.ext UZ) hkn;obtain⟨b',o',he,qa,qb⟩:=Ct (AP.ext UZ) J8;simp only [Ans,Addr.mk.injEq,and_true]at he;obtain⟨rfl,rfl⟩:=he;have dE:=lD.out _ (Anp hkn);have S6:=lD.out _ (Anp J8);have S7:=Aj6 hkn hq J8;have KV:=xf.out k hkn;rw [S7]at KV;obtain⟨a0,ha0⟩:=Ank (pg[k]);obtain⟨b0,hb0⟩:=Ank (pg[q]);rw [←ha0]at ka kb dE KV S7;rw [←hb0]at qa qb S6 KV S7;have xg:=Anl KV;have wm:=Anl S7;have hk0:(0:Int)<=(k:Int):=(by omega);have Ca:(k:Int)<(pg.length:Int):=(by omega);have AeI:(0:Int)<=(q:Int):=(by omega);have AeJ:(q:Int)<(pg.length:Int):=(by omega);have hm0:(0:Int)<(pg.length:Int):=(by omega);clear ha0 hb0 hq KV S7;have hpn:pg≠[]:=fun e=>(by rw [e]at hkn;simp at hkn);have Aq:=Ann wr (.cells #[S (R a0.x),S (R a0.y)] 92);have EA:=(Aa.refl wr).alloc (.cells #[S (R a0.x),S (R a0.y)] 92)
       go_upto_region 16 with fail
       unfold S at Aq EA;generalize wr.alloc (.cells #[.string ⟨(R a0.x).toArray⟩,.string ⟨(R a0.y).toArray⟩] 92)=VA at *;obtain⟨ba,Mj⟩:=Ank wr.heap.size;rw [←Mj]at Aq ⊢;have Amr:w.heap.size<=ba:=(by have:=UZ.size;omega);clear Mj;replace qa:=EA.cellS qa;replace qb:=EA.cellS qb;have yp:=EA.cellS (Ab (o:=0) uR rfl);have X:=Aa.refl VA;have SO:=fun (w':World) (h:Aa VA w')=>(⟨h.cellS yp,h.cellS qa,h.cellS qb⟩:_/\_/\_);clear y0 ka kb
       go_cut [11] (fun v11 wx=>∃bb,v11=.pointer (some ⟨bb,0,none⟩)/\wx.heap[bb]?=some (.cells #[S (R b0.x),S (R b0.y)] 92)/\Aa VA wx)
       case first=>
        go_region_held3 (fun w'=>w'.cell? ⟨bp,0,none⟩=some (.slice (some ⟨b,o,none⟩) pg.length c')/\w'.cell? ⟨b,o+q*2,none⟩=some (S (R b0.x))/\w'.cell? ⟨b,o+q*2+1,none⟩=some (S (R b0.y)))
         ((refine SO _ ?_;repeat (first|exact X|(with_reducible refine Aa.drew ?_)|(with_reducible refine Aa.alloc ?_ _)|(with_reducible refine Aa.setCell ?_ (by simp) _))))
         (fail)
        all_goals go_wp2
        all_goals go_meet
        all_goals exact⟨_,rfl,by unfold S;exact Ann VA _,(X.alloc _).drew⟩
       case rest=>
        obtain⟨bb,rfl,Bl,BM⟩:=hcut;obtain⟨W9,rfl⟩:=Aha BM;have K1:Aa w W9:=UZ.trans (EA.trans BM)
        have Ve:=BM.block _ (Anm Aq) |>.trans Aq
        have xX:Ae W9 A6 (flat (Ao C)):=by
         refine⟨fun h0=>?_⟩;obtain⟨g0,o0,e0,hc0⟩:=hr7.ad h0;refine⟨g0,o0,e0,fun z hz=>?_⟩;have h7:=hc0 z hz;refine(EA.trans BM).cellS ?_
         exact(World.cell?_of_block (a:=⟨g0,o0+z,none⟩) (Zp.block g0 (World.block_lt_of_cell? W7 _ h7) (fun e=>by
          subst e;rw [World.cell?]at h7
          simp [Di]at h7))).trans h7
        have hM9:Ds W9 bm (B8 P j++EW pg k j):=Mb.ext (EA.trans BM);have LW:=(UE.ext EA).ext BM;have hw9:=hw.ext K1;clear SO X qa qb yp Aq BM EA Mb uR
        go_upto_region 19 with fail
        go_loopw [12,59] (fun ov qv wx=>∃(z:Nat) (l:List Pt),qv=.int .i64 (z:Nat)/\z<=C.length/\l=(C.take z).filter (fun p=>Gv a0 b0 p)/\wx.ownsRow W9.heap.size 92 2 ov l.length (flat (Ao l))/\Aa W9 wx) (fun _ qv _=>C.length-(intOf qv).toNat)
        case atStart=>exact⟨0,[],rfl,by omega,by simp,⟨rfl,.inl ⟨rfl,rfl⟩⟩,Aa.refl _⟩
        case round=>
         obtain⟨z,l,rfl,hz,hl,hown,Ac⟩:=hrel;obtain⟨vL,qf,rfl⟩:=gI (by omega) hown;by_cases MB:z<C.length
         ·obtain⟨b2,o2,rfl,ca,cb⟩:=Ct (xX.ext Ac) MB;have FS:=FY.out _ (Anp MB)
          have Ia:(C.take (z+1)).filter (fun p=>Gv a0 b0 p)=l++(if Gv a0 b0 C[z]=true then [C[z]] else []):=by
           rw [Anr MB,List.filter_append,←hl]
           congr 1
           simp [List.filter_cons]
          obtain⟨q0,AD⟩:=Ank (C[z]);rw [←AD]at ca cb FS Ia;have hz0:(0:Int)<=(z:Int):=(by omega);have hz1:(z:Int)<(C.length:Int):=(by omega);have Dk:l.length<200000:=(by rw [hl];have:=List.length_filter_le (fun p=>Gv a0 b0 p) (C.take z);rw [List.length_take]at this;omega);have Hx:=Ann wr (.cells #[S (R q0.x),S (R q0.y)] 92);have EQ:=(Aa.refl wr).alloc (.cells #[S (R q0.x),S (R q0.y)] 92);have pc:=fun (V:World) (h:Aa w V)=>jr a0 b0 q0 dE S6 FS (by omega) (by omega) V (hw.ext h);obtain⟨bt,FC⟩:=Ank (Gv a0 b0 q0);rw [←FC]at pc Ia;have LH:=Anl Ia;clear AD Ia FC hl
          go_upto_region 21 with fail
          unfold S at Hx EQ Bl ca cb;generalize wr.alloc (.cells #[.string ⟨(R q0.x).toArray⟩,.string ⟨(R q0.y).toArray⟩] 92)=V2 at *;have Ck:=Ac.trans EQ;have x0:=Ck.cellS (Ab (o:=0) Ve rfl);have x1:=Ck.cellS (Ab (o:=1) Ve rfl);have x2:=Ck.cellS (Ab (o:=0) Bl rfl);have x3:=Ck.cellS (Ab (o:=1) Bl rfl);have x4:=Ab (o:=0) Hx rfl;have x5:=Ab (o:=1) Hx rfl;have p2:=pc V2 (K1.trans Ck);unfold Ak S at p2;clear pc ca cb;(go_wp2_with fail);(with_reducible refine p2.mono ?_);rintro e w3 ⟨rfl,hx3⟩;have x6:=hx3.cellS x4;have x7:=hx3.cellS x5;have VO:W9.heap.size<=w3.heap.size:=(Ck.trans hx3).size;clear p2 x0 x1 x2 x3 x4 x5
          cases bt
          ·have Als:=Anl LH.out;go_wp2;go_roundw
           case rel=>exact⟨z+1,l,by go_num,MB,by rw [LH.out];simp,Az hown (EQ.trans hx3),Ck.trans hx3⟩
           case measure=>simp [intOf];omega
          ·have C4:=Az hown (EQ.trans hx3)
           go_wp2_with (at_builtin;go_loud (refine zk rfl _ _ rfl _ W9.heap.size (.slice vL l.length qf) l.length l rfl (Az C4 ((Aa.refl w3).alloc _)) Dk q0 w3.heap.size (Ann w3 _) rfl (by simp;omega) ?_);intro v8 w8 hown8 Bq)
           go_roundw
           case rel=>exact⟨z+1,l ++ [q0],by go_num,MB,by rw [LH.out];simp,by rw [List.length_append];exact hown8,Bq W9 ((Ck.trans hx3).alloc _) (Ano _)⟩
           case measure=>simp [intOf];omega
         ·have zK:z=C.length:=by omega
          have bP:l=Rf ⟨a0,b0⟩:=by rw [hl,zK,List.take_length];have h2:=xg.out;rw [←HC.out]at h2;exact h2
          subst zK;have hl2:l.length=2:=by rw [bP];unfold Rf;split<;>rfl
          obtain⟨g,cap,dO⟩:∃g cap,Value.slice vL l.length qf=.slice (some ⟨g,0,none⟩) 2 cap:=by
           rcases hown.2 with⟨_,h'⟩|⟨g,cap,cur,hv,_⟩
           ·omega
           ·exact⟨g,cap,by rw [hv,hl2]⟩
          rw [dO,hl2,bP]at hown;simp only [Value.slice.injEq]at dO;obtain⟨VU,-,hv2⟩:=dO;subst VU hv2;rw [hl2];have cp:=fun (V:World) (h:Aa w V)=>Ig a0 b0 dE S6 (by omega) (by omega) V (hw.ext h);obtain⟨r,hr⟩:=Ank (AX a0 b0);rw [←hr]at cp;unfold Rf at hown;simp only [←hr]at hown;unfold S at Bl;have x0:=Ac.cellS (Ab (o:=0) Ve rfl);have x1:=Ac.cellS (Ab (o:=1) Ve rfl);have x2:=Ac.cellS (Ab (o:=0) Bl rfl);have x3:=Ac.cellS (Ab (o:=1) Bl rfl);have p2:=cp wr (K1.trans Ac);unfold Ak S at p2;clear cp hr bP hl hl2
          go_upto_region 24 with fail
          (go_wp2_with fail);(with_reducible refine p2.mono ?_);rintro e w3 ⟨rfl,hx3⟩;have C4:=Az hown hx3;clear p2 x0 x1 x2 x3 hown;by_cases Cb:0<r
          case' pos=>rw [if_pos Cb]at C4;have rv:=Ajd b0 a0 g _ W9.heap.size w3 C4;have AeG:r>0:=Cb;(go_wp2_with fail);(with_reducible refine rv.mono ?_);rintro e w4 ⟨rfl,BV,hg4⟩;have Ai:=(Ac.trans hx3).grownOwn hg4 C4 (Ano _);clear hg4 rv C4
          case' neg=>rw [if_neg Cb]at C4;have AeG:¬r>0:=Cb;obtain⟨w4,rfl⟩:=Ank w3;have BV:=C4;have Ai:=Ac.trans hx3;clear C4
          all_goals (
           have Ht:Aa w w4:=K1.trans Ai;have f0:=BV.cellAt 0 (by omega);have f1:=BV.cellAt 1 (by omega);have f2:=BV.cellAt 2 (by omega);have f3:=BV.cellAt 3 (by omega);simp only [Ao,Lj,flat,List.map_cons,List.map_nil,List.flatMap_cons,List.flatMap_nil,List.append_nil,List.cons_append,List.nil_append,List.getElem?_cons_zero,List.getElem?_cons_succ]at f0 f1 f2 f3;have SO:=fun (w':World) (h:Aa w4 w')=>(⟨h.cellS f0,h.cellS f1,h.cellS f2,h.cellS f3⟩:_/\_/\_/\_);have X:=Aa.refl w4;have OV:Ds w4 bm (B8 P j++EW pg k j):=hM9.ext Ai;obtain⟨Wp,hput,OW,Mo,-⟩:=cm (OV.ext X.drew) (FW pg k) (vh.out k hkn) (j:Int)
           have CL:∃cs t,w4.heap[g]?=some (.cells cs t (0,0)):=by
            rcases BV.2 with⟨h',_⟩|⟨g',cap',cur,hv,_,hgb,_⟩
            ·omega
            ·simp only [Value.slice.injEq,Ans,Addr.mk.injEq]at hv;obtain⟨⟨rfl,-⟩,-⟩:=hv;exact⟨_,_,hgb⟩
           obtain⟨cg,tg,CL⟩:=CL
           have bI:some g≠some bm:=by
            intro e
            cases e;have h4:=OV;unfold Ds at h4;rw [h4]at CL
            cases CL
           have KP:=fun (o:Nat) (v:Value) (h:w4.cell? ⟨g,o,none⟩=some v)=>(World.cell?_of_block (a:=⟨g,o,none⟩) (Mo.block g (Anm CL) bI)).trans h;have SP:=And.intro (KP _ _ f0) (And.intro (KP _ _ f1) (And.intro (KP _ _ f2) (KP _ _ f3)));have h11:IntKind.i64.wrap (0:Int)=0:=(by decide);have h02:(0:Int)<2:=(by omega);have Zv:=((LW.ext Ai).ext X.drew).grown Mo (fun q e=>by cases e;exact .inl rfl);rw [wm.out]at hput;unfold As S at hput;have XK:=Anl OW;clear OW Mo OV BV Ac hx3 f0 f1 f2 f3 CL bI KP
           go_upto_region 27 with fail
           go_loopw [15] (fun v wx=>(v=.int .i64 1/\wx=w4)∨(v=.int .i64 2/\wx=Wp)) (fun v _=>2-(intOf v).toNat)
           case atStart=>exact .inl ⟨rfl,rfl⟩
           case round=>
            rcases hrel with⟨rfl,rfl⟩|⟨rfl,rfl⟩
            ·go_upto_region 29 with fail
             go_region_held3 (fun w'=>w'.cell? ⟨g,0,none⟩=some (S (R a0.x))/\w'.cell? ⟨g,1,none⟩=some (S (R a0.y))/\w'.cell? ⟨g,2,none⟩=some (S (R b0.x))/\w'.cell? ⟨g,3,none⟩=some (S (R b0.y)))
              (first|with_reducible exact SO _ X|with_reducible exact SO _ X.drew|with_reducible exact SP)
              (fail)
             all_goals go_wp2
             all_goals go_roundw
             case rel=>exact .inr ⟨rfl,trivial⟩
             case measure=>simp [intOf]
            ·go_wp2;go_roundw
             case rel=>exact⟨k+1,by go_num,hkn,by rw [jG,←List.append_assoc];exact XK.out,Zv⟩
             case measure=>simp [intOf];omega)
      ·have Bu:k=pg.length:=(by omega);subst Bu;rw [←Iv.out]at Mb;have Qx:=Anl Mb;clear Mb UC UE;go_wp2;go_roundw
       case rel=>exact⟨j+1,by go_num,hjn,Qx.out,Zp⟩
       case measure=>simp [intOf];omega
    ·have J7:j=i:=(by omega);subst J7;have AS:Ds wr bm (B8 P j):=hM;go_wp2;go_ret;exact⟨bm,rfl,AS,hle,BH⟩
end Go.Proofs.YtjalkoacphhgdaaGreatDoor
