/- V36: BP BL LGL LGN. -/
import Derived.Test.YtbejphgbbpplbaaGreatDoorV34
set_option maxRecDepth 100000
set_option maxHeartbeats 16000000
namespace Go.Proofs.YtbejphgbbpplbaaGreatDoor
open Go.RowKit Kl
theorem pu(w:World)(o1 o2:Obj):((w.alloc o1).alloc o2).drew.heap[w.heap.size]?=some o1/\((w.alloc o1).alloc o2).drew.heap[w.heap.size+1]?=some o2/\Aa w ((w.alloc o1).alloc o2).drew:=by
 have E1:=(Aa.refl w).alloc o1;have h1:=AmW w o1;have E2:=(Aa.refl (w.alloc o1)).alloc o2;have h2:=AmW (w.alloc o1) o2;rw [Anf]at h2;exact⟨(E2.block _ (AmV h1)).trans h1,h2,(E1.trans E2).drew⟩
theorem eV{a b:World}(_:Aa a b):∃c,c=b:=⟨b,rfl⟩
theorem Du.keys{B:Nat}{W:World}{b2:Nat}{E:List (Pt×Value×Nat)}{R0:List (Pt×List Pt)}(h:Du B W b2 E R0):E.map (·.1)=R0.map (·.1):=by
 apply List.ext_getElem
 ·simp [h.len]
 ·intro i h1 h2;simp only [List.getElem_map];exact(h.row i (by simpa using h1) (by simpa using h2)).1
theorem AfT{w0 w:World}(hw:An w0)(hx:Aa w0 w){B:Nat}{r b1 b2:Nat}{L:List (Sg×Int)}{E:List (Pt×Value×Nat)}{R0:List (Pt×List Pt)}(h:Bo B w r b1 b2 L E R0)(hz:∀e∈R0,Ar 200 e.1/\∀p∈e.2,Ar 200 p)
  (hlen:R0.length<=100000) (hrl:∀e∈R0,e.2.length<100000) (Cj:(R0.map (·.1)).Nodup) (hno:∀e∈R0,∀p q,e.2 = [p,q]→AD (Al p e.1 q)≠0) :
  Calls Tryz.prog 184 #[.pointer (some ⟨r,0,none⟩)] w fun e w'=>e=.returned (.tuple #[])/\Aa w w':=by
 have J5:=h.ar.len;have DI:=h.ar.keys;have m1:=Ab (o:=1) h.cell rfl;have ES:=(Aa.refl w).alloc (.cells #[.map (some b2)] 132);have BO:=AmW w (.cells #[.map (some b2)] 132)
 have sk:=nc hw (hx.trans ES) w.heap.size b2 E (fun i hi=>(h.ar.row i hi (by rw [←J5];exact hi)).2.1) (AmV BO) (Ab BO rfl) (h.ext ES).ar.blk
  (fun e he=>by
   have:e.1∈R0.map (·.1):=(by rw [←DI];exact List.mem_map_of_mem he);obtain⟨e',he',h1⟩:=List.mem_map.1 this
   rw [←h1];exact(hz e' he').1) (by omega)
 rw [DI]at sk;obtain⟨ks,IM⟩:=AmT (ED (R0.map (·.1)));have Cp:ks.length=E.length:=by rw [IM,(JV _).length_eq,J5];simp
 have Sl:∀p∈ks,∃e∈R0,e.1=p:=fun p hp=>by rw [IM]at hp;obtain⟨e,he,h1⟩:=List.mem_map.1 ((JV _).mem_iff.1 hp);exact⟨e,he,h1⟩
 rw [←IM,←Cp]at sk;have Hg:=AmU h;have uu:=AmU Sl;have HZ:=AmU hz;have Kd:=AmU hrl;have XB:=AmU Cj;have Q4:=AmU hno;have hkn:ks.length<=100000:=(by omega);clear IM Cp Sl DI J5 hz hrl Cj hno h hlen;have kp:=bj (some b2) w;go_enter Tryz.func184,Tryz.ntmps184;(go_wp2_with fail);(with_reducible refine kp.mono ?_);rintro e w2 ⟨rfl,rfl⟩;(go_wp2_with fail);(with_reducible refine sk.mono ?_);rintro e w3 ⟨sv,rfl,CO,ET⟩;obtain⟨sA,sc,rfl,AO,-,-⟩:=Ae.of_own' (by omega) CO;unfold Fc at AO;have I9:Aa w w3:=ES.trans ET;have CY:=hx.trans I9;have Gn:=AmU (Hg.out.ext I9);clear sk kp BO ES ET CO m1;have hl0:(0:Int)<=(ks.length:Int):=by omega
 go_upto_region 1 with fail
 go_loopw [20] (fun iv wr=>∃k:Nat,iv=.int .i64 (k:Nat)/\k<=ks.length/\Aa w3 wr) (fun iv _=>ks.length-(intOf iv).toNat)
 case atStart=>exact⟨0,rfl,by omega,Aa.refl _⟩
 case round=>
  obtain⟨k,rfl,hk,BJ⟩:=hrel;by_cases V8:k<ks.length
  ·obtain⟨b,o,rfl,f1,f2⟩:=Cy (AO.ext BJ) V8;obtain⟨e,he,Vp⟩:=uu.out _ (AmY V8);obtain⟨p,hp⟩:=AmT (ks[k]);rw [←hp]at f1 f2 Vp;have aS:=kj XB.out he;rw [Vp]at aS;have hsz:=HZ.out e he;have hel:=Kd.out e he;have IP:=Q4.out e he;rw [Vp]at hsz IP;obtain⟨es,hes⟩:=AmT e.2;have hk0:(0:Int)<=(k:Int):=(by omega);have Ci:(k:Int)<(ks.length:Int):=(by omega);have EA:=(Aa.refl wr).alloc (.cells #[S (R p.x),S (R p.y)] 94);have Aq:=AmW wr (.cells #[S (R p.x),S (R p.y)] 94);have OY:=Gn.out.ext (BJ.trans EA);obtain⟨A,c,hv,hrow,hc1,hc2⟩:=OY.ar.look p aS;rw [←hes]at hv hrow hc1 hsz hel IP;have vk:=AmU IP;clear hp hes aS Vp he IP
   go_upto_region 3 with fail
   unfold S at Aq EA OY hrow;generalize wr.alloc (.cells #[.string ⟨(R p.x).toArray⟩,.string ⟨(R p.y).toArray⟩] 94)=V at *;obtain⟨ba,Mk⟩:=AmT wr.heap.size;rw [←Mk]at Aq ⊢;clear Mk f1 f2;have GO:=BJ.trans EA;have q1:∀q:Af V,q.w.cell? ⟨r,1,none⟩=some (.map (some b2)):=Af.cell (Ab OY.cell rfl);have q2:∀q:Af V,q.w.cell? ⟨ba,0,none⟩=some (S (R p.x)):=Af.cell (Ab Aq rfl);have q3:∀q:Af V,q.w.cell? ⟨ba,1,none⟩=some (S (R p.y)):=Af.cell (Ab Aq rfl)
   have q5:∀q:Af V,(Instr.lookup 132 (.map (some b2)) (Ak p) false).run Tryz.prog q.w=.ok (.slice A es.length c) q.w:=fun q=>by rw [Qj PK p E (W:=q.w) ((q.h.block b2 OY.ar.lt).trans OY.ar.blk),hv]
   unfold Ak at q5;refine F3 (by kernel_rfl) (by kernel_rfl) ?_
   repeat (go_big_quiet_step (fail))
   refine wpQuiet_nil ?_;rintro W4 ⟨q,hq⟩;have Ai:Aa V W4:=hq▸q.h;have Fw:=GO.trans Ai;have ZW:=(Ai.block _ (AmV Aq)).trans Aq;have hrow4:=hrow.ext Ai;clear q1 q2 q3 q5 hq q OY hv hrow Aq Ai EA BJ GO;by_cases h2:es.length=2
   ·obtain⟨a,d,rfl⟩:∃a d,es = [a,d]:=by
     match es,h2 with
     | [a,d],_=>exact⟨a,d,rfl⟩
    have Gz:=vk.out a d rfl;obtain⟨bA,oA,rfl,g1,g2⟩:=Cy hrow4 (show 0 < [a,d].length by simp);obtain⟨bA',oA',hA',g3,g4⟩:=Cy hrow4 (show 1 < [a,d].length by simp);simp only [Anb,Addr.mk.injEq,and_true]at hA';obtain⟨rfl,rfl⟩:=hA';simp only [List.getElem_cons_zero,List.getElem_cons_succ,Nat.zero_mul,Nat.add_zero,Nat.one_mul]at g1 g2 g3 g4;have za:=hsz.2 a (by simp);have zd:=hsz.2 d (by simp);have y0:=Ab (o:=0) ZW rfl;have y1:=Ab (o:=1) ZW rfl;have SO:=fun (w':World) (h:Aa W4 w')=>(⟨h.cellS g1,h.cellS g2,h.cellS g3,h.cellS g4⟩:_/\_/\_/\_);have X:=Aa.refl W4;clear hrow4
    go_upto_region 5 with fail
    go_cut [5,6] (fun v5 v6 wx=>∃b5 b6,v5=.pointer (some ⟨b5,0,none⟩)/\v6=.pointer (some ⟨b6,0,none⟩)/\wx.heap[b5]?=some (.cells #[S (R a.x),S (R a.y)] 94)/\wx.heap[b6]?=some (.cells #[S (R d.x),S (R d.y)] 94)/\Aa W4 wx)
    case first=>
     go_region_held3 (fun w'=>w'.cell? ⟨bA,oA,none⟩=some (S (R a.x))/\w'.cell? ⟨bA,oA+1,none⟩=some (S (R a.y))/\w'.cell? ⟨bA,oA+2,none⟩=some (S (R d.x))/\w'.cell? ⟨bA,oA+2+1,none⟩=some (S (R d.y)))
      ((refine SO _ ?_;repeat (first|exact X|(with_reducible refine Aa.drew ?_)|(with_reducible refine Aa.alloc ?_ _)|(with_reducible refine Aa.setCell ?_ (by simp) _))))
      (fail)
     all_goals go_wp2
     all_goals go_meet
     all_goals
      first
       | (have tn:=pu W4 (.cells #[S (R a.x),S (R a.y)] 94) (.cells #[S (R d.x),S (R d.y)] 94);exact⟨_,_,rfl,rfl,tn.1,tn.2.1,tn.2.2⟩)
       | (have tn:=pu W4 (.cells #[S (R d.x),S (R d.y)] 94) (.cells #[S (R a.x),S (R a.y)] 94);exact⟨_,_,rfl,rfl,tn.2.1,tn.1,tn.2.2⟩)
    case rest=>
     obtain⟨b5,b6,rfl,rfl,hb5,ID,Ad⟩:=hcut;obtain⟨W5,rfl⟩:=eV Ad;have RE:=Fw.trans Ad;have y5:=Ad.cellS y0;have y6:=Ad.cellS y1;have u0:=Ab (o:=0) hb5 rfl;have u1:=Ab (o:=1) hb5 rfl;have u2:=Ab (o:=0) ID rfl;have u3:=Ab (o:=1) ID rfl;clear SO X g1 g2 g3 g4 y0 y1 Ad Fw ZW hb5 ID;have SO:=fun (w':World) (h:Aa W5 w')=>(⟨h.cellS u0,h.cellS u1,h.cellS u2,h.cellS u3,h.cellS y5,h.cellS y6⟩:_/\_/\_/\_/\_/\_);have X:=Aa.refl W5
     go_upto_region 6 with fail
     go_cut [7,8] (fun v7 v8 wx=>∃b7 b8,v7=.pointer (some ⟨b7,0,none⟩)/\v8=.pointer (some ⟨b8,0,none⟩)/\Aa W5 wx)
     case first=>
      go_region_held3 (fun w'=>w'.cell? ⟨b5,0,none⟩=some (S (R a.x))/\w'.cell? ⟨b5,1,none⟩=some (S (R a.y))/\w'.cell? ⟨b6,0,none⟩=some (S (R d.x))/\w'.cell? ⟨b6,1,none⟩=some (S (R d.y))/\w'.cell? ⟨ba,0,none⟩=some (S (R p.x))/\w'.cell? ⟨ba,1,none⟩=some (S (R p.y)))
       ((refine SO _ ?_;repeat (first|exact X|(with_reducible refine Aa.drew ?_)|(with_reducible refine Aa.alloc ?_ _)|(with_reducible refine Aa.setCell ?_ (by simp) _))))
       (fail)
      all_goals go_wp2
      all_goals go_meet
      all_goals exact⟨_,_,rfl,rfl,((X.alloc _).alloc _).drew⟩
     case rest=>
      obtain⟨b7,b8,rfl,rfl,AC⟩:=hcut;obtain⟨W6,rfl⟩:=eV AC;have Mh:=RE.trans AC;have q0:∀q:Af W6,q.w.cell? ⟨b5,0,none⟩=some (S (R a.x)):=Af.cell (AC.cellS u0);have q1:∀q:Af W6,q.w.cell? ⟨b5,1,none⟩=some (S (R a.y)):=Af.cell (AC.cellS u1);have q2:∀q:Af W6,q.w.cell? ⟨b6,0,none⟩=some (S (R d.x)):=Af.cell (AC.cellS u2);have q3:∀q:Af W6,q.w.cell? ⟨b6,1,none⟩=some (S (R d.y)):=Af.cell (AC.cellS u3);have q4:∀q:Af W6,q.w.cell? ⟨ba,0,none⟩=some (S (R p.x)):=Af.cell (AC.cellS y5);have q5:∀q:Af W6,q.w.cell? ⟨ba,1,none⟩=some (S (R p.y)):=Af.cell (AC.cellS y6);have ct:=fun (q:Af W6)=>Ln a p d za hsz.1 zd (by omega) (by omega) q.w (hw.ext ((CY.trans Mh).trans q.h));obtain⟨s,hs⟩:=AmT (AD (Al a p d));rw [←hs]at ct Gz;unfold Ak S at ct;have hs1:(s == 0)=false:=beq_false_of_ne Gz;have hs2:(s != 0)=true:=(by rw [bne,hs1];rfl);clear hs SO X u0 u1 u2 u3 y5 y6 AC Gz
      go_upto_region 7 with fail
      refine F3 (by kernel_rfl) (by kernel_rfl) ?_
      repeat (go_big_quiet_step (with_reducible refine El (ct _)))
      refine wpQuiet_nil ?_;rintro W7 ⟨q,hq⟩;have AG:Aa W6 W7:=hq▸q.h;clear hq q q0 q1 q2 q3 q4 q5 ct;go_wp2;go_roundw
      case rel=>exact⟨k+1,by go_num,V8,Mh.trans AG⟩
      case measure=>simp [intOf];omega
   ·have EY:¬((es.length:Int)=2):=(by omega);have hb2:((es.length:Int) == 2)=false:=beq_false_of_ne EY;have hb3:((es.length:Int) != 2)=true:=(by rw [bne,hb2];rfl);go_wp2;go_roundw
    case rel=>exact⟨k+1,by go_num,V8,Fw⟩
    case measure=>simp [intOf];omega
  ·have B6:k=ks.length:=(by omega);subst B6;go_wp2
   go_end0
   exact⟨rfl,I9.trans BJ⟩
def Gc(p:List Pt)(k:Nat):Sg:=⟨p.getD k ⟨0,0⟩,p.getD ((k+1)%p.length) ⟨0,0⟩⟩
def Fg(p:List Pt)(k:Nat)(i:Nat):List (Sg×Int):=(List.range k).map fun j=>(Gc p j,(i:Int))
def B9(P:List (List Pt×Bs))(n:Nat):List (Sg×Int):=(List.range n).flatMap fun i=>Fg (P.getD i ([],[])).1 (P.getD i ([],[])).1.length i
theorem iV(p:List Pt)(k i:Nat):Fg p (k+1) i=Fg p k i ++ [(Gc p k,(i:Int))]:=by simp [Fg,List.range_succ]
theorem ml{P:List (List Pt×Bs)}{n:Nat}(h:n<P.length):B9 P (n+1)=B9 P n++Fg P[n].1 P[n].1.length n:=by
 unfold B9;rw [List.range_succ,List.flatMap_append];simp [List.getD_eq_getElem?_getD,Anc h]
def Rj(s:Sg):List Pt:=if 0<AW s.a s.b then [s.b,s.a] else [s.a,s.b]
structure lU(P:List (List Pt×Bs)):Prop where
 len:P.length<=1000
 pc:∀e∈P,0<e.1.length/\e.1.length<=60
 sz:∀e∈P,∀p∈e.1,Ar 200 p
 two:∀e∈P,∀k,k<e.1.length→(QW P).filter (fun q=>G4 (Gc e.1 k).a (Gc e.1 k).b q)=Rj (Gc e.1 k)
 nd:((B9 P P.length).map (·.1)).Nodup
theorem mj(P:List (List Pt×Bs))(m:Nat):∀d,∃r,B9 P (m+d)=B9 P m++r
 | 0=>⟨[],by simp⟩
 | d+1=>by
  obtain⟨r,hr⟩:=mj P m d;refine⟨r++Fg (P.getD (m+d) ([],[])).1 (P.getD (m+d) ([],[])).1.length (m+d),?_⟩
  have e:B9 P (m+(d+1))=B9 P (m+d)++Fg (P.getD (m+d) ([],[])).1 (P.getD (m+d) ([],[])).1.length (m+d):=by unfold B9;rw [←Nat.add_assoc,List.range_succ,List.flatMap_append];simp
  rw [e,hr,List.append_assoc]
theorem mm(p:List Pt)(k i:Nat):∀d,∃r,Fg p (k+d) i=Fg p k i++r
 | 0=>⟨[],by simp⟩
 | d+1=>by obtain⟨r,hr⟩:=mm p k i d;exact⟨r ++ [(Gc p (k+d),(i:Int))],by rw [←Nat.add_assoc,iV,hr,List.append_assoc]⟩
theorem Ajp{P:List (List Pt×Bs)}(Cj:((B9 P P.length).map (·.1)).Nodup){j k:Nat}(hj:j<P.length)(hk:k<P[j].1.length):∀e∈B9 P j++Fg P[j].1 k j,AK (Gc P[j].1 k) e.1=false:=by
 obtain⟨r1,h1⟩:=mj P (j+1) (P.length-(j+1));rw [show j+1+(P.length-(j+1))=P.length by omega,ml hj]at h1;obtain⟨r2,h2⟩:=mm P[j].1 (k+1) j (P[j].1.length-(k+1));rw [show k+1+(P[j].1.length-(k+1))=P[j].1.length by omega,iV]at h2;rw [h1,h2]at Cj;intro e he;refine lz fun hh=>?_;have e0:B9 P j++(Fg P[j].1 k j ++ [(Gc P[j].1 k,(j:Int))]++r2)++r1=(B9 P j++Fg P[j].1 k j)++((Gc P[j].1 k,(j:Int))::(r2++r1)):=(by simp);rw [e0,List.map_append,List.map_cons,List.nodup_append]at Cj;exact Cj.2.2 _ (List.mem_map_of_mem he) _ List.mem_cons_self hh.symm
theorem Ajo{p:List Pt}{k q:Nat}(hk:k<p.length)(hq:q=(k+1)%p.length)(Bp:q<p.length):Gc p k=⟨p[k],p[q]⟩:=by
 unfold Gc;rw [←hq];simp [List.getD_eq_getElem?_getD,Anc hk,Anc Bp]
def yl(w:World)(L:List (Sg×Int))(e:Ending)(w':World):Prop:=
 ∃b,e=.returned (.map (some b))/\Dt w' b L/\w.heap.size<=b/\Aa w w'
theorem Aih(P:List (List Pt×Bs))(hP:lU P)(A:Option Addr)(c:Nat)(w:World)(hw:An w)(h:Jv w A c P) :
  Calls Tryz.prog 103 #[.slice A P.length c] w (yl w (B9 P P.length)):=by
 have hmm:=@run_makeMap Tryz.prog;obtain⟨n,hn⟩:=AmT P.length;rw [←hn];have HN:=AmU hn;have hlen:n<=1000:=(by rw [hn];exact hP.len);have HP:=AmU hP;have HA:=AmU h;have hc1:n<=c:=(by rw [hn];exact h.c1);clear hn hP h;go_enter Tryz.func103,Tryz.ntmps103
 go_upto_region 3 with fail
 go_loopw [3,18] (fun ov iv wr=>∃i:Nat,iv=.int .i64 (i:Nat)/\i<=n/\wr.ownsRow w.heap.size 94 2 ov (Dg P i).length (flat (Ao (Dg P i)))/\Aa w wr) (fun _ iv _=>n-(intOf iv).toNat)
 case atStart=>exact⟨0,rfl,by omega,⟨rfl,.inl ⟨rfl,rfl⟩⟩,Aa.refl _⟩
 case round=>
  obtain⟨i,rfl,hi,hown,Ac⟩:=hrel;obtain⟨vA,vc,rfl⟩:=fY (by omega) hown;by_cases hin:i<n
  ·have Mr:i<P.length:=(by rw [←HN.out];exact hin);obtain⟨bA,oA,A',c',rfl,AE,AQ,Bp,AO,hr1,hr2⟩:=HA.out.row i Mr;have IS:=HP.out.pc _ (AmY Mr);have P7:=oW Mr;have Dm:=YJ (fun e he=>(HP.out.pc e he).2) i (by omega);obtain⟨pg,Gy⟩:=AmT (P[i].1);obtain⟨un,Ax⟩:=AmT (P[i].2);rw [←Gy]at AE AO hr1 IS P7;rw [←Ax]at AQ;replace AE:=Ac.cellS AE;replace AQ:=Ac.cellS AQ;replace Bp:=Ac.cellS Bp;replace AO:=AO.ext Ac;have NG:(0:Int)<=(i:Int):=(by omega);have Pv:(i:Int)<(n:Int):=(by omega);have E4:=(Aa.refl wr).alloc (.cells #[.slice A' pg.length c',S un,.slice none 0 0] 97);have Ay:=AmW wr (.cells #[.slice A' pg.length c',S un,.slice none 0 0] 97);have wU:(Dg P i).length<200000:=(by omega);have lB:=AmU P7;obtain⟨cl,hcl⟩:=AmT (Dg P i);rw [←hcl]at hown wU lB ⊢;have HCL:=AmU hcl;clear P7 Dm Gy Ax hcl
   go_upto_region 5 with fail
   unfold S at Ay E4;generalize wr.alloc (.cells #[.slice A' pg.length c',.string ⟨un.toArray⟩,.slice none 0 0] 97)=W4 at *;have y0:=Ab (o:=0) Ay rfl;have JE:wr.heap.size<=W4.heap.size:=E4.size;have hs0:=Ac.size;clear AE AQ Bp
   go_wp2_with (at_builtin;go_loud (refine zm rfl _ _ rfl _ w.heap.size (.slice vA cl.length vc) cl.length cl rfl (AH hown E4) wU pg A' c' rfl (AO.ext E4) IS.1 (by omega) (by omega) ?_);intro v7 w7 KR aL)
   go_roundw
   case rel=>exact⟨i+1,by go_num,hin,by rw [lB.out,List.length_append];exact KR,aL w (Ac.trans E4) (AmX _)⟩
   case measure=>simp [intOf];omega
  ·have NH:i=n:=(by omega);subst NH;have hsz:=HP.out.sz;have Aeo:=YJ (fun e he=>(HP.out.pc e he).2) i (by have:=HN.out;omega)
   have CO:=mz hw Ac (AmX _) (Dg P i) (fun s hs=>by
    obtain⟨e,he,hq⟩:=dr hs
    exact hsz e he s hq) (by omega) hown
   obtain⟨C,hC⟩:=AmT (QW P);have UF:Lib.compact (ED (Dg P i))=C:=by rw [hC];unfold QW;rw [←HN.out]
   have rZ:C.length<=60000:=by rw [←UF];refine Ani (Aby _) ?_;rw [(JV _).length_eq];omega
   have sE:∀q∈C,Ar 200 q:=fun q hq=>by rw [←UF]at hq;obtain⟨e,he,hq⟩:=dr ((JV _).mem_iff.1 (mem_compact hq));exact hsz e he q hq
   have cc:=fun (w5:World) (h:w5.ownsRow w.heap.size 94 2 (.slice vA (Dg P i).length vc) (Dg P i).length (Fc (ED (Dg P i))))=>Abw (ED (Dg P i)) (.slice vA (Dg P i).length vc) w5 w.heap.size (by rw [(JV _).length_eq];exact h)
   rw [UF]at cc;have HC:=AmU hC;have Gf:=AmU sE;clear hsz UF hC sE;obtain⟨m0,hm0⟩:=AmT ((Dg P i).length);rw [←hm0]at hown CO cc Aeo ⊢;clear hm0;(go_wp2_with fail);(with_reducible refine CO.mono ?_);rintro e w5 ⟨rfl,hg5,Ck⟩;have Ad:Aa w w5:=Ac.grownOwn hg5 hown (AmX _);have c5:=cc w5 Ck;clear cc CO hg5 hown;(go_wp2_with fail);(with_reducible refine c5.mono ?_);rintro e w6 ⟨A6,k6,rfl,cX,h61,h62,Pa⟩;have AC:Aa w w6:=Pa w Ad (AmX _);clear Pa c5 Ck Ad Ac;have Dk:=AmW w6 (.map #[] 0);have E7:=(Aa.refl w6).alloc (.map #[] 0)
   go_upto_region 11 with fail
   generalize w6.alloc (.map #[] 0)=W7 at *;obtain⟨bm,uL⟩:=AmT w6.heap.size;rw [←uL]at Dk ⊢;have hle:w.heap.size<=bm:=(by have:=AC.size;omega);have J7:=AC.trans E7;have hr7:=cX.ext E7;clear uL cX E7 AC;have OV:Dt W7 bm (B9 P 0):=Dk
   go_loopw [34] (fun iv wr=>∃j:Nat,iv=.int .i64 (j:Nat)/\j<=i/\Dt wr bm (B9 P j)/\Au (fun q=>q=bm) W7 wr) (fun iv _=>i-(intOf iv).toNat)
   case atStart=>exact⟨0,rfl,by omega,OV,Au.refl _ _⟩
   case round=>
    obtain⟨j,rfl,hj,hM,hB⟩:=hrel;have BJ:Aa w wr:=hB.toExt J7 (fun q e=>by subst e;exact hle);by_cases hjn:j<i
    ·have Ia:j<P.length:=(by rw [←HN.out];exact hjn);obtain⟨bA,oA,A',c',rfl,AE,AQ,Bp,AO,hr1,hr2⟩:=HA.out.row j Ia;have IS:=HP.out.pc _ (AmY Ia);have My:=HP.out.sz _ (AmY Ia);have KX:=HP.out.two _ (AmY Ia);have Ec:=ml Ia;have hnew:=fun k (hk:k<P[j].1.length)=>Ajp HP.out.nd Ia hk;obtain⟨pg,Gy⟩:=AmT (P[j].1);obtain⟨un,Ax⟩:=AmT (P[j].2);rw [←Gy]at AE AO hr1 IS My KX Ec hnew;rw [←Ax]at AQ;replace AE:=BJ.cellS AE;replace AQ:=BJ.cellS AQ;replace Bp:=BJ.cellS Bp;have NG:(0:Int)<=(j:Int):=(by omega);have Pv:(j:Int)<(i:Int):=(by omega);have E8:=(Aa.refl wr).alloc (.cells #[.slice A' pg.length c',S un,.slice none 0 0] 97);have Bu:=AmW wr (.cells #[.slice A' pg.length c',S un,.slice none 0 0] 97);have vg:=AmU hnew;have kX:=AmU My;have xg:=AmU KX;have Iw:=AmU Ec;clear Gy Ax My KX Ec hnew
     go_upto_region 13 with fail
     unfold S at Bu E8;generalize wr.alloc (.cells #[.slice A' pg.length c',.string ⟨un.toArray⟩,.slice none 0 0] 97)=W8 at *;obtain⟨bp,aA⟩:=AmT wr.heap.size;rw [←aA]at Bu ⊢;have AlD:bm<bp:=(by rw [aA];exact AmV hM);have y0:=Ab (o:=0) Bu rfl
     have R7:Dt W8 bm (B9 P j++Fg pg 0 j):=by have e:Fg pg 0 j = []:=rfl;rw [e,List.append_nil];exact hM.ext E8
     have UB:=hB.ext E8;clear aA AE AQ Bp hM hB E8 BJ
     go_upto_region 14 with fail
     go_loopw [42] (fun kv wk=>∃k:Nat,kv=.int .i64 (k:Nat)/\k<=pg.length/\Dt wk bm (B9 P j++Fg pg k j)/\Au (fun q=>q=bm) W8 wk) (fun kv _=>pg.length-(intOf kv).toNat)
     case atStart=>exact⟨0,rfl,by omega,R7,Au.refl _ _⟩
     case round=>
      obtain⟨k,rfl,hk,Mc,UD⟩:=hrel;have Zi:=UB.trans UD;have UZ:Aa w wr:=Zi.toExt J7 (fun q e=>by subst e;exact hle);have uR:=UD.cells Bu (by omega);by_cases hkn:k<pg.length
      ·obtain⟨q,hq⟩:=AmT ((k+1)%pg.length);have JD:q<pg.length:=by rw [hq];exact Nat.mod_lt _ (by omega)
       have Py:(((k:Int)+1)).tmod (pg.length:Int)=(q:Int):=by rw [Int.tmod_eq_emod_of_nonneg (by omega),hq,Int.natCast_emod];rfl
       have Aej:(((k:Int)+1))%(pg.length:Int)=(q:Int):=(by rw [hq,Int.natCast_emod];rfl);have VH:¬((pg.length:Int)=0):=(by omega);have xE:¬(pg.length=0):=(by omega);have Aex:((pg.length:Int) == 0)=false:=beq_false_of_ne VH;have hqw:IntKind.wrap .i64 (q:Int)=(q:Int):=Ane _ (by omega);have So:IntKind.wrap .i64 ((k:Int)+1)=(k:Int)+1:=Ane _ (by omega);obtain⟨b,o,rfl,ka,kb⟩:=Cy (AO.ext UZ) hkn;obtain⟨b',o',he,qa,qb⟩:=Cy (AO.ext UZ) JD;simp only [Anb,Addr.mk.injEq,and_true]at he;obtain⟨rfl,rfl⟩:=he;have dB:=kX.out _ (AmY hkn);have KW:=kX.out _ (AmY JD);have S7:=Ajo hkn hq JD;have KX:=xg.out k hkn;rw [S7]at KX;obtain⟨a0,ha0⟩:=AmT (pg[k]);obtain⟨b0,hb0⟩:=AmT (pg[q]);rw [←ha0]at ka kb dB KX S7;rw [←hb0]at qa qb KW KX S7;have xh:=AmU KX;have wn:=AmU S7;have hk0:(0:Int)<=(k:Int):=(by omega);have Ci:(k:Int)<(pg.length:Int):=(by omega);have Ae8:(0:Int)<=(q:Int):=(by omega);have Ae9:(q:Int)<(pg.length:Int):=(by omega);have hm0:(0:Int)<(pg.length:Int):=(by omega);clear ha0 hb0 hq KX S7;have hpn:pg≠[]:=fun e=>(by rw [e]at hkn;simp at hkn);have Aq:=AmW wr (.cells #[S (R a0.x),S (R a0.y)] 94);have EA:=(Aa.refl wr).alloc (.cells #[S (R a0.x),S (R a0.y)] 94)
       go_upto_region 16 with fail
       unfold S at Aq EA;generalize wr.alloc (.cells #[.string ⟨(R a0.x).toArray⟩,.string ⟨(R a0.y).toArray⟩] 94)=VA at *;obtain⟨ba,Mk⟩:=AmT wr.heap.size;rw [←Mk]at Aq ⊢;have Amb:w.heap.size<=ba:=(by have:=UZ.size;omega);clear Mk;replace qa:=EA.cellS qa;replace qb:=EA.cellS qb;have yp:=EA.cellS (Ab (o:=0) uR rfl);have X:=Aa.refl VA;have SO:=fun (w':World) (h:Aa VA w')=>(⟨h.cellS yp,h.cellS qa,h.cellS qb⟩:_/\_/\_);clear y0 ka kb
       go_cut [11] (fun v11 wx=>∃bb,v11=.pointer (some ⟨bb,0,none⟩)/\wx.heap[bb]?=some (.cells #[S (R b0.x),S (R b0.y)] 94)/\Aa VA wx)
       case first=>
        go_region_held3 (fun w'=>w'.cell? ⟨bp,0,none⟩=some (.slice (some ⟨b,o,none⟩) pg.length c')/\w'.cell? ⟨b,o+q*2,none⟩=some (S (R b0.x))/\w'.cell? ⟨b,o+q*2+1,none⟩=some (S (R b0.y)))
         ((refine SO _ ?_;repeat (first|exact X|(with_reducible refine Aa.drew ?_)|(with_reducible refine Aa.alloc ?_ _)|(with_reducible refine Aa.setCell ?_ (by simp) _))))
         (fail)
        all_goals go_wp2
        all_goals go_meet
        all_goals exact⟨_,rfl,by unfold S;exact AmW VA _,(X.alloc _).drew⟩
       case rest=>
        obtain⟨bb,rfl,Bl,Cl⟩:=hcut;obtain⟨W9,rfl⟩:=ei Cl;have K3:Aa w W9:=UZ.trans (EA.trans Cl)
        have Ve:=Cl.block _ (AmV Aq) |>.trans Aq
        have xW:Ae W9 A6 (flat (Ao C)):=by
         refine⟨fun h0=>?_⟩;obtain⟨g0,o0,e0,hc0⟩:=hr7.ad h0;refine⟨g0,o0,e0,fun z hz=>?_⟩;have h7:=hc0 z hz;refine(EA.trans Cl).cellS ?_
         exact(World.cell?_of_block (a:=⟨g0,o0+z,none⟩) (Zi.block g0 (World.block_lt_of_cell? W7 _ h7) (fun e=>by
          subst e;rw [World.cell?]at h7
          simp [Dk]at h7))).trans h7
        have hM9:Dt W9 bm (B9 P j++Fg pg k j):=Mc.ext (EA.trans Cl);have LX:=(UD.ext EA).ext Cl;have hw9:=hw.ext K3;clear SO X qa qb yp Aq Cl EA Mc uR
        go_upto_region 19 with fail
        go_loopw [12,59] (fun ov qv wx=>∃(z:Nat) (l:List Pt),qv=.int .i64 (z:Nat)/\z<=C.length/\l=(C.take z).filter (fun p=>G4 a0 b0 p)/\wx.ownsRow W9.heap.size 94 2 ov l.length (flat (Ao l))/\Aa W9 wx) (fun _ qv _=>C.length-(intOf qv).toNat)
        case atStart=>exact⟨0,[],rfl,by omega,by simp,⟨rfl,.inl ⟨rfl,rfl⟩⟩,Aa.refl _⟩
        case round=>
         obtain⟨z,l,rfl,hz,hl,hown,Ac⟩:=hrel;obtain⟨vL,qi,rfl⟩:=fY (by omega) hown;by_cases MC:z<C.length
         ·obtain⟨b2,o2,rfl,ca,cb⟩:=Cy (xW.ext Ac) MC;have FY:=Gf.out _ (AmY MC)
          have If:(C.take (z+1)).filter (fun p=>G4 a0 b0 p)=l++(if G4 a0 b0 C[z]=true then [C[z]] else []):=by
           rw [Ana MC,List.filter_append,←hl]
           congr 1
           simp [List.filter_cons]
          obtain⟨q0,AE⟩:=AmT (C[z]);rw [←AE]at ca cb FY If;have hz0:(0:Int)<=(z:Int):=(by omega);have hz1:(z:Int)<(C.length:Int):=(by omega);have Dm:l.length<200000:=(by rw [hl];have:=List.length_filter_le (fun p=>G4 a0 b0 p) (C.take z);rw [List.length_take]at this;omega);have H7:=AmW wr (.cells #[S (R q0.x),S (R q0.y)] 94);have EQ:=(Aa.refl wr).alloc (.cells #[S (R q0.x),S (R q0.y)] 94);have pc:=fun (V:World) (h:Aa w V)=>jp a0 b0 q0 dB KW FY (by omega) (by omega) V (hw.ext h);obtain⟨bt,FN⟩:=AmT (G4 a0 b0 q0);rw [←FN]at pc If;have LH:=AmU If;clear AE If FN hl
          go_upto_region 21 with fail
          unfold S at H7 EQ Bl ca cb;generalize wr.alloc (.cells #[.string ⟨(R q0.x).toArray⟩,.string ⟨(R q0.y).toArray⟩] 94)=V2 at *;have C7:=Ac.trans EQ;have x0:=C7.cellS (Ab (o:=0) Ve rfl);have x1:=C7.cellS (Ab (o:=1) Ve rfl);have x2:=C7.cellS (Ab (o:=0) Bl rfl);have x3:=C7.cellS (Ab (o:=1) Bl rfl);have x4:=Ab (o:=0) H7 rfl;have x5:=Ab (o:=1) H7 rfl;have p2:=pc V2 (K3.trans C7);unfold Ak S at p2;clear pc ca cb;(go_wp2_with fail);(with_reducible refine p2.mono ?_);rintro e w3 ⟨rfl,hx3⟩;have x6:=hx3.cellS x4;have x7:=hx3.cellS x5;have VN:W9.heap.size<=w3.heap.size:=(C7.trans hx3).size;clear p2 x0 x1 x2 x3 x4 x5
          cases bt
          ·have Alb:=AmU LH.out;go_wp2;go_roundw
           case rel=>exact⟨z+1,l,by go_num,MC,by rw [LH.out];simp,AH hown (EQ.trans hx3),C7.trans hx3⟩
           case measure=>simp [intOf];omega
          ·have DJ:=AH hown (EQ.trans hx3)
           go_wp2_with (at_builtin;go_loud (refine zk rfl _ _ rfl _ W9.heap.size (.slice vL l.length qi) l.length l rfl (AH DJ ((Aa.refl w3).alloc _)) Dm q0 w3.heap.size (AmW w3 _) rfl (by simp;omega) ?_);intro v8 w8 hown8 Bq)
           go_roundw
           case rel=>exact⟨z+1,l ++ [q0],by go_num,MC,by rw [LH.out];simp,by rw [List.length_append];exact hown8,Bq W9 ((C7.trans hx3).alloc _) (AmX _)⟩
           case measure=>simp [intOf];omega
         ·have zL:z=C.length:=by omega
          have bI:l=Rj ⟨a0,b0⟩:=by rw [hl,zL,List.take_length];have h2:=xh.out;rw [←HC.out]at h2;exact h2
          subst zL;have hl2:l.length=2:=by rw [bI];unfold Rj;split<;>rfl
          obtain⟨g,cap,dL⟩:∃g cap,Value.slice vL l.length qi=.slice (some ⟨g,0,none⟩) 2 cap:=by
           rcases hown.2 with⟨_,h'⟩|⟨g,cap,cur,hv,_⟩
           ·omega
           ·exact⟨g,cap,by rw [hv,hl2]⟩
          rw [dL,hl2,bI]at hown;simp only [Value.slice.injEq]at dL;obtain⟨VT,-,hv2⟩:=dL;subst VT hv2;rw [hl2];have cp:=fun (V:World) (h:Aa w V)=>Il a0 b0 dB KW (by omega) (by omega) V (hw.ext h);obtain⟨r,hr⟩:=AmT (AW a0 b0);rw [←hr]at cp;unfold Rj at hown;simp only [←hr]at hown;unfold S at Bl;have x0:=Ac.cellS (Ab (o:=0) Ve rfl);have x1:=Ac.cellS (Ab (o:=1) Ve rfl);have x2:=Ac.cellS (Ab (o:=0) Bl rfl);have x3:=Ac.cellS (Ab (o:=1) Bl rfl);have p2:=cp wr (K3.trans Ac);unfold Ak S at p2;clear cp hr bI hl hl2
          go_upto_region 24 with fail
          (go_wp2_with fail);(with_reducible refine p2.mono ?_);rintro e w3 ⟨rfl,hx3⟩;have DJ:=AH hown hx3;clear p2 x0 x1 x2 x3 hown;by_cases BY:0<r
          case' pos=>rw [if_pos BY]at DJ;have rv:=AiL b0 a0 g _ W9.heap.size w3 DJ;have Ae6:r>0:=BY;(go_wp2_with fail);(with_reducible refine rv.mono ?_);rintro e w4 ⟨rfl,BS,hg4⟩;have Ai:=(Ac.trans hx3).grownOwn hg4 DJ (AmX _);clear hg4 rv DJ
          case' neg=>rw [if_neg BY]at DJ;have Ae6:¬r>0:=BY;obtain⟨w4,rfl⟩:=AmT w3;have BS:=DJ;have Ai:=Ac.trans hx3;clear DJ
          all_goals (
           have Fw:Aa w w4:=K3.trans Ai;have f0:=BS.cellAt 0 (by omega);have f1:=BS.cellAt 1 (by omega);have f2:=BS.cellAt 2 (by omega);have f3:=BS.cellAt 3 (by omega);simp only [Ao,Lm,flat,List.map_cons,List.map_nil,List.flatMap_cons,List.flatMap_nil,List.append_nil,List.cons_append,List.nil_append,List.getElem?_cons_zero,List.getElem?_cons_succ]at f0 f1 f2 f3;have SO:=fun (w':World) (h:Aa w4 w')=>(⟨h.cellS f0,h.cellS f1,h.cellS f2,h.cellS f3⟩:_/\_/\_/\_);have X:=Aa.refl w4;have OW:Dt w4 bm (B9 P j++Fg pg k j):=hM9.ext Ai;obtain⟨Wp,hput,OX,Mp,-⟩:=cm (OW.ext X.drew) (Gc pg k) (vg.out k hkn) (j:Int)
           have CL:∃cs t,w4.heap[g]?=some (.cells cs t (0,0)):=by
            rcases BS.2 with⟨h',_⟩|⟨g',cap',cur,hv,_,hgb,_⟩
            ·omega
            ·simp only [Value.slice.injEq,Anb,Addr.mk.injEq]at hv;obtain⟨⟨rfl,-⟩,-⟩:=hv;exact⟨_,_,hgb⟩
           obtain⟨cg,tg,CL⟩:=CL
           have bC:some g≠some bm:=by
            intro e
            cases e;have h4:=OW;unfold Dt at h4;rw [h4]at CL
            cases CL
           have KP:=fun (o:Nat) (v:Value) (h:w4.cell? ⟨g,o,none⟩=some v)=>(World.cell?_of_block (a:=⟨g,o,none⟩) (Mp.block g (AmV CL) bC)).trans h;have SP:=And.intro (KP _ _ f0) (And.intro (KP _ _ f1) (And.intro (KP _ _ f2) (KP _ _ f3)));have h11:IntKind.i64.wrap (0:Int)=0:=(by decide);have h02:(0:Int)<2:=(by omega);have Zo:=((LX.ext Ai).ext X.drew).grown Mp (fun q e=>by cases e;exact .inl rfl);rw [wn.out]at hput;unfold As S at hput;have X9:=AmU OX;clear OX Mp OW BS Ac hx3 f0 f1 f2 f3 CL bC KP
           go_upto_region 27 with fail
           go_loopw [15] (fun v wx=>(v=.int .i64 1/\wx=w4)∨(v=.int .i64 2/\wx=Wp)) (fun v _=>2-(intOf v).toNat)
           case atStart=>exact .inl ⟨rfl,rfl⟩
           case round=>
            rcases hrel with⟨rfl,rfl⟩|⟨rfl,rfl⟩
            ·go_upto_region 29 with fail
             go_region_held3 (fun w'=>w'.cell? ⟨g,0,none⟩=some (S (R a0.x))/\w'.cell? ⟨g,1,none⟩=some (S (R a0.y))/\w'.cell? ⟨g,2,none⟩=some (S (R b0.x))/\w'.cell? ⟨g,3,none⟩=some (S (R b0.y)))
              (first|with_reducible exact SO _ X|with_reducible exact SO _ X.drew|with_reducible exact SP)
              (fail)
             all_goals go_wp2
             all_goals go_roundw
             case rel=>exact .inr ⟨rfl,trivial⟩
             case measure=>simp [intOf]
            ·go_wp2;go_roundw
             case rel=>exact⟨k+1,by go_num,hkn,by rw [iV,←List.append_assoc];exact X9.out,Zo⟩
             case measure=>simp [intOf];omega)
      ·have B6:k=pg.length:=(by omega);subst B6;rw [←Iw.out]at Mc;have Xz:=AmU Mc;clear Mc UB UD;go_wp2;go_roundw
       case rel=>exact⟨j+1,by go_num,hjn,Xz.out,Zi⟩
       case measure=>simp [intOf];omega
    ·have JB:j=i:=(by omega);subst JB;have AX:Dt wr bm (B9 P j):=hM;go_wp2;go_ret;exact⟨bm,rfl,AX,hle,BJ⟩
section
open Go.Shelf
def pN:List (Nat×Nat):=[(25,24),(25,23),(23,5),(23,11),(23,16),(23,22),(5,4),(4,0),(4,3),(3,2),(2,1),(11,10),(10,9),(9,8),(8,7),(7,6),(16,15),(15,14),(14,13),(13,12),(22,21),(21,17),(21,20),(20,19),(19,18)]
def Jg(i:Nat):Nat:=if i=24 then 6 else 17+i
structure CM where
 x:Dr
 bx:Nat
 ku:Nat
 ks:Nat
 kp:Nat
 kt:Nat
 sy:UInt8
 nm:Bs
 tx:Bs
structure CM.Ok(X:CM):Prop where
 u:X.ku=X.x.u.toNat%12
 s:X.ks=X.x.s.toNat%90
 p:X.kp=X.x.p.toNat%5
 t:X.kt=X.x.t.toNat%4
 y:(X.sy.toNat:Int)=33+(X.ks:Int)
 n:X.nm=AgQ.getD X.ku []
 x':X.tx=Akb.getD X.kt []
def Qx(X:CM)(B:Nat)(w:World):Nat→Value→Prop
 | 0,v=>∃g,v=.slice (some ⟨g,0,none⟩) 12 12/\w.cell? ⟨g,X.ku,none⟩=some (S X.nm)
 | 1,v=>v=.pointer (some ⟨X.bx,0,none⟩)
 | 2,v=>v=.int .u8 (X.x.u.toNat:Nat)
 | 3,v=>v=.int .u8 (X.ku:Nat)
 | 4,v=>∃g,v=.pointer (some ⟨g,X.ku,none⟩)/\w.cell? ⟨g,X.ku,none⟩=some (S X.nm)
 | 5,v=>v=S X.nm
 | 6,v=>v=.pointer (some ⟨X.bx,1,none⟩)
 | 7,v=>v=.int .u8 (X.x.s.toNat:Nat)
 | 8,v=>v=.int .u8 (X.ks:Nat)
 | 9,v=>v=.int .u8 (X.sy.toNat:Nat)
 | 10,v=>∃g,v=.slice (some ⟨g,0,none⟩) 1 1/\w.cell? ⟨g,0,none⟩=some (.int .u8 (X.sy.toNat:Nat))
 | 11,v=>v=S [X.sy]
 | 12,v=>v=.pointer (some ⟨X.bx,2,none⟩)
 | 13,v=>v=.int .u8 (X.x.p.toNat:Nat)
 | 14,v=>v=.int .u8 (X.kp:Nat)
 | 15,v=>v=.int .i64 (X.kp:Nat)
 | 16,v=>v=.int .i64 (1+(X.kp:Int))
 | 17,v=>∃g,v=.slice (some ⟨g,0,none⟩) 4 4/\w.cell? ⟨g,X.kt,none⟩=some (S X.tx)
 | 18,v=>v=.pointer (some ⟨X.bx,3,none⟩)
 | 19,v=>v=.int .u8 (X.x.t.toNat:Nat)
 | 20,v=>v=.int .u8 (X.kt:Nat)
 | 21,v=>∃g,v=.pointer (some ⟨g,X.kt,none⟩)/\w.cell? ⟨g,X.kt,none⟩=some (S X.tx)
 | 22,v=>v=S X.tx
 | 23,v=>v=.agg #[S X.nm,S [X.sy],.int .i64 (1+(X.kp:Int)),S X.tx]
 | 24,v=>∃g,v=.pointer (some ⟨g,0,none⟩)/\w.heap[g]?=some (.cells #[S [],S [],.int .i64 0,S []] 40)/\B<=g
 | _,_=>True
theorem Qx.ext{X:CM}{B:Nat}{w w':World}(hx:Aa w w'){i:Nat}(hi:i<25){v:Value}(h:Qx X B w i v):Qx X B w' i v:=by
 rcases(by omega:i=0∨i=1∨i=2∨i=3∨i=4∨i=5∨i=6∨i=7∨i=8∨i=9∨i=10∨i=11∨i=12∨i=13∨i=14∨i=15∨i=16∨i=17∨i=18∨i=19∨i=20∨i=21∨i=22∨i=23∨i=24)with rfl|rfl|rfl|rfl|rfl|rfl|rfl|rfl|rfl|rfl|rfl|rfl|rfl|rfl|rfl|rfl|rfl|rfl|rfl|rfl|rfl|rfl|rfl|rfl|rfl
 ·obtain⟨g,h1,h2⟩:=h;exact⟨g,h1,hx.cellS h2⟩
 ·exact h
 ·exact h
 ·exact h
 ·obtain⟨g,h1,h2⟩:=h;exact⟨g,h1,hx.cellS h2⟩
 ·exact h
 ·exact h
 ·exact h
 ·exact h
 ·exact h
 ·obtain⟨g,h1,h2⟩:=h;exact⟨g,h1,hx.cellS h2⟩
 ·exact h
 ·exact h
 ·exact h
 ·exact h
 ·exact h
 ·exact h
 ·obtain⟨g,h1,h2⟩:=h;exact⟨g,h1,hx.cellS h2⟩
 ·exact h
 ·exact h
 ·exact h
 ·obtain⟨g,h1,h2⟩:=h;exact⟨g,h1,hx.cellS h2⟩
 ·exact h
 ·exact h
 ·obtain⟨g,h1,h2,h3⟩:=h;exact⟨g,h1,(hx.block _ (AmV h2)).trans h2,h3⟩
structure JM(X:CM)(V:World)(a0:Act)(ops:Array Oper)(l:Array Bool)(a:Act)(w:World):Prop where
 fr:He (fun d=>d=6∨(17<=d/\d<=40)) a0 a
 cl:∀j k,pN.contains (j,k)=true→l.getD j false=true→l.getD k false=true
 ext:l.getD 25 false=false→Aa V w
 fc:l.getD 25 false=false→∀i,i<25→l.getD i false=true→Qx X V.heap.size w i (a.eval (.tmp (Jg i)))
 fin:l.getD 25 false=true→∃g,a.eval (.tmp 6)=.pointer (some ⟨g,0,none⟩)/\w.heap[g]?=some (.cells #[S X.nm,S [X.sy],.int .i64 (1+(X.kp:Int)),S X.tx] 40)/\Aa V w
theorem Ajr{i j:Nat}(hi:i<25)(hj:j<25)(h:i≠j):Jg j≠Jg i:=by unfold Jg;split<;>split<;>omega
theorem Ajs{i:Nat}(hi:i<25):Jg i<=40:=by unfold Jg;split<;>omega
theorem Ajq{i:Nat}(hi:i<25):Jg i=6∨(17<=Jg i/\Jg i<=40):=by unfold Jg;split<;>omega
theorem eval_put{a:Act}{d:Nat}(v:Value)(h:d<a.tmps.size):(a.put (some d) v).eval (.tmp d)=v:=by
 simp only [Act.eval,Act.put,Array.getD_eq_getD_getElem?];rw [Array.getElem?_setIfInBounds_self_of_lt h]
 rfl
section
variable {X : CM} {V : World} {a0 a : Act} {ops : Array Oper} {l : Array Bool} {w : World}
theorem JM.before(h:JM X V a0 ops l a w)(rP:l.getD 25 false=true):∀i,i<25→l.getD i false=true:=by
 intro i hi;have k24:=h.cl 25 24 (by decide) rP;have We:=h.cl 25 23 (by decide) rP;have k5:=h.cl 23 5 (by decide) We;have ai:=h.cl 23 11 (by decide) We;have aj:=h.cl 23 16 (by decide) We;have k22:=h.cl 23 22 (by decide) We;have k4:=h.cl 5 4 (by decide) k5;have k0:=h.cl 4 0 (by decide) k4;have k3:=h.cl 4 3 (by decide) k4;have k2:=h.cl 3 2 (by decide) k3;have k1:=h.cl 2 1 (by decide) k2;have ah:=h.cl 11 10 (by decide) ai;have k9:=h.cl 10 9 (by decide) ah;have k8:=h.cl 9 8 (by decide) k9;have k7:=h.cl 8 7 (by decide) k8;have k6:=h.cl 7 6 (by decide) k7;have eE:=h.cl 16 15 (by decide) aj;have eD:=h.cl 15 14 (by decide) eE;have eC:=h.cl 14 13 (by decide) eD;have k12:=h.cl 13 12 (by decide) eC;have Wd:=h.cl 22 21 (by decide) k22;have ak:=h.cl 21 17 (by decide) Wd;have PG:=h.cl 21 20 (by decide) Wd;have Wc:=h.cl 20 19 (by decide) PG;have eF:=h.cl 19 18 (by decide) Wc
 rcases(by omega:i=0∨i=1∨i=2∨i=3∨i=4∨i=5∨i=6∨i=7∨i=8∨i=9∨i=10∨i=11∨i=12∨i=13∨i=14∨i=15∨i=16∨i=17∨i=18∨i=19∨i=20∨i=21∨i=22∨i=23∨i=24)with rfl|rfl|rfl|rfl|rfl|rfl|rfl|rfl|rfl|rfl|rfl|rfl|rfl|rfl|rfl|rfl|rfl|rfl|rfl|rfl|rfl|rfl|rfl|rfl|rfl<;>assumption
theorem JM.put(h:JM X V a0 ops l a w)(hs:l.size=26)(hz:51<=a0.tmps.size){i:Nat}(hi:i<25)(Ax:l.getD i false=false)(hd:∀k,pN.contains (i,k)=true→l.getD k false=true){v:Value}{w':World}(hx:Aa w w')(hf:Qx X V.heap.size w' i v):JM X V a0 ops (l.setIfInBounds i true) (a.put (some (Jg i)) v) w':=by
 have n25:l.getD 25 false=false:=by
  cases e:l.getD 25 false
  ·rfl
  ·have:=h.before e i hi;rw [Ax]at this;cases this
 have m25:(l.setIfInBounds i true).getD 25 false=false:=(by rw [getD_set_ne false (show i≠25 by omega)];exact n25);refine⟨h.fr.put (Ajq hi) v,?_,fun _=>(h.ext n25).trans hx,?_,fun e=>by rw [m25]at e;cases e⟩
 ·intro j k hjk hj
  have hk:l.getD k false=true:=by
   by_cases e:i=j
   ·subst e;exact hd k hjk
   ·rw [getD_set_ne false e]at hj;exact h.cl j k hjk hj
  by_cases e:i=k
  ·subst e;rw [I7 (by omega)]
  ·rw [getD_set_ne false e];exact hk
 ·intro _ j hj hl;by_cases e:i=j
  ·subst e;rw [eval_put v (by rw [h.fr.size];have:=Ajs hi;omega)];exact hf
  ·rw [getD_set_ne false e]at hl;rw [qL v (Ajr hi hj e)];exact(h.fc n25 j hj hl).ext hx hj
end
end
end Go.Proofs.YtbejphgbbpplbaaGreatDoor
