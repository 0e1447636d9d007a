/- X41: BP BL. -/
import Derived.Test.YtjalkoacphhgdaaGreatDoorX39
set_option maxRecDepth 100000
set_option maxHeartbeats 16000000
namespace Go.Proofs.YtjalkoacphhgdaaGreatDoor
open Go.RowKit Kl
theorem zo(w:World)(o1 o2:Obj):((w.alloc o1).alloc o2).drew.heap[w.heap.size]?=some o1/\((w.alloc o1).alloc o2).drew.heap[w.heap.size+1]?=some o2/\Aa w ((w.alloc o1).alloc o2).drew:=by
 have E1:=(Aa.refl w).alloc o1;have h1:=AqJ w o1;have E2:=(Aa.refl (w.alloc o1)).alloc o2;have h2:=AqJ (w.alloc o1) o2;rw [AqR]at h2;exact⟨(E2.block _ (AqI h1)).trans h1,h2,(E1.trans E2).drew⟩
theorem jW{a b:World}(_:Aa a b):∃c,c=b:=⟨b,rfl⟩
theorem D7.keys{B:Nat}{W:World}{b2:Nat}{E:List (Pt×Value×Nat)}{R0:List (Pt×List Pt)}(h:D7 B W b2 E R0):E.map (·.1)=R0.map (·.1):=by
 apply List.ext_getElem
 ·simp [h.len]
 ·intro i h1 h2;simp only [List.getElem_map];exact(h.row i (by simpa using h1) (by simpa using h2)).1
theorem Aja{w0 w:World}(hw:Am w0)(hx:Aa w0 w){B:Nat}{r b1 b2:Nat}{L:List (Sg×Int)}{E:List (Pt×Value×Nat)}{R0:List (Pt×List Pt)}(h:Bw B w r b1 b2 L E R0)(hz:∀e∈R0,Ar 200 e.1/\∀p∈e.2,Ar 200 p)
  (hlen:R0.length<=100000) (hrl:∀e∈R0,e.2.length<100000) (Cc:(R0.map (·.1)).Nodup) (hno:∀e∈R0,∀p q,e.2 = [p,q]→AH (Al p e.1 q)≠0) :
  Calls Tryz.prog 193 #[.pointer (some ⟨r,0,none⟩)] w fun e w'=>e=.returned (.tuple #[])/\Aa w w':=by
 have JZ:=h.ar.len;have DY:=h.ar.keys;have m1:=Ab (o:=1) h.cell rfl;have Cq:=(Aa.refl w).alloc (.cells #[.map (some b2)] 132);have BU:=AqJ w (.cells #[.map (some b2)] 132)
 have sk:=yn hw (hx.trans Cq) w.heap.size b2 E (fun i hi=>(h.ar.row i hi (by rw [←JZ];exact hi)).2.1) (AqI BU) (Ab BU rfl) (h.ext Cq).ar.blk
  (fun e he=>by
   have:e.1∈R0.map (·.1):=(by rw [←DY];exact List.mem_map_of_mem he);obtain⟨e',he',h1⟩:=List.mem_map.1 this
   rw [←h1];exact(hz e' he').1) (by omega)
 rw [DY]at sk;obtain⟨ks,EH⟩:=AqG (ES (R0.map (·.1)));have Cr:ks.length=E.length:=by rw [EH,(Ky _).length_eq,JZ];simp
 have Kg:∀p∈ks,∃e∈R0,e.1=p:=fun p hp=>by rw [EH]at hp;obtain⟨e,he,h1⟩:=List.mem_map.1 ((Ky _).mem_iff.1 hp);exact⟨e,he,h1⟩
 rw [←EH,←Cr]at sk;have Ig:=AqH h;have YM:=AqH Kg;have HZ:=AqH hz;have KD:=AqH hrl;have U9:=AqH Cc;have Mo:=AqH hno;have hkn:ks.length<=100000:=(by omega);clear EH Cr Kg DY JZ hz hrl Cc hno h hlen;have kp:=mg (some b2) w;go_enter Tryz.func193,Tryz.ntmps193;(go_wp2_with fail);(with_reducible refine kp.mono ?_);rintro e w2 ⟨rfl,rfl⟩;(go_wp2_with fail);(with_reducible refine sk.mono ?_);rintro e w3 ⟨sv,rfl,Db,Fc⟩;obtain⟨sA,sc,rfl,AN,-,-⟩:=Ad.of_own' (by omega) Db;unfold Fw at AN;have Ja:Aa w w3:=Cq.trans Fc;have Di:=hx.trans Ja;have G2:=AqH (Ig.out.ext Ja);clear sk kp BU Cq Fc Db m1;have hl0:(0:Int)<=(ks.length:Int):=by omega
 go_upto_region 1 with fail
 go_loopw [20] (fun iv wr=>∃k:Nat,iv=.int .i64 (k:Nat)/\k<=ks.length/\Aa w3 wr) (fun iv _=>ks.length-(intOf iv).toNat)
 case atStart=>exact⟨0,rfl,by omega,Aa.refl _⟩
 case round=>
  obtain⟨k,rfl,hk,BL⟩:=hrel;by_cases O6:k<ks.length
  ·obtain⟨b,o,rfl,f1,f2⟩:=C2 (AN.ext BL) O6;obtain⟨e,he,Wy⟩:=YM.out _ (AqL O6);obtain⟨p,hp⟩:=AqG (ks[k]);rw [←hp]at f1 f2 Wy;have eN:=vz U9.out he;rw [Wy]at eN;have hsz:=HZ.out e he;have hel:=KD.out e he;have Jl:=Mo.out e he;rw [Wy]at hsz Jl;obtain⟨es,hes⟩:=AqG e.2;have hk0:(0:Int)<=(k:Int):=(by omega);have BH:(k:Int)<(ks.length:Int):=(by omega);have EA:=(Aa.refl wr).alloc (.cells #[S (R p.x),S (R p.y)] 92);have Aq:=AqJ wr (.cells #[S (R p.x),S (R p.y)] 92);have PN:=G2.out.ext (BL.trans EA);obtain⟨A,c,hv,hrow,hc1,hc2⟩:=PN.ar.look p eN;rw [←hes]at hv hrow hc1 hsz hel Jl;have HNN:=AqH Jl;clear hp hes eN Wy he Jl
   go_upto_region 3 with fail
   unfold S at Aq EA PN hrow;generalize wr.alloc (.cells #[.string ⟨(R p.x).toArray⟩,.string ⟨(R p.y).toArray⟩] 92)=V at *;obtain⟨ba,MS⟩:=AqG wr.heap.size;rw [←MS]at Aq ⊢;clear MS f1 f2;have Ht:=BL.trans EA;have q1:∀q:Af V,q.w.cell? ⟨r,1,none⟩=some (.map (some b2)):=Af.cell (Ab PN.cell rfl);have q2:∀q:Af V,q.w.cell? ⟨ba,0,none⟩=some (S (R p.x)):=Af.cell (Ab Aq rfl);have q3:∀q:Af V,q.w.cell? ⟨ba,1,none⟩=some (S (R p.y)):=Af.cell (Ab Aq rfl)
   have q5:∀q:Af V,(Instr.lookup 132 (.map (some b2)) (Ak p) false).run Tryz.prog q.w=.ok (.slice A es.length c) q.w:=fun q=>by rw [QQ Q0 p E (W:=q.w) ((q.h.block b2 PN.ar.lt).trans PN.ar.blk),hv]
   unfold Ak at q5;refine F5 (by kernel_rfl) (by kernel_rfl) ?_
   repeat (go_big_quiet_step (fail))
   refine wpQuiet_nil ?_;rintro W4 ⟨q,hq⟩;have Ai:Aa V W4:=hq▸q.h;have Iy:=Ht.trans Ai;have dQ:=(Ai.block _ (AqI Aq)).trans Aq;have hrow4:=hrow.ext Ai;clear q1 q2 q3 q5 hq q PN hv hrow Aq Ai EA BL Ht;by_cases h2:es.length=2
   ·obtain⟨a,d,rfl⟩:∃a d,es = [a,d]:=by
     match es,h2 with
     | [a,d],_=>exact⟨a,d,rfl⟩
    have GE:=HNN.out a d rfl;obtain⟨bA,oA,rfl,g1,g2⟩:=C2 hrow4 (show 0 < [a,d].length by simp);obtain⟨bA',oA',hA',g3,g4⟩:=C2 hrow4 (show 1 < [a,d].length by simp);simp only [AqO,Addr.mk.injEq,and_true]at hA';obtain⟨rfl,rfl⟩:=hA';simp only [List.getElem_cons_zero,List.getElem_cons_succ,Nat.zero_mul,Nat.add_zero,Nat.one_mul]at g1 g2 g3 g4;have za:=hsz.2 a (by simp);have zd:=hsz.2 d (by simp);have y0:=Ab (o:=0) dQ rfl;have y1:=Ab (o:=1) dQ rfl;have SO:=fun (w':World) (h:Aa W4 w')=>(⟨h.cellS g1,h.cellS g2,h.cellS g3,h.cellS g4⟩:_/\_/\_/\_);have X:=Aa.refl W4;clear hrow4
    go_upto_region 5 with fail
    go_cut [5,6] (fun v5 v6 wx=>∃b5 b6,v5=.pointer (some ⟨b5,0,none⟩)/\v6=.pointer (some ⟨b6,0,none⟩)/\wx.heap[b5]?=some (.cells #[S (R a.x),S (R a.y)] 92)/\wx.heap[b6]?=some (.cells #[S (R d.x),S (R d.y)] 92)/\Aa W4 wx)
    case first=>
     go_region_held3 (fun w'=>w'.cell? ⟨bA,oA,none⟩=some (S (R a.x))/\w'.cell? ⟨bA,oA+1,none⟩=some (S (R a.y))/\w'.cell? ⟨bA,oA+2,none⟩=some (S (R d.x))/\w'.cell? ⟨bA,oA+2+1,none⟩=some (S (R d.y)))
      ((refine SO _ ?_;repeat (first|exact X|(with_reducible refine Aa.drew ?_)|(with_reducible refine Aa.alloc ?_ _)|(with_reducible refine Aa.setCell ?_ (by simp) _))))
      (fail)
     all_goals go_wp2
     all_goals go_meet
     all_goals
      first
       | (have tn:=zo W4 (.cells #[S (R a.x),S (R a.y)] 92) (.cells #[S (R d.x),S (R d.y)] 92);exact⟨_,_,rfl,rfl,tn.1,tn.2.1,tn.2.2⟩)
       | (have tn:=zo W4 (.cells #[S (R d.x),S (R d.y)] 92) (.cells #[S (R a.x),S (R a.y)] 92);exact⟨_,_,rfl,rfl,tn.2.1,tn.1,tn.2.2⟩)
    case rest=>
     obtain⟨b5,b6,rfl,rfl,hb5,DC,Ae⟩:=hcut;obtain⟨W5,rfl⟩:=jW Ae;have SB:=Iy.trans Ae;have y5:=Ae.cellS y0;have y6:=Ae.cellS y1;have u0:=Ab (o:=0) hb5 rfl;have u1:=Ab (o:=1) hb5 rfl;have u2:=Ab (o:=0) DC rfl;have u3:=Ab (o:=1) DC rfl;clear SO X g1 g2 g3 g4 y0 y1 Ae Iy dQ hb5 DC;have SO:=fun (w':World) (h:Aa W5 w')=>(⟨h.cellS u0,h.cellS u1,h.cellS u2,h.cellS u3,h.cellS y5,h.cellS y6⟩:_/\_/\_/\_/\_/\_);have X:=Aa.refl W5
     go_upto_region 6 with fail
     go_cut [7,8] (fun v7 v8 wx=>∃b7 b8,v7=.pointer (some ⟨b7,0,none⟩)/\v8=.pointer (some ⟨b8,0,none⟩)/\Aa W5 wx)
     case first=>
      go_region_held3 (fun w'=>w'.cell? ⟨b5,0,none⟩=some (S (R a.x))/\w'.cell? ⟨b5,1,none⟩=some (S (R a.y))/\w'.cell? ⟨b6,0,none⟩=some (S (R d.x))/\w'.cell? ⟨b6,1,none⟩=some (S (R d.y))/\w'.cell? ⟨ba,0,none⟩=some (S (R p.x))/\w'.cell? ⟨ba,1,none⟩=some (S (R p.y)))
       ((refine SO _ ?_;repeat (first|exact X|(with_reducible refine Aa.drew ?_)|(with_reducible refine Aa.alloc ?_ _)|(with_reducible refine Aa.setCell ?_ (by simp) _))))
       (fail)
      all_goals go_wp2
      all_goals go_meet
      all_goals exact⟨_,_,rfl,rfl,((X.alloc _).alloc _).drew⟩
     case rest=>
      obtain⟨b7,b8,rfl,rfl,Ay⟩:=hcut;obtain⟨W6,rfl⟩:=jW Ay;have MP:=SB.trans Ay;have q0:∀q:Af W6,q.w.cell? ⟨b5,0,none⟩=some (S (R a.x)):=Af.cell (Ay.cellS u0);have q1:∀q:Af W6,q.w.cell? ⟨b5,1,none⟩=some (S (R a.y)):=Af.cell (Ay.cellS u1);have q2:∀q:Af W6,q.w.cell? ⟨b6,0,none⟩=some (S (R d.x)):=Af.cell (Ay.cellS u2);have q3:∀q:Af W6,q.w.cell? ⟨b6,1,none⟩=some (S (R d.y)):=Af.cell (Ay.cellS u3);have q4:∀q:Af W6,q.w.cell? ⟨ba,0,none⟩=some (S (R p.x)):=Af.cell (Ay.cellS y5);have q5:∀q:Af W6,q.w.cell? ⟨ba,1,none⟩=some (S (R p.y)):=Af.cell (Ay.cellS y6);have ct:=fun (q:Af W6)=>LQ a p d za hsz.1 zd (by omega) (by omega) q.w (hw.ext ((Di.trans MP).trans q.h));obtain⟨s,hs⟩:=AqG (AH (Al a p d));rw [←hs]at ct GE;unfold Ak S at ct;have hs1:(s == 0)=false:=beq_false_of_ne GE;have hs2:(s != 0)=true:=(by rw [bne,hs1];rfl);clear hs SO X u0 u1 u2 u3 y5 y6 Ay GE
      go_upto_region 7 with fail
      refine F5 (by kernel_rfl) (by kernel_rfl) ?_
      repeat (go_big_quiet_step (with_reducible refine Ei (ct _)))
      refine wpQuiet_nil ?_;rintro W7 ⟨q,hq⟩;have Aw:Aa W6 W7:=hq▸q.h;clear hq q q0 q1 q2 q3 q4 q5 ct;go_wp2;go_roundw
      case rel=>exact⟨k+1,by go_num,O6,MP.trans Aw⟩
      case measure=>simp [intOf];omega
   ·have Fp:¬((es.length:Int)=2):=(by omega);have hb2:((es.length:Int) == 2)=false:=beq_false_of_ne Fp;have hb3:((es.length:Int) != 2)=true:=(by rw [bne,hb2];rfl);go_wp2;go_roundw
    case rel=>exact⟨k+1,by go_num,O6,Iy⟩
    case measure=>simp [intOf];omega
  ·have Bt:k=ks.length:=(by omega);subst Bt;go_wp2
   go_end0
   exact⟨rfl,Ja.trans BL⟩
def Gu(p:List Pt)(k:Nat):Sg:=⟨p.getD k ⟨0,0⟩,p.getD ((k+1)%p.length) ⟨0,0⟩⟩
def Fz(p:List Pt)(k:Nat)(i:Nat):List (Sg×Int):=(List.range k).map fun j=>(Gu p j,(i:Int))
def BC(P:List (List Pt×Bs))(n:Nat):List (Sg×Int):=(List.range n).flatMap fun i=>Fz (P.getD i ([],[])).1 (P.getD i ([],[])).1.length i
theorem mL(p:List Pt)(k i:Nat):Fz p (k+1) i=Fz p k i ++ [(Gu p k,(i:Int))]:=by simp [Fz,List.range_succ]
theorem x9{P:List (List Pt×Bs)}{n:Nat}(h:n<P.length):BC P (n+1)=BC P n++Fz P[n].1 P[n].1.length n:=by
 unfold BC;rw [List.range_succ,List.flatMap_append];simp [List.getD_eq_getElem?_getD,AqP h]
def Sm(s:Sg):List Pt:=if 0<Be s.a s.b then [s.b,s.a] else [s.a,s.b]
structure qA(P:List (List Pt×Bs)):Prop where
 len:P.length<=1000
 pc:∀e∈P,0<e.1.length/\e.1.length<=60
 sz:∀e∈P,∀p∈e.1,Ar 200 p
 two:∀e∈P,∀k,k<e.1.length→(RX P).filter (fun q=>GM (Gu e.1 k).a (Gu e.1 k).b q)=Sm (Gu e.1 k)
 nd:((BC P P.length).map (·.1)).Nodup
theorem xz(P:List (List Pt×Bs))(m:Nat):∀d,∃r,BC P (m+d)=BC P m++r
 | 0=>⟨[],by simp⟩
 | d+1=>by
  obtain⟨r,hr⟩:=xz P m d;refine⟨r++Fz (P.getD (m+d) ([],[])).1 (P.getD (m+d) ([],[])).1.length (m+d),?_⟩
  have e:BC P (m+(d+1))=BC P (m+d)++Fz (P.getD (m+d) ([],[])).1 (P.getD (m+d) ([],[])).1.length (m+d):=by unfold BC;rw [←Nat.add_assoc,List.range_succ,List.flatMap_append];simp
  rw [e,hr,List.append_assoc]
theorem ya(p:List Pt)(k i:Nat):∀d,∃r,Fz p (k+d) i=Fz p k i++r
 | 0=>⟨[],by simp⟩
 | d+1=>by obtain⟨r,hr⟩:=ya p k i d;exact⟨r ++ [(Gu p (k+d),(i:Int))],by rw [←Nat.add_assoc,mL,hr,List.append_assoc]⟩
theorem AmO{P:List (List Pt×Bs)}(Cc:((BC P P.length).map (·.1)).Nodup){j k:Nat}(hj:j<P.length)(hk:k<P[j].1.length):∀e∈BC P j++Fz P[j].1 k j,AL (Gu P[j].1 k) e.1=false:=by
 obtain⟨r1,h1⟩:=xz P (j+1) (P.length-(j+1));rw [show j+1+(P.length-(j+1))=P.length by omega,x9 hj]at h1;obtain⟨r2,h2⟩:=ya P[j].1 (k+1) j (P[j].1.length-(k+1));rw [show k+1+(P[j].1.length-(k+1))=P[j].1.length by omega,mL]at h2;rw [h1,h2]at Cc;intro e he;refine xl fun hh=>?_;have e0:BC P j++(Fz P[j].1 k j ++ [(Gu P[j].1 k,(j:Int))]++r2)++r1=(BC P j++Fz P[j].1 k j)++((Gu P[j].1 k,(j:Int))::(r2++r1)):=(by simp);rw [e0,List.map_append,List.map_cons,List.nodup_append]at Cc;exact Cc.2.2 _ (List.mem_map_of_mem he) _ List.mem_cons_self hh.symm
theorem AmN{p:List Pt}{k q:Nat}(hk:k<p.length)(hq:q=(k+1)%p.length)(By:q<p.length):Gu p k=⟨p[k],p[q]⟩:=by
 unfold Gu;rw [←hq];simp [List.getD_eq_getElem?_getD,AqP hk,AqP By]
def AbQ(w:World)(L:List (Sg×Int))(e:Ending)(w':World):Prop:=
 ∃b,e=.returned (.map (some b))/\D6 w' b L/\w.heap.size<=b/\Aa w w'
theorem Al1(P:List (List Pt×Bs))(hP:qA P)(A:Option Addr)(c:Nat)(w:World)(hw:Am w)(h:KI w A c P) :
  Calls Tryz.prog 103 #[.slice A P.length c] w (AbQ w (BC P P.length)):=by
 have hmm:=@run_makeMap Tryz.prog;obtain⟨n,hn⟩:=AqG P.length;rw [←hn];have HN:=AqH hn;have hlen:n<=1000:=(by rw [hn];exact hP.len);have HP:=AqH hP;have HA:=AqH h;have hc1:n<=c:=(by rw [hn];exact h.c1);clear hn hP h;go_enter Tryz.func103,Tryz.ntmps103
 go_upto_region 3 with fail
 go_loopw [3,18] (fun ov iv wr=>∃i:Nat,iv=.int .i64 (i:Nat)/\i<=n/\wr.ownsRow w.heap.size 92 2 ov (Dp P i).length (flat (Ao (Dp P i)))/\Aa w wr) (fun _ iv _=>n-(intOf iv).toNat)
 case atStart=>exact⟨0,rfl,by omega,⟨rfl,.inl ⟨rfl,rfl⟩⟩,Aa.refl _⟩
 case round=>
  obtain⟨i,rfl,hi,hown,Ac⟩:=hrel;obtain⟨vA,vc,rfl⟩:=kX (by omega) hown;by_cases hin:i<n
  ·have Nf:i<P.length:=(by rw [←HN.out];exact hin);obtain⟨bA,oA,A',c',rfl,AG,AX,By,AN,hr1,hr2⟩:=HA.out.row i Nf;have Jo:=HP.out.pc _ (AqL Nf);have Qr:=tD Nf;have Dx:=ZX (fun e he=>(HP.out.pc e he).2) i (by omega);obtain⟨pg,GB⟩:=AqG (P[i].1);obtain⟨un,Av⟩:=AqG (P[i].2);rw [←GB]at AG AN hr1 Jo Qr;rw [←Av]at AX;replace AG:=Ac.cellS AG;replace AX:=Ac.cellS AX;replace By:=Ac.cellS By;replace AN:=AN.ext Ac;have Lt:(0:Int)<=(i:Int):=(by omega);have Qf:(i:Int)<(n:Int):=(by omega);have E4:=(Aa.refl wr).alloc (.cells #[.slice A' pg.length c',S un,.slice none 0 0] 95);have AA:=AqJ wr (.cells #[.slice A' pg.length c',S un,.slice none 0 0] 95);have dw:(Dp P i).length<200000:=(by omega);have pD:=AqH Qr;obtain⟨cl,hcl⟩:=AqG (Dp P i);rw [←hcl]at hown dw pD ⊢;have HCL:=AqH hcl;clear Qr Dx GB Av hcl
   go_upto_region 5 with fail
   unfold S at AA E4;generalize wr.alloc (.cells #[.slice A' pg.length c',.string ⟨un.toArray⟩,.slice none 0 0] 95)=W4 at *;have y0:=Ab (o:=0) AA rfl;have Kj:wr.heap.size<=W4.heap.size:=E4.size;have hs0:=Ac.size;clear AG AX By
   go_wp2_with (at_builtin;go_loud (refine Acm rfl _ _ rfl _ w.heap.size (.slice vA cl.length vc) cl.length cl rfl (AC hown E4) dw pg A' c' rfl (AN.ext E4) Jo.1 (by omega) (by omega) ?_);intro v7 w7 L2 eG)
   go_roundw
   case rel=>exact⟨i+1,by go_num,hin,by rw [pD.out,List.length_append];exact L2,eG w (Ac.trans E4) (AqK _)⟩
   case measure=>simp [intOf];omega
  ·have O0:i=n:=(by omega);subst O0;have hsz:=HP.out.sz;have Ahm:=ZX (fun e he=>(HP.out.pc e he).2) i (by have:=HN.out;omega)
   have Db:=yi hw Ac (AqK _) (Dp P i) (fun s hs=>by
    obtain⟨e,he,hq⟩:=nj hs
    exact hsz e he s hq) (by omega) hown
   obtain⟨C,hC⟩:=AqG (RX P);have VH:Lib.compact (ES (Dp P i))=C:=by rw [hC];unfold RX;rw [←HN.out]
   have wL:C.length<=60000:=by rw [←VH];refine AqU (AdR _) ?_;rw [(Ky _).length_eq];omega
   have wM:∀q∈C,Ar 200 q:=fun q hq=>by rw [←VH]at hq;obtain⟨e,he,hq⟩:=nj ((Ky _).mem_iff.1 (mem_compact hq));exact hsz e he q hq
   have cc:=fun (w5:World) (h:w5.ownsRow w.heap.size 92 2 (.slice vA (Dp P i).length vc) (Dp P i).length (Fw (ES (Dp P i))))=>AdP (ES (Dp P i)) (.slice vA (Dp P i).length vc) w5 w.heap.size (by rw [(Ky _).length_eq];exact h)
   rw [VH]at cc;have HC:=AqH hC;have Gw:=AqH wM;clear hsz VH hC wM;obtain⟨m0,hm0⟩:=AqG ((Dp P i).length);rw [←hm0]at hown Db cc Ahm ⊢;clear hm0;(go_wp2_with fail);(with_reducible refine Db.mono ?_);rintro e w5 ⟨rfl,hg5,Cm⟩;have Ae:Aa w w5:=Ac.grownOwn hg5 hown (AqK _);have c5:=cc w5 Cm;clear cc Db hg5 hown;(go_wp2_with fail);(with_reducible refine c5.mono ?_);rintro e w6 ⟨A6,k6,rfl,hr6,h61,h62,PP⟩;have Ay:Aa w w6:=PP w Ae (AqK _);clear PP c5 Cm Ae Ac;have Dv:=AqJ w6 (.map #[] 0);have E7:=(Aa.refl w6).alloc (.map #[] 0)
   go_upto_region 11 with fail
   generalize w6.alloc (.map #[] 0)=W7 at *;obtain⟨bm,yT⟩:=AqG w6.heap.size;rw [←yT]at Dv ⊢;have hle:w.heap.size<=bm:=(by have:=Ay.size;omega);have FK:=Ay.trans E7;have hr7:=hr6.ext E7;clear yT hr6 E7 Ay;have PK:D6 W7 bm (BC P 0):=Dv
   go_loopw [34] (fun iv wr=>∃j:Nat,iv=.int .i64 (j:Nat)/\j<=i/\D6 wr bm (BC P j)/\Au (fun q=>q=bm) W7 wr) (fun iv _=>i-(intOf iv).toNat)
   case atStart=>exact⟨0,rfl,by omega,PK,Au.refl _ _⟩
   case round=>
    obtain⟨j,rfl,hj,hM,hB⟩:=hrel;have BL:Aa w wr:=hB.toExt FK (fun q e=>by subst e;exact hle);by_cases hjn:j<i
    ·have I4:j<P.length:=(by rw [←HN.out];exact hjn);obtain⟨bA,oA,A',c',rfl,AG,AX,By,AN,hr1,hr2⟩:=HA.out.row j I4;have Jo:=HP.out.pc _ (AqL I4);have Nk:=HP.out.sz _ (AqL I4);have LA:=HP.out.two _ (AqL I4);have CN:=x9 I4;have hnew:=fun k (hk:k<P[j].1.length)=>AmO HP.out.nd I4 hk;obtain⟨pg,GB⟩:=AqG (P[j].1);obtain⟨un,Av⟩:=AqG (P[j].2);rw [←GB]at AG AN hr1 Jo Nk LA CN hnew;rw [←Av]at AX;replace AG:=BL.cellS AG;replace AX:=BL.cellS AX;replace By:=BL.cellS By;have Lt:(0:Int)<=(j:Int):=(by omega);have Qf:(j:Int)<(i:Int):=(by omega);have E8:=(Aa.refl wr).alloc (.cells #[.slice A' pg.length c',S un,.slice none 0 0] 95);have AY:=AqJ wr (.cells #[.slice A' pg.length c',S un,.slice none 0 0] 95);have AaV:=AqH hnew;have oW:=AqH Nk;have HTW:=AqH LA;have He:=AqH CN;clear GB Av Nk LA CN hnew
     go_upto_region 13 with fail
     unfold S at AY E8;generalize wr.alloc (.cells #[.slice A' pg.length c',.string ⟨un.toArray⟩,.slice none 0 0] 95)=W8 at *;obtain⟨bp,dU⟩:=AqG wr.heap.size;rw [←dU]at AY ⊢;have Apw:bm<bp:=(by rw [dU];exact AqI hM);have y0:=Ab (o:=0) AY rfl
     have S7:D6 W8 bm (BC P j++Fz pg 0 j):=by have e:Fz pg 0 j = []:=rfl;rw [e,List.append_nil];exact hM.ext E8
     have VD:=hB.ext E8;clear dU AG AX By hM hB E8 BL
     go_upto_region 14 with fail
     go_loopw [42] (fun kv wk=>∃k:Nat,kv=.int .i64 (k:Nat)/\k<=pg.length/\D6 wk bm (BC P j++Fz pg k j)/\Au (fun q=>q=bm) W8 wk) (fun kv _=>pg.length-(intOf kv).toNat)
     case atStart=>exact⟨0,rfl,by omega,S7,Au.refl _ _⟩
     case round=>
      obtain⟨k,rfl,hk,MK,VF⟩:=hrel;have bE:=VD.trans VF;have VZ:Aa w wr:=bE.toExt FK (fun q e=>by subst e;exact hle);have yY:=VF.cells AY (by omega);by_cases hkn:k<pg.length
      ·obtain⟨q,hq⟩:=AqG ((k+1)%pg.length);have Ki:q<pg.length:=by rw [hq];exact Nat.mod_lt _ (by omega)
       have Qi:(((k:Int)+1)).tmod (pg.length:Int)=(q:Int):=by rw [Int.tmod_eq_emod_of_nonneg (by omega),hq,Int.natCast_emod];rfl
       have Ahh:(((k:Int)+1))%(pg.length:Int)=(q:Int):=(by rw [hq,Int.natCast_emod];rfl);have WR:¬((pg.length:Int)=0):=(by omega);have eu:¬(pg.length=0):=(by omega);have Ahy:((pg.length:Int) == 0)=false:=beq_false_of_ne WR;have gi:IntKind.wrap .i64 (q:Int)=(q:Int):=AqQ _ (by omega);have Qj:IntKind.wrap .i64 ((k:Int)+1)=(k:Int)+1:=AqQ _ (by omega);obtain⟨b,o,rfl,ka,kb⟩:=C2 (AN.ext VZ) hkn;obtain⟨b',o',he,qa,qb⟩:=C2 (AN.ext VZ) Ki;simp only [AqO,Addr.mk.injEq,and_true]at he;obtain⟨rfl,rfl⟩:=he;have gX:=oW.out _ (AqL hkn);have Tx:=oW.out _ (AqL Ki);have Ty:=AmN hkn hq Ki;have LA:=HTW.out k hkn;rw [Ty]at LA;obtain⟨a0,ha0⟩:=AqG (pg[k]);obtain⟨b0,hb0⟩:=AqG (pg[q]);rw [←ha0]at ka kb gX LA Ty;rw [←hb0]at qa qb Tx LA Ty;have Abo:=AqH LA;have HSD:=AqH Ty;have hk0:(0:Int)<=(k:Int):=(by omega);have BH:(k:Int)<(pg.length:Int):=(by omega);have AhA:(0:Int)<=(q:Int):=(by omega);have AhB:(q:Int)<(pg.length:Int):=(by omega);have hm0:(0:Int)<(pg.length:Int):=(by omega);clear ha0 hb0 hq LA Ty;have hpn:pg≠[]:=fun e=>(by rw [e]at hkn;simp at hkn);have Aq:=AqJ wr (.cells #[S (R a0.x),S (R a0.y)] 92);have EA:=(Aa.refl wr).alloc (.cells #[S (R a0.x),S (R a0.y)] 92)
       go_upto_region 16 with fail
       unfold S at Aq EA;generalize wr.alloc (.cells #[.string ⟨(R a0.x).toArray⟩,.string ⟨(R a0.y).toArray⟩] 92)=VA at *;obtain⟨ba,MS⟩:=AqG wr.heap.size;rw [←MS]at Aq ⊢;have ApN:w.heap.size<=ba:=(by have:=VZ.size;omega);clear MS;replace qa:=EA.cellS qa;replace qb:=EA.cellS qb;have yp:=EA.cellS (Ab (o:=0) yY rfl);have X:=Aa.refl VA;have SO:=fun (w':World) (h:Aa VA w')=>(⟨h.cellS yp,h.cellS qa,h.cellS qb⟩:_/\_/\_);clear y0 ka kb
       go_cut [11] (fun v11 wx=>∃bb,v11=.pointer (some ⟨bb,0,none⟩)/\wx.heap[bb]?=some (.cells #[S (R b0.x),S (R b0.y)] 92)/\Aa VA wx)
       case first=>
        go_region_held3 (fun w'=>w'.cell? ⟨bp,0,none⟩=some (.slice (some ⟨b,o,none⟩) pg.length c')/\w'.cell? ⟨b,o+q*2,none⟩=some (S (R b0.x))/\w'.cell? ⟨b,o+q*2+1,none⟩=some (S (R b0.y)))
         ((refine SO _ ?_;repeat (first|exact X|(with_reducible refine Aa.drew ?_)|(with_reducible refine Aa.alloc ?_ _)|(with_reducible refine Aa.setCell ?_ (by simp) _))))
         (fail)
        all_goals go_wp2
        all_goals go_meet
        all_goals exact⟨_,rfl,by unfold S;exact AqJ VA _,(X.alloc _).drew⟩
       case rest=>
        obtain⟨bb,rfl,Br,BM⟩:=hcut;obtain⟨W9,rfl⟩:=XF BM;have Lj:Aa w W9:=VZ.trans (EA.trans BM)
        have Wi:=BM.block _ (AqI Aq) |>.trans Aq
        have gu:Ad W9 A6 (flat (Ao C)):=by
         refine⟨fun h0=>?_⟩;obtain⟨g0,o0,e0,hc0⟩:=hr7.ad h0;refine⟨g0,o0,e0,fun z hz=>?_⟩;have h7:=hc0 z hz;refine(EA.trans BM).cellS ?_
         exact(World.cell?_of_block (a:=⟨g0,o0+z,none⟩) (bE.block g0 (World.block_lt_of_cell? W7 _ h7) (fun e=>by
          subst e;rw [World.cell?]at h7
          simp [Dv]at h7))).trans h7
        have hM9:D6 W9 bm (BC P j++Fz pg k j):=MK.ext (EA.trans BM);have ME:=(VF.ext EA).ext BM;have hw9:=hw.ext Lj;clear SO X qa qb yp Aq BM EA MK yY
        go_upto_region 19 with fail
        go_loopw [12,59] (fun ov qv wx=>∃(z:Nat) (l:List Pt),qv=.int .i64 (z:Nat)/\z<=C.length/\l=(C.take z).filter (fun p=>GM a0 b0 p)/\wx.ownsRow W9.heap.size 92 2 ov l.length (flat (Ao l))/\Aa W9 wx) (fun _ qv _=>C.length-(intOf qv).toNat)
        case atStart=>exact⟨0,[],rfl,by omega,by simp,⟨rfl,.inl ⟨rfl,rfl⟩⟩,Aa.refl _⟩
        case round=>
         obtain⟨z,l,rfl,hz,hl,hown,Ac⟩:=hrel;obtain⟨vL,vLc,rfl⟩:=kX (by omega) hown;by_cases Nv:z<C.length
         ·obtain⟨b2,o2,rfl,ca,cb⟩:=C2 (gu.ext Ac) Nv;have Gp:=Gw.out _ (AqL Nv)
          have I8:(C.take (z+1)).filter (fun p=>GM a0 b0 p)=l++(if GM a0 b0 C[z]=true then [C[z]] else []):=by
           rw [AqN Nv,List.filter_append,←hl]
           congr 1
           simp [List.filter_cons]
          obtain⟨q0,AG⟩:=AqG (C[z]);rw [←AG]at ca cb Gp I8;have hz0:(0:Int)<=(z:Int):=(by omega);have hz1:(z:Int)<(C.length:Int):=(by omega);have Dx:l.length<200000:=(by rw [hl];have:=List.length_filter_le (fun p=>GM a0 b0 p) (C.take z);rw [List.length_take]at this;omega);have I2:=AqJ wr (.cells #[S (R q0.x),S (R q0.y)] 92);have EQ:=(Aa.refl wr).alloc (.cells #[S (R q0.x),S (R q0.y)] 92);have pc:=fun (V:World) (h:Aa w V)=>ug a0 b0 q0 gX Tx Gp (by omega) (by omega) V (hw.ext h);obtain⟨bt,Gf⟩:=AqG (GM a0 b0 q0);rw [←Gf]at pc I8;have Mp:=AqH I8;clear AG I8 Gf hl
          go_upto_region 21 with fail
          unfold S at I2 EQ Br ca cb;generalize wr.alloc (.cells #[.string ⟨(R q0.x).toArray⟩,.string ⟨(R q0.y).toArray⟩] 92)=V2 at *;have CH:=Ac.trans EQ;have x0:=CH.cellS (Ab (o:=0) Wi rfl);have x1:=CH.cellS (Ab (o:=1) Wi rfl);have x2:=CH.cellS (Ab (o:=0) Br rfl);have x3:=CH.cellS (Ab (o:=1) Br rfl);have x4:=Ab (o:=0) I2 rfl;have x5:=Ab (o:=1) I2 rfl;have p2:=pc V2 (Lj.trans CH);unfold Ak S at p2;clear pc ca cb;(go_wp2_with fail);(with_reducible refine p2.mono ?_);rintro e w3 ⟨rfl,hx3⟩;have x6:=hx3.cellS x4;have x7:=hx3.cellS x5;have OD:W9.heap.size<=w3.heap.size:=(CH.trans hx3).size;clear p2 x0 x1 x2 x3 x4 x5
          cases bt
          ·have AoJ:=AqH Mp.out;go_wp2;go_roundw
           case rel=>exact⟨z+1,l,by go_num,Nv,by rw [Mp.out];simp,AC hown (EQ.trans hx3),CH.trans hx3⟩
           case measure=>simp [intOf];omega
          ·have CL:=AC hown (EQ.trans hx3)
           go_wp2_with (at_builtin;go_loud (refine Acl rfl _ _ rfl _ W9.heap.size (.slice vL l.length vLc) l.length l rfl (AC CL ((Aa.refl w3).alloc _)) Dx q0 w3.heap.size (AqJ w3 _) rfl (by simp;omega) ?_);intro v8 w8 hown8 Bd)
           go_roundw
           case rel=>exact⟨z+1,l ++ [q0],by go_num,Nv,by rw [Mp.out];simp,by rw [List.length_append];exact hown8,Bd W9 ((CH.trans hx3).alloc _) (AqK _)⟩
           case measure=>simp [intOf];omega
         ·have kf:z=C.length:=by omega
          have fD:l=Sm ⟨a0,b0⟩:=by rw [hl,kf,List.take_length];have h2:=Abo.out;rw [←HC.out]at h2;exact h2
          subst kf;have hl2:l.length=2:=by rw [fD];unfold Sm;split<;>rfl
          obtain⟨g,cap,iJ⟩:∃g cap,Value.slice vL l.length vLc=.slice (some ⟨g,0,none⟩) 2 cap:=by
           rcases hown.2 with⟨_,h'⟩|⟨g,cap,cur,hv,_⟩
           ·omega
           ·exact⟨g,cap,by rw [hv,hl2]⟩
          rw [iJ,hl2,fD]at hown;simp only [Value.slice.injEq]at iJ;obtain⟨Xg,-,hv2⟩:=iJ;subst Xg hv2;rw [hl2];have cp:=fun (V:World) (h:Aa w V)=>IE a0 b0 gX Tx (by omega) (by omega) V (hw.ext h);obtain⟨r,hr⟩:=AqG (Be a0 b0);rw [←hr]at cp;unfold Sm at hown;simp only [←hr]at hown;unfold S at Br;have x0:=Ac.cellS (Ab (o:=0) Wi rfl);have x1:=Ac.cellS (Ab (o:=1) Wi rfl);have x2:=Ac.cellS (Ab (o:=0) Br rfl);have x3:=Ac.cellS (Ab (o:=1) Br rfl);have p2:=cp wr (Lj.trans Ac);unfold Ak S at p2;clear cp hr fD hl hl2
          go_upto_region 24 with fail
          (go_wp2_with fail);(with_reducible refine p2.mono ?_);rintro e w3 ⟨rfl,hx3⟩;have CL:=AC hown hx3;clear p2 x0 x1 x2 x3 hown;by_cases BW:0<r
          case' pos=>rw [if_pos BW]at CL;have rv:=Amt b0 a0 g _ W9.heap.size w3 CL;have Ah8:r>0:=BW;(go_wp2_with fail);(with_reducible refine rv.mono ?_);rintro e w4 ⟨rfl,Cd,hg4⟩;have Ai:=(Ac.trans hx3).grownOwn hg4 CL (AqK _);clear hg4 rv CL
          case' neg=>rw [if_neg BW]at CL;have Ah8:¬r>0:=BW;obtain⟨w4,rfl⟩:=AqG w3;have Cd:=CL;have Ai:=Ac.trans hx3;clear CL
          all_goals (
           have Iy:Aa w w4:=Lj.trans Ai;have f0:=Cd.cellAt 0 (by omega);have f1:=Cd.cellAt 1 (by omega);have f2:=Cd.cellAt 2 (by omega);have f3:=Cd.cellAt 3 (by omega);simp only [Ao,LP,flat,List.map_cons,List.map_nil,List.flatMap_cons,List.flatMap_nil,List.append_nil,List.cons_append,List.nil_append,List.getElem?_cons_zero,List.getElem?_cons_succ]at f0 f1 f2 f3;have SO:=fun (w':World) (h:Aa w4 w')=>(⟨h.cellS f0,h.cellS f1,h.cellS f2,h.cellS f3⟩:_/\_/\_/\_);have X:=Aa.refl w4;have PL:D6 w4 bm (BC P j++Fz pg k j):=hM9.ext Ai;obtain⟨Wp,hput,PM,Ls,-⟩:=mo (PL.ext X.drew) (Gu pg k) (AaV.out k hkn) (j:Int)
           have CZ:∃cs t,w4.heap[g]?=some (.cells cs t (0,0)):=by
            rcases Cd.2 with⟨h',_⟩|⟨g',cap',cur,hv,_,hgb,_⟩
            ·omega
            ·simp only [Value.slice.injEq,AqO,Addr.mk.injEq]at hv;obtain⟨⟨rfl,-⟩,-⟩:=hv;exact⟨_,_,hgb⟩
           obtain⟨cg,tg,CZ⟩:=CZ
           have eV:some g≠some bm:=by
            intro e
            cases e;have h4:=PL;unfold D6 at h4;rw [h4]at CZ
            cases CZ
           have KP:=fun (o:Nat) (v:Value) (h:w4.cell? ⟨g,o,none⟩=some v)=>(World.cell?_of_block (a:=⟨g,o,none⟩) (Ls.block g (AqI CZ) eV)).trans h;have SP:=And.intro (KP _ _ f0) (And.intro (KP _ _ f1) (And.intro (KP _ _ f2) (KP _ _ f3)));have h11:IntKind.i64.wrap (0:Int)=0:=(by decide);have h02:(0:Int)<2:=(by omega);have bK:=((ME.ext Ai).ext X.drew).grown Ls (fun q e=>by cases e;exact .inl rfl);rw [HSD.out]at hput;unfold As S at hput;have YR:=AqH PM;clear PM Ls PL Cd Ac hx3 f0 f1 f2 f3 CZ eV KP
           go_upto_region 27 with fail
           go_loopw [15] (fun v wx=>(v=.int .i64 1/\wx=w4)∨(v=.int .i64 2/\wx=Wp)) (fun v _=>2-(intOf v).toNat)
           case atStart=>exact .inl ⟨rfl,rfl⟩
           case round=>
            rcases hrel with⟨rfl,rfl⟩|⟨rfl,rfl⟩
            ·go_upto_region 29 with fail
             go_region_held3 (fun w'=>w'.cell? ⟨g,0,none⟩=some (S (R a0.x))/\w'.cell? ⟨g,1,none⟩=some (S (R a0.y))/\w'.cell? ⟨g,2,none⟩=some (S (R b0.x))/\w'.cell? ⟨g,3,none⟩=some (S (R b0.y)))
              (first|with_reducible exact SO _ X|with_reducible exact SO _ X.drew|with_reducible exact SP)
              (fail)
             all_goals go_wp2
             all_goals go_roundw
             case rel=>exact .inr ⟨rfl,trivial⟩
             case measure=>simp [intOf]
            ·go_wp2;go_roundw
             case rel=>exact⟨k+1,by go_num,hkn,by rw [mL,←List.append_assoc];exact YR.out,bK⟩
             case measure=>simp [intOf];omega)
      ·have Bt:k=pg.length:=(by omega);subst Bt;rw [←He.out]at MK;have Rr:=AqH MK;clear MK VD VF;go_wp2;go_roundw
       case rel=>exact⟨j+1,by go_num,hjn,Rr.out,bE⟩
       case measure=>simp [intOf];omega
    ·have Kf:j=i:=(by omega);subst Kf;have AS:D6 wr bm (BC P j):=hM;go_wp2;go_ret;exact⟨bm,rfl,AS,hle,BL⟩
end Go.Proofs.YtjalkoacphhgdaaGreatDoor
