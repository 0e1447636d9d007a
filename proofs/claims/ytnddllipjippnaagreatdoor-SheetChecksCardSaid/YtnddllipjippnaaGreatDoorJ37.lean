/- J37: BP. -/
import Derived.Test.YtnddllipjippnaaGreatDoorJ36
set_option maxRecDepth 100000
set_option maxHeartbeats 8000000
namespace Go.Proofs.YtnddllipjippnaaGreatDoor
open Go.RowKit Kl
theorem Y2(w:World)(o1 o2:Obj):((w.alloc o1).alloc o2).drew.heap[w.heap.size]?=some o1/\((w.alloc o1).alloc o2).drew.heap[w.heap.size+1]?=some o2/\Ab w ((w.alloc o1).alloc o2).drew:=by
 have E1:=(Ab.refl w).alloc o1;have h1:=Ao6 w o1;have E2:=(Ab.refl (w.alloc o1)).alloc o2;have h2:=Ao6 (w.alloc o1) o2;rw [AoE]at h2;exact⟨(E2.block _ (Ao5 h1)).trans h1,h2,(E1.trans E2).drew⟩
theorem jN{a b:World}(_:Ab a b):∃c,c=b:=⟨b,rfl⟩
theorem DO.keys{B:Nat}{W:World}{b2:Nat}{E:List (Pt×Value×Nat)}{R0:List (Pt×List Pt)}(h:DO B W b2 E R0):E.map (·.1)=R0.map (·.1):=by
 apply List.ext_getElem
 ·simp [h.len]
 ·intro i h1 h2;simp only [List.getElem_map];exact(h.row i (by simpa using h1) (by simpa using h2)).1
theorem Ah2{w0 w:World}(hw:Am w0)(hx:Ab w0 w){B:Nat}{r b1 b2:Nat}{L:List (Sg×Int)}{E:List (Pt×Value×Nat)}{R0:List (Pt×List Pt)}(h:BD B w r b1 b2 L E R0)(hz:∀e∈R0,Az 200 e.1/\∀p∈e.2,Az 200 p)
  (hlen:R0.length<=100000) (hrl:∀e∈R0,e.2.length<100000) (C6:(R0.map (·.1)).Nodup) (hno:∀e∈R0,∀p q,e.2 = [p,q]→AZ (Ar p e.1 q)≠0) :
  Calls Tryz.prog 123 #[.pointer (some ⟨r,0,none⟩)] w fun e w'=>e=.returned (.tuple #[])/\Ab w w':=by
 have Dq:=h.ar.len;have Ep:=h.ar.keys;have m1:=Aa (o:=1) h.cell rfl;have Dp:=(Ab.refl w).alloc (.cells #[.map (some b2)] 96);have Cq:=Ao6 w (.cells #[.map (some b2)] 96)
 have sk:=uu hw (hx.trans Dp) w.heap.size b2 E (fun i hi=>(h.ar.row i hi (by rw [←Dq];exact hi)).2.1) (Ao5 Cq) (Aa Cq rfl) (h.ext Dp).ar.blk
  (fun e he=>by
   have:e.1∈R0.map (·.1):=(by rw [←Ep];exact List.mem_map_of_mem he);obtain⟨e',he',h1⟩:=List.mem_map.1 this
   rw [←h1];exact(hz e' he').1) (by omega)
 rw [Ep]at sk;obtain⟨ks,Jv⟩:=Ao3 (Fo (R0.map (·.1)));have Ce:ks.length=E.length:=by rw [Jv,(KF _).length_eq,Dq];simp
 have TC:∀p∈ks,∃e∈R0,e.1=p:=fun p hp=>by rw [Jv]at hp;obtain⟨e,he,h1⟩:=List.mem_map.1 ((KF _).mem_iff.1 hp);exact⟨e,he,h1⟩
 rw [←Jv,←Ce]at sk;have Ir:=Ao4 h;have HKM:=Ao4 TC;have HZ:=Ao4 hz;have KO:=Ao4 hrl;have YV:=Ao4 C6;have HNO:=Ao4 hno;have hkn:ks.length<=100000:=(by omega);clear Jv Ce TC Ep Dq hz hrl C6 hno h hlen;have kp:=kg (some b2) w;go_enter Tryz.func123,Tryz.ntmps123;(go_wp2_with fail);(with_reducible refine kp.mono ?_);rintro e w2 ⟨rfl,rfl⟩;(go_wp2_with fail);(with_reducible refine sk.mono ?_);rintro e w3 ⟨sv,rfl,Dw,BV⟩;obtain⟨sA,sc,rfl,Bf,-,-⟩:=Af.of_own' (by omega) Dw;unfold FK at Bf;have Jh:Ab w w3:=Dp.trans BV;have C0:=hx.trans Jh;have GN:=Ao4 (Ir.out.ext Jh);clear sk kp Cq Dp BV Dw m1;have hl0:(0:Int)<=(ks.length:Int):=by omega
 go_upto_region 1 with fail
 go_loopw [20] (fun iv wr=>∃k:Nat,iv=.int .i64 (k:Nat)/\k<=ks.length/\Ab w3 wr) (fun iv _=>ks.length-(intOf iv).toNat)
 case atStart=>exact⟨0,rfl,by omega,Ab.refl _⟩
 case round=>
  obtain⟨k,rfl,hk,Cd⟩:=hrel;by_cases Xa:k<ks.length
  ·obtain⟨b,o,rfl,f1,f2⟩:=Co (Bf.ext Cd) Xa;obtain⟨e,he,WR⟩:=HKM.out _ (Ao8 Xa);obtain⟨p,hp⟩:=Ao3 (ks[k]);rw [←hp]at f1 f2 WR;have eC:=rf YV.out he;rw [WR]at eC;have hsz:=HZ.out e he;have hel:=KO.out e he;have Jz:=HNO.out e he;rw [WR]at hsz Jz;obtain⟨es,hes⟩:=Ao3 e.2;have hk0:(0:Int)<=(k:Int):=(by omega);have DX:(k:Int)<(ks.length:Int):=(by omega);have EA:=(Ab.refl wr).alloc (.cells #[S (R p.x),S (R p.y)] 24);have Av:=Ao6 wr (.cells #[S (R p.x),S (R p.y)] 24);have PZ:=GN.out.ext (Cd.trans EA);obtain⟨A,c,hv,hrow,hc1,hc2⟩:=PZ.ar.look p eC;rw [←hes]at hv hrow hc1 hsz hel Jz;have HNN:=Ao4 Jz;clear hp hes eC WR he Jz
   go_upto_region 3 with fail
   unfold S at Av EA PZ hrow;generalize wr.alloc (.cells #[.string ⟨(R p.x).toArray⟩,.string ⟨(R p.y).toArray⟩] 24)=V at *;obtain⟨ba,Ni⟩:=Ao3 wr.heap.size;rw [←Ni]at Av ⊢;clear Ni f1 f2;have C5:=Cd.trans EA;have q1:∀q:Ad V,q.w.cell? ⟨r,1,none⟩=some (.map (some b2)):=Ad.cell (Aa PZ.cell rfl);have q2:∀q:Ad V,q.w.cell? ⟨ba,0,none⟩=some (S (R p.x)):=Ad.cell (Aa Av rfl);have q3:∀q:Ad V,q.w.cell? ⟨ba,1,none⟩=some (S (R p.y)):=Ad.cell (Aa Av rfl)
   have q5:∀q:Ad V,(Instr.lookup 96 (.map (some b2)) (Ak p) false).run Tryz.prog q.w=.ok (.slice A es.length c) q.w:=fun q=>by rw [Rf QE p E (W:=q.w) ((q.h.block b2 PZ.ar.lt).trans PZ.ar.blk),hv]
   unfold Ak at q5;refine Di (by kernel_rfl) (by kernel_rfl) ?_
   repeat (go_big_quiet_step (fail))
   refine wpQuiet_nil ?_;rintro W4 ⟨q,hq⟩;have Ag:Ab V W4:=hq▸q.h;have I7:=C5.trans Ag;have dI:=(Ag.block _ (Ao5 Av)).trans Av;have hrow4:=hrow.ext Ag;clear q1 q2 q3 q5 hq q PZ hv hrow Av Ag EA Cd C5;by_cases h2:es.length=2
   ·obtain⟨a,d,rfl⟩:∃a d,es = [a,d]:=by
     match es,h2 with
     | [a,d],_=>exact⟨a,d,rfl⟩
    have FD:=HNN.out a d rfl;obtain⟨bA,oA,rfl,g1,g2⟩:=Co hrow4 (show 0 < [a,d].length by simp);obtain⟨bA',oA',hA',g3,g4⟩:=Co hrow4 (show 1 < [a,d].length by simp);simp only [AoB,Addr.mk.injEq,and_true]at hA';obtain⟨rfl,rfl⟩:=hA';simp only [List.getElem_cons_zero,List.getElem_cons_succ,Nat.zero_mul,Nat.add_zero,Nat.one_mul]at g1 g2 g3 g4;have za:=hsz.2 a (by simp);have zd:=hsz.2 d (by simp);have y0:=Aa (o:=0) dI rfl;have y1:=Aa (o:=1) dI rfl;have SO:=fun (w':World) (h:Ab W4 w')=>(⟨h.cellS g1,h.cellS g2,h.cellS g3,h.cellS g4⟩:_/\_/\_/\_);have X:=Ab.refl W4;clear hrow4
    go_upto_region 5 with fail
    go_cut [5,6] (fun v5 v6 wx=>∃b5 b6,v5=.pointer (some ⟨b5,0,none⟩)/\v6=.pointer (some ⟨b6,0,none⟩)/\wx.heap[b5]?=some (.cells #[S (R a.x),S (R a.y)] 24)/\wx.heap[b6]?=some (.cells #[S (R d.x),S (R d.y)] 24)/\Ab W4 wx)
    case first=>
     go_region_held3 (fun w'=>w'.cell? ⟨bA,oA,none⟩=some (S (R a.x))/\w'.cell? ⟨bA,oA+1,none⟩=some (S (R a.y))/\w'.cell? ⟨bA,oA+2,none⟩=some (S (R d.x))/\w'.cell? ⟨bA,oA+2+1,none⟩=some (S (R d.y)))
      ((refine SO _ ?_;repeat (first|exact X|(with_reducible refine Ab.drew ?_)|(with_reducible refine Ab.alloc ?_ _)|(with_reducible refine Ab.setCell ?_ (by simp) _))))
      (fail)
     all_goals go_wp2
     all_goals go_meet
     all_goals
      first
       | (have tn:=Y2 W4 (.cells #[S (R a.x),S (R a.y)] 24) (.cells #[S (R d.x),S (R d.y)] 24);exact⟨_,_,rfl,rfl,tn.1,tn.2.1,tn.2.2⟩)
       | (have tn:=Y2 W4 (.cells #[S (R d.x),S (R d.y)] 24) (.cells #[S (R a.x),S (R a.y)] 24);exact⟨_,_,rfl,rfl,tn.2.1,tn.1,tn.2.2⟩)
    case rest=>
     obtain⟨b5,b6,rfl,rfl,hb5,Bj,Ae⟩:=hcut;obtain⟨W5,rfl⟩:=jN Ae;have Tb:=I7.trans Ae;have y5:=Ae.cellS y0;have y6:=Ae.cellS y1;have u0:=Aa (o:=0) hb5 rfl;have u1:=Aa (o:=1) hb5 rfl;have u2:=Aa (o:=0) Bj rfl;have u3:=Aa (o:=1) Bj rfl;clear SO X g1 g2 g3 g4 y0 y1 Ae I7 dI hb5 Bj;have SO:=fun (w':World) (h:Ab W5 w')=>(⟨h.cellS u0,h.cellS u1,h.cellS u2,h.cellS u3,h.cellS y5,h.cellS y6⟩:_/\_/\_/\_/\_/\_);have X:=Ab.refl W5
     go_upto_region 6 with fail
     go_cut [7,8] (fun v7 v8 wx=>∃b7 b8,v7=.pointer (some ⟨b7,0,none⟩)/\v8=.pointer (some ⟨b8,0,none⟩)/\Ab W5 wx)
     case first=>
      go_region_held3 (fun w'=>w'.cell? ⟨b5,0,none⟩=some (S (R a.x))/\w'.cell? ⟨b5,1,none⟩=some (S (R a.y))/\w'.cell? ⟨b6,0,none⟩=some (S (R d.x))/\w'.cell? ⟨b6,1,none⟩=some (S (R d.y))/\w'.cell? ⟨ba,0,none⟩=some (S (R p.x))/\w'.cell? ⟨ba,1,none⟩=some (S (R p.y)))
       ((refine SO _ ?_;repeat (first|exact X|(with_reducible refine Ab.drew ?_)|(with_reducible refine Ab.alloc ?_ _)|(with_reducible refine Ab.setCell ?_ (by simp) _))))
       (fail)
      all_goals go_wp2
      all_goals go_meet
      all_goals exact⟨_,_,rfl,rfl,((X.alloc _).alloc _).drew⟩
     case rest=>
      obtain⟨b7,b8,rfl,rfl,AG⟩:=hcut;obtain⟨W6,rfl⟩:=jN AG;have Nf:=Tb.trans AG;have q0:∀q:Ad W6,q.w.cell? ⟨b5,0,none⟩=some (S (R a.x)):=Ad.cell (AG.cellS u0);have q1:∀q:Ad W6,q.w.cell? ⟨b5,1,none⟩=some (S (R a.y)):=Ad.cell (AG.cellS u1);have q2:∀q:Ad W6,q.w.cell? ⟨b6,0,none⟩=some (S (R d.x)):=Ad.cell (AG.cellS u2);have q3:∀q:Ad W6,q.w.cell? ⟨b6,1,none⟩=some (S (R d.y)):=Ad.cell (AG.cellS u3);have q4:∀q:Ad W6,q.w.cell? ⟨ba,0,none⟩=some (S (R p.x)):=Ad.cell (AG.cellS y5);have q5:∀q:Ad W6,q.w.cell? ⟨ba,1,none⟩=some (S (R p.y)):=Ad.cell (AG.cellS y6);have ct:=fun (q:Ad W6)=>Mb a p d za hsz.1 zd (by omega) (by omega) q.w (hw.ext ((C0.trans Nf).trans q.h));obtain⟨s,hs⟩:=Ao3 (AZ (Ar a p d));rw [←hs]at ct FD;unfold Ak S at ct;have hs1:(s == 0)=false:=beq_false_of_ne FD;have hs2:(s != 0)=true:=(by rw [bne,hs1];rfl);clear hs SO X u0 u1 u2 u3 y5 y6 AG FD
      go_upto_region 7 with fail
      refine Di (by kernel_rfl) (by kernel_rfl) ?_
      repeat (go_big_quiet_step (with_reducible refine Gq (ct _)))
      refine wpQuiet_nil ?_;rintro W7 ⟨q,hq⟩;have Aw:Ab W6 W7:=hq▸q.h;clear hq q q0 q1 q2 q3 q4 q5 ct;go_wp2;go_roundw
      case rel=>exact⟨k+1,by go_num,Xa,Nf.trans Aw⟩
      case measure=>simp [intOf];omega
   ·have G1:¬((es.length:Int)=2):=(by omega);have hb2:((es.length:Int) == 2)=false:=beq_false_of_ne G1;have hb3:((es.length:Int) != 2)=true:=(by rw [bne,hb2];rfl);go_wp2;go_roundw
    case rel=>exact⟨k+1,by go_num,Xa,I7⟩
    case measure=>simp [intOf];omega
  ·have CO:k=ks.length:=(by omega);subst CO;go_wp2
   go_end0
   exact⟨rfl,Jh.trans Cd⟩
end Go.Proofs.YtnddllipjippnaaGreatDoor
