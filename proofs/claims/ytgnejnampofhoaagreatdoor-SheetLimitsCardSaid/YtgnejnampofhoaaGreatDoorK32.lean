/- K32: ShBP. -/
import Derived.Test.YtgnejnampofhoaaGreatDoorK30
set_option maxRecDepth 100000
set_option maxHeartbeats 8000000
namespace Go.Proofs.YtgnejnampofhoaaGreatDoor
open Go.RowKit Kl
theorem V9(w:World)(o1 o2:Obj):((w.alloc o1).alloc o2).drew.heap[w.heap.size]?=some o1/\((w.alloc o1).alloc o2).drew.heap[w.heap.size+1]?=some o2/\Ac w ((w.alloc o1).alloc o2).drew:=by
 have E1:=(Ac.refl w).alloc o1;have h1:=Ajy w o1;have E2:=(Ac.refl (w.alloc o1)).alloc o2;have h2:=Ajy (w.alloc o1) o2;rw [Aj6]at h2;exact⟨(E2.block _ (Ajx h1)).trans h1,h2,(E1.trans E2).drew⟩
theorem aP{a b:World}(_:Ac a b):∃c,c=b:=⟨b,rfl⟩
theorem D4.keys{B:Nat}{W:World}{b2:Nat}{E:List (Pt×Value×Nat)}{R0:List (Pt×List Pt)}(h:D4 B W b2 E R0):E.map (·.1)=R0.map (·.1):=by
 apply List.ext_getElem
 ·simp [h.len]
 ·intro i h1 h2;simp only [List.getElem_map];exact(h.row i (by simpa using h1) (by simpa using h2)).1
theorem Adf{w0 w:World}(hw:Ao w0)(hx:Ac w0 w){B:Nat}{r b1 b2:Nat}{L:List (Sg×Int)}{E:List (Pt×Value×Nat)}{R0:List (Pt×List Pt)}(h:Br B w r b1 b2 L E R0)(hz:∀e∈R0,Az 1 e.1/\∀p∈e.2,Az 1 p)
  (hlen:R0.length<=100000) (hrl:∀e∈R0,e.2.length<100000) (Ci:(R0.map (·.1)).Nodup) (hno:∀e∈R0,∀p q,e.2 = [p,q]→AM (Ar p e.1 q)≠0) :
  Calls Tryz.prog 195 #[.pointer (some ⟨r,0,none⟩)] w fun e w'=>e=.returned (.tuple #[])/\Ac w w':=by
 have Dc:=h.ar.len;have DL:=h.ar.keys;have m1:=Aa (o:=1) h.cell rfl;have Ca:=(Ac.refl w).alloc (.cells #[.map (some b2)] 163);have C2:=Ajy w (.cells #[.map (some b2)] 163)
 have sk:=zV hw (hx.trans Ca) w.heap.size b2 E (fun i hi=>(h.ar.row i hi (by rw [←Dc];exact hi)).2.1) (Ajx C2) (Aa C2 rfl) (h.ext Ca).ar.blk
  (fun e he=>by
   have:e.1∈R0.map (·.1):=(by rw [←DL];exact List.mem_map_of_mem he);obtain⟨e',he',h1⟩:=List.mem_map.1 this
   rw [←h1];exact(hz e' he').1) (by omega)
 rw [DL]at sk;obtain⟨ks,I7⟩:=Ajv (Eh (R0.map (·.1)));have CB:ks.length=E.length:=by rw [I7,(JA _).length_eq,Dc];simp
 have Mh:∀p∈ks,∃e∈R0,e.1=p:=fun p hp=>by rw [I7]at hp;obtain⟨e,he,h1⟩:=List.mem_map.1 ((JA _).mem_iff.1 hp);exact⟨e,he,h1⟩
 rw [←I7,←CB]at sk;have Hg:=Ajw h;have jd:=Ajw Mh;have HZ:=Ajw hz;have JH:=Ajw hrl;have VZ:=Ajw Ci;have jq:=Ajw hno;have hkn:ks.length<=100000:=(by omega);clear I7 CB Mh DL Dc hz hrl Ci hno h hlen;have kp:=uS (some b2) w;go_enter Tryz.func195,Tryz.ntmps195;(go_wp2_with fail);(with_reducible refine kp.mono ?_);rintro e w2 ⟨rfl,rfl⟩;(go_wp2_with fail);(with_reducible refine sk.mono ?_);rintro e w3 ⟨sv,rfl,Df,Bh⟩;obtain⟨sA,sc,rfl,Bi,-,-⟩:=Ae.of_own' (by omega) Df;unfold EK at Bi;have Iy:Ac w w3:=Ca.trans Bh;have BL:=hx.trans Iy;have Gh:=Ajw (Hg.out.ext Iy);clear sk kp C2 Ca Bh Df m1;have hl0:(0:Int)<=(ks.length:Int):=by omega
 go_upto_region 1 with fail
 go_loopw [20] (fun iv wr=>∃k:Nat,iv=.int .i64 (k:Nat)/\k<=ks.length/\Ac w3 wr) (fun iv _=>ks.length-(intOf iv).toNat)
 case atStart=>exact⟨0,rfl,by omega,Ac.refl _⟩
 case round=>
  obtain⟨k,rfl,hk,BQ⟩:=hrel;by_cases Ux:k<ks.length
  ·obtain⟨b,o,rfl,f1,f2⟩:=BW (Bi.ext BQ) Ux;obtain⟨e,he,Uo⟩:=jd.out _ (Aj0 Ux);obtain⟨p,hp⟩:=Ajv (ks[k]);rw [←hp]at f1 f2 Uo;have YT:=yJ VZ.out he;rw [Uo]at YT;have hsz:=HZ.out e he;have hel:=JH.out e he;have I9:=jq.out e he;rw [Uo]at hsz I9;obtain⟨es,hes⟩:=Ajv e.2;have hk0:(0:Int)<=(k:Int):=(by omega);have Dn:(k:Int)<(ks.length:Int):=(by omega);have EA:=(Ac.refl wr).alloc (.cells #[S (R p.x),S (R p.y)] 27);have Av:=Ajy wr (.cells #[S (R p.x),S (R p.y)] 27);have Oy:=Gh.out.ext (BQ.trans EA);obtain⟨A,c,hv,hrow,hc1,hc2⟩:=Oy.ar.look p YT;rw [←hes]at hv hrow hc1 hsz hel I9;have jp:=Ajw I9;clear hp hes YT Uo he I9
   go_upto_region 3 with fail
   unfold S at Av EA Oy hrow;generalize wr.alloc (.cells #[.string ⟨(R p.x).toArray⟩,.string ⟨(R p.y).toArray⟩] 27)=V at *;obtain⟨ba,LS⟩:=Ajv wr.heap.size;rw [←LS]at Av ⊢;clear LS f1 f2;have BJ:=BQ.trans EA;have q1:∀q:Af V,q.w.cell? ⟨r,1,none⟩=some (.map (some b2)):=Af.cell (Aa Oy.cell rfl);have q2:∀q:Af V,q.w.cell? ⟨ba,0,none⟩=some (S (R p.x)):=Af.cell (Aa Av rfl);have q3:∀q:Af V,q.w.cell? ⟨ba,1,none⟩=some (S (R p.y)):=Af.cell (Aa Av rfl)
   have q5:∀q:Af V,(Instr.lookup 163 (.map (some b2)) (Ak p) false).run Tryz.prog q.w=.ok (.slice A es.length c) q.w:=fun q=>by rw [Px OY p E (W:=q.w) ((q.h.block b2 Oy.ar.lt).trans Oy.ar.blk),hv]
   unfold Ak at q5;refine CW (by kernel_rfl) (by kernel_rfl) ?_
   repeat (go_big_quiet_step (fail))
   refine wpQuiet_nil ?_;rintro W4 ⟨q,hq⟩;have Aq:Ac V W4:=hq▸q.h;have Hv:=BJ.trans Aq;have YB:=(Aq.block _ (Ajx Av)).trans Av;have hrow4:=hrow.ext Aq;clear q1 q2 q3 q5 hq q Oy hv hrow Av Aq EA BQ BJ;by_cases h2:es.length=2
   ·obtain⟨a,d,rfl⟩:∃a d,es = [a,d]:=by
     match es,h2 with
     | [a,d],_=>exact⟨a,d,rfl⟩
    have DN:=jp.out a d rfl;obtain⟨bA,oA,rfl,g1,g2⟩:=BW hrow4 (show 0 < [a,d].length by simp);obtain⟨bA',oA',hA',g3,g4⟩:=BW hrow4 (show 1 < [a,d].length by simp);simp only [Aj3,Addr.mk.injEq,and_true]at hA';obtain⟨rfl,rfl⟩:=hA';simp only [List.getElem_cons_zero,List.getElem_cons_succ,Nat.zero_mul,Nat.add_zero,Nat.one_mul]at g1 g2 g3 g4;have za:=hsz.2 a (by simp);have zd:=hsz.2 d (by simp);have y0:=Aa (o:=0) YB rfl;have y1:=Aa (o:=1) YB rfl;have SO:=fun (w':World) (h:Ac W4 w')=>(⟨h.cellS g1,h.cellS g2,h.cellS g3,h.cellS g4⟩:_/\_/\_/\_);have X:=Ac.refl W4;clear hrow4
    go_upto_region 5 with fail
    go_cut [5,6] (fun v5 v6 wx=>∃b5 b6,v5=.pointer (some ⟨b5,0,none⟩)/\v6=.pointer (some ⟨b6,0,none⟩)/\wx.heap[b5]?=some (.cells #[S (R a.x),S (R a.y)] 27)/\wx.heap[b6]?=some (.cells #[S (R d.x),S (R d.y)] 27)/\Ac W4 wx)
    case first=>
     go_region_held3 (fun w'=>w'.cell? ⟨bA,oA,none⟩=some (S (R a.x))/\w'.cell? ⟨bA,oA+1,none⟩=some (S (R a.y))/\w'.cell? ⟨bA,oA+2,none⟩=some (S (R d.x))/\w'.cell? ⟨bA,oA+2+1,none⟩=some (S (R d.y)))
      ((refine SO _ ?_;repeat (first|exact X|(with_reducible refine Ac.drew ?_)|(with_reducible refine Ac.alloc ?_ _)|(with_reducible refine Ac.setCell ?_ (by simp) _))))
      (fail)
     all_goals go_wp2
     all_goals go_meet
     all_goals
      first
       | (have tn:=V9 W4 (.cells #[S (R a.x),S (R a.y)] 27) (.cells #[S (R d.x),S (R d.y)] 27);exact⟨_,_,rfl,rfl,tn.1,tn.2.1,tn.2.2⟩)
       | (have tn:=V9 W4 (.cells #[S (R d.x),S (R d.y)] 27) (.cells #[S (R a.x),S (R a.y)] 27);exact⟨_,_,rfl,rfl,tn.2.1,tn.1,tn.2.2⟩)
    case rest=>
     obtain⟨b5,b6,rfl,rfl,hb5,AW,AE⟩:=hcut;obtain⟨W5,rfl⟩:=aP AE;have QN:=Hv.trans AE;have y5:=AE.cellS y0;have y6:=AE.cellS y1;have u0:=Aa (o:=0) hb5 rfl;have u1:=Aa (o:=1) hb5 rfl;have u2:=Aa (o:=0) AW rfl;have u3:=Aa (o:=1) AW rfl;clear SO X g1 g2 g3 g4 y0 y1 AE Hv YB hb5 AW;have SO:=fun (w':World) (h:Ac W5 w')=>(⟨h.cellS u0,h.cellS u1,h.cellS u2,h.cellS u3,h.cellS y5,h.cellS y6⟩:_/\_/\_/\_/\_/\_);have X:=Ac.refl W5
     go_upto_region 6 with fail
     go_cut [7,8] (fun v7 v8 wx=>∃b7 b8,v7=.pointer (some ⟨b7,0,none⟩)/\v8=.pointer (some ⟨b8,0,none⟩)/\Ac W5 wx)
     case first=>
      go_region_held3 (fun w'=>w'.cell? ⟨b5,0,none⟩=some (S (R a.x))/\w'.cell? ⟨b5,1,none⟩=some (S (R a.y))/\w'.cell? ⟨b6,0,none⟩=some (S (R d.x))/\w'.cell? ⟨b6,1,none⟩=some (S (R d.y))/\w'.cell? ⟨ba,0,none⟩=some (S (R p.x))/\w'.cell? ⟨ba,1,none⟩=some (S (R p.y)))
       ((refine SO _ ?_;repeat (first|exact X|(with_reducible refine Ac.drew ?_)|(with_reducible refine Ac.alloc ?_ _)|(with_reducible refine Ac.setCell ?_ (by simp) _))))
       (fail)
      all_goals go_wp2
      all_goals go_meet
      all_goals exact⟨_,_,rfl,rfl,((X.alloc _).alloc _).drew⟩
     case rest=>
      obtain⟨b7,b8,rfl,rfl,AU⟩:=hcut;obtain⟨W6,rfl⟩:=aP AU;have LQ:=QN.trans AU;have q0:∀q:Af W6,q.w.cell? ⟨b5,0,none⟩=some (S (R a.x)):=Af.cell (AU.cellS u0);have q1:∀q:Af W6,q.w.cell? ⟨b5,1,none⟩=some (S (R a.y)):=Af.cell (AU.cellS u1);have q2:∀q:Af W6,q.w.cell? ⟨b6,0,none⟩=some (S (R d.x)):=Af.cell (AU.cellS u2);have q3:∀q:Af W6,q.w.cell? ⟨b6,1,none⟩=some (S (R d.y)):=Af.cell (AU.cellS u3);have q4:∀q:Af W6,q.w.cell? ⟨ba,0,none⟩=some (S (R p.x)):=Af.cell (AU.cellS y5);have q5:∀q:Af W6,q.w.cell? ⟨ba,1,none⟩=some (S (R p.y)):=Af.cell (AU.cellS y6);have ct:=fun (q:Af W6)=>KT a p d za hsz.1 zd (by omega) (by omega) q.w (hw.ext ((BL.trans LQ).trans q.h));obtain⟨s,hs⟩:=Ajv (AM (Ar a p d));rw [←hs]at ct DN;unfold Ak S at ct;have hs1:(s == 0)=false:=beq_false_of_ne DN;have hs2:(s != 0)=true:=(by rw [bne,hs1];rfl);clear hs SO X u0 u1 u2 u3 y5 y6 AU DN
      go_upto_region 7 with fail
      refine CW (by kernel_rfl) (by kernel_rfl) ?_
      repeat (go_big_quiet_step (with_reducible refine FC (ct _)))
      refine wpQuiet_nil ?_;rintro W7 ⟨q,hq⟩;have AL:Ac W6 W7:=hq▸q.h;clear hq q q0 q1 q2 q3 q4 q5 ct;go_wp2;go_roundw
      case rel=>exact⟨k+1,by go_num,Ux,LQ.trans AL⟩
      case measure=>simp [intOf];omega
   ·have Ia:¬((es.length:Int)=2):=(by omega);have hb2:((es.length:Int) == 2)=false:=beq_false_of_ne Ia;have hb3:((es.length:Int) != 2)=true:=(by rw [bne,hb2];rfl);go_wp2;go_roundw
    case rel=>exact⟨k+1,by go_num,Ux,Hv⟩
    case measure=>simp [intOf];omega
  ·have CP:k=ks.length:=(by omega);subst CP;go_wp2
   go_end0
   exact⟨rfl,Iy.trans BQ⟩
end Go.Proofs.YtgnejnampofhoaaGreatDoor
