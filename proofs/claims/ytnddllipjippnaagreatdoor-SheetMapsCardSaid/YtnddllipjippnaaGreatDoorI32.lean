/- I32: ShBP. -/
import Derived.Test.YtnddllipjippnaaGreatDoorI31
set_option maxRecDepth 100000
set_option maxHeartbeats 8000000
namespace Go.Proofs.YtnddllipjippnaaGreatDoor
open Go.RowKit Kl
theorem ZT(w:World)(o1 o2:Obj):((w.alloc o1).alloc o2).drew.heap[w.heap.size]?=some o1/\((w.alloc o1).alloc o2).drew.heap[w.heap.size+1]?=some o2/\Ab w ((w.alloc o1).alloc o2).drew:=by
 have E1:=(Ab.refl w).alloc o1;have h1:=Asz w o1;have E2:=(Ab.refl (w.alloc o1)).alloc o2;have h2:=Asz (w.alloc o1) o2;rw [As7]at h2;exact⟨(E2.block _ (Asy h1)).trans h1,h2,(E1.trans E2).drew⟩
theorem nW{a b:World}(_:Ab a b):∃c,c=b:=⟨b,rfl⟩
theorem El.keys{B:Nat}{W:World}{b2:Nat}{E:List (Pt×Value×Nat)}{R0:List (Pt×List Pt)}(h:El B W b2 E R0):E.map (·.1)=R0.map (·.1):=by
 apply List.ext_getElem
 ·simp [h.len]
 ·intro i h1 h2;simp only [List.getElem_map];exact(h.row i (by simpa using h1) (by simpa using h2)).1
theorem Alm{w0 w:World}(hw:Aj w0)(hx:Ab w0 w){B:Nat}{r b1 b2:Nat}{L:List (Sg×Int)}{E:List (Pt×Value×Nat)}{R0:List (Pt×List Pt)}(h:B7 B w r b1 b2 L E R0)(hz:∀e∈R0,Aw 1 e.1/\∀p∈e.2,Aw 1 p)
  (hlen:R0.length<=100000) (hrl:∀e∈R0,e.2.length<100000) (CN:(R0.map (·.1)).Nodup) (hno:∀e∈R0,∀p q,e.2 = [p,q]→AN (Am p e.1 q)≠0) :
  Calls Tryz.prog 123 #[.pointer (some ⟨r,0,none⟩)] w fun e w'=>e=.returned (.tuple #[])/\Ab w w':=by
 have Dy:=h.ar.len;have ED:=h.ar.keys;have m1:=Aa (o:=1) h.cell rfl;have DF:=(Ab.refl w).alloc (.cells #[.map (some b2)] 96);have CX:=Asz w (.cells #[.map (some b2)] 96)
 have sk:=Acg hw (hx.trans DF) w.heap.size b2 E (fun i hi=>(h.ar.row i hi (by rw [←Dy];exact hi)).2.1) (Asy CX) (Aa CX rfl) (h.ext DF).ar.blk
  (fun e he=>by
   have:e.1∈R0.map (·.1):=(by rw [←ED];exact List.mem_map_of_mem he);obtain⟨e',he',h1⟩:=List.mem_map.1 this
   rw [←h1];exact(hz e' he').1) (by omega)
 rw [ED]at sk;obtain⟨ks,JX⟩:=Asw (FK (R0.map (·.1)));have C6:ks.length=E.length:=by rw [JX,(Lv _).length_eq,Dy];simp
 have UK:∀p∈ks,∃e∈R0,e.1=p:=fun p hp=>by rw [JX]at hp;obtain⟨e,he,h1⟩:=List.mem_map.1 ((Lv _).mem_iff.1 hp);exact⟨e,he,h1⟩
 rw [←JX,←C6]at sk;have IM:=Asx h;have HKM:=Asx UK;have HZ:=Asx hz;have LA:=Asx hrl;have aZ:=Asx CN;have HNO:=Asx hno;have hkn:ks.length<=100000:=(by omega);clear JX C6 UK ED Dy hz hrl CN hno h hlen;have kp:=yj (some b2) w;go_enter Tryz.func123,Tryz.ntmps123;(go_wp2_with fail);(with_reducible refine kp.mono ?_);rintro e w2 ⟨rfl,rfl⟩;(go_wp2_with fail);(with_reducible refine sk.mono ?_);rintro e w3 ⟨sv,rfl,D5,Ck⟩;obtain⟨sA,sc,rfl,Bi,-,-⟩:=Ad.of_own' (by omega) D5;unfold FX at Bi;have JI:Ab w w3:=DF.trans Ck;have BL:=hx.trans JI;have Ho:=Asx (IM.out.ext JI);clear sk kp CX DF Ck D5 m1;have hl0:(0:Int)<=(ks.length:Int):=by omega
 go_upto_region 1 with fail
 go_loopw [20] (fun iv wr=>∃k:Nat,iv=.int .i64 (k:Nat)/\k<=ks.length/\Ab w3 wr) (fun iv _=>ks.length-(intOf iv).toNat)
 case atStart=>exact⟨0,rfl,by omega,Ab.refl _⟩
 case round=>
  obtain⟨k,rfl,hk,BG⟩:=hrel;by_cases Y7:k<ks.length
  ·obtain⟨b,o,rfl,f1,f2⟩:=BN (Bi.ext BG) Y7;obtain⟨e,he,Yt⟩:=HKM.out _ (As1 Y7);obtain⟨p,hp⟩:=Asw (ks[k]);rw [←hp]at f1 f2 Yt;have kB:=Ab3 aZ.out he;rw [Yt]at kB;have hsz:=HZ.out e he;have hel:=LA.out e he;have H7:=HNO.out e he;rw [Yt]at hsz H7;obtain⟨es,hes⟩:=Asw e.2;have hk0:(0:Int)<=(k:Int):=(by omega);have D3:(k:Int)<(ks.length:Int):=(by omega);have EA:=(Ab.refl wr).alloc (.cells #[S (R p.x),S (R p.y)] 24);have Au:=Asz wr (.cells #[S (R p.x),S (R p.y)] 24);have QK:=Ho.out.ext (BG.trans EA);obtain⟨A,c,hv,hrow,hc1,hc2⟩:=QK.ar.look p kB;rw [←hes]at hv hrow hc1 hsz hel H7;have HNN:=Asx H7;clear hp hes kB Yt he H7
   go_upto_region 3 with fail
   unfold S at Au EA QK hrow;generalize wr.alloc (.cells #[.string ⟨(R p.x).toArray⟩,.string ⟨(R p.y).toArray⟩] 24)=V at *;obtain⟨ba,NK⟩:=Asw wr.heap.size;rw [←NK]at Au ⊢;clear NK f1 f2;have CL:=BG.trans EA;have q1:∀q:Ac V,q.w.cell? ⟨r,1,none⟩=some (.map (some b2)):=Ac.cell (Aa QK.cell rfl);have q2:∀q:Ac V,q.w.cell? ⟨ba,0,none⟩=some (S (R p.x)):=Ac.cell (Aa Au rfl);have q3:∀q:Ac V,q.w.cell? ⟨ba,1,none⟩=some (S (R p.y)):=Ac.cell (Aa Au rfl)
   have q5:∀q:Ac V,(Instr.lookup 96 (.map (some b2)) (Af p) false).run Tryz.prog q.w=.ok (.slice A es.length c) q.w:=fun q=>by rw [Sp RN p E (W:=q.w) ((q.h.block b2 QK.ar.lt).trans QK.ar.blk),hv]
   unfold Af at q5;refine Bh (by kernel_rfl) (by kernel_rfl) ?_
   repeat (go_big_quiet_step (fail))
   refine wpQuiet_nil ?_;rintro W4 ⟨q,hq⟩;have Ao:Ab V W4:=hq▸q.h;have CJ:=CL.trans Ao;have jB:=(Ao.block _ (Asy Au)).trans Au;have hrow4:=hrow.ext Ao;clear q1 q2 q3 q5 hq q QK hv hrow Au Ao EA BG CL;by_cases h2:es.length=2
   ·obtain⟨a,d,rfl⟩:∃a d,es = [a,d]:=by
     match es,h2 with
     | [a,d],_=>exact⟨a,d,rfl⟩
    have D4:=HNN.out a d rfl;obtain⟨bA,oA,rfl,g1,g2⟩:=BN hrow4 (show 0 < [a,d].length by simp);obtain⟨Xb,Zt,hA',g3,g4⟩:=BN hrow4 (show 1 < [a,d].length by simp);simp only [As4,Addr.mk.injEq,and_true]at hA';obtain⟨rfl,rfl⟩:=hA';simp only [List.getElem_cons_zero,List.getElem_cons_succ,Nat.zero_mul,Nat.add_zero,Nat.one_mul]at g1 g2 g3 g4;have za:=hsz.2 a (by simp);have zd:=hsz.2 d (by simp);have y0:=Aa (o:=0) jB rfl;have y1:=Aa (o:=1) jB rfl;have SO:=fun (w':World) (h:Ab W4 w')=>(⟨h.cellS g1,h.cellS g2,h.cellS g3,h.cellS g4⟩:_/\_/\_/\_);have X:=Ab.refl W4;clear hrow4
    go_upto_region 5 with fail
    go_cut [5,6] (fun v5 v6 wx=>∃b5 b6,v5=.pointer (some ⟨b5,0,none⟩)/\v6=.pointer (some ⟨b6,0,none⟩)/\wx.heap[b5]?=some (.cells #[S (R a.x),S (R a.y)] 24)/\wx.heap[b6]?=some (.cells #[S (R d.x),S (R d.y)] 24)/\Ab W4 wx)
    case first=>
     go_region_held3 (fun w'=>w'.cell? ⟨bA,oA,none⟩=some (S (R a.x))/\w'.cell? ⟨bA,oA+1,none⟩=some (S (R a.y))/\w'.cell? ⟨bA,oA+2,none⟩=some (S (R d.x))/\w'.cell? ⟨bA,oA+2+1,none⟩=some (S (R d.y)))
      ((refine SO _ ?_;repeat (first|exact X|(with_reducible refine Ab.drew ?_)|(with_reducible refine Ab.alloc ?_ _)|(with_reducible refine Ab.setCell ?_ (by simp) _))))
      (fail)
     all_goals go_wp2
     all_goals go_meet
     all_goals
      first
       | (have tn:=ZT W4 (.cells #[S (R a.x),S (R a.y)] 24) (.cells #[S (R d.x),S (R d.y)] 24);exact⟨_,_,rfl,rfl,tn.1,tn.2.1,tn.2.2⟩)
       | (have tn:=ZT W4 (.cells #[S (R d.x),S (R d.y)] 24) (.cells #[S (R a.x),S (R a.y)] 24);exact⟨_,_,rfl,rfl,tn.2.1,tn.1,tn.2.2⟩)
    case rest=>
     obtain⟨b5,b6,rfl,rfl,hb5,By,As⟩:=hcut;obtain⟨W5,rfl⟩:=nW As;have ER:=CJ.trans As;have y5:=As.cellS y0;have y6:=As.cellS y1;have u0:=Aa (o:=0) hb5 rfl;have u1:=Aa (o:=1) hb5 rfl;have u2:=Aa (o:=0) By rfl;have u3:=Aa (o:=1) By rfl;clear SO X g1 g2 g3 g4 y0 y1 As CJ jB hb5 By;have SO:=fun (w':World) (h:Ab W5 w')=>(⟨h.cellS u0,h.cellS u1,h.cellS u2,h.cellS u3,h.cellS y5,h.cellS y6⟩:_/\_/\_/\_/\_/\_);have X:=Ab.refl W5
     go_upto_region 6 with fail
     go_cut [7,8] (fun v7 v8 wx=>∃b7 b8,v7=.pointer (some ⟨b7,0,none⟩)/\v8=.pointer (some ⟨b8,0,none⟩)/\Ab W5 wx)
     case first=>
      go_region_held3 (fun w'=>w'.cell? ⟨b5,0,none⟩=some (S (R a.x))/\w'.cell? ⟨b5,1,none⟩=some (S (R a.y))/\w'.cell? ⟨b6,0,none⟩=some (S (R d.x))/\w'.cell? ⟨b6,1,none⟩=some (S (R d.y))/\w'.cell? ⟨ba,0,none⟩=some (S (R p.x))/\w'.cell? ⟨ba,1,none⟩=some (S (R p.y)))
       ((refine SO _ ?_;repeat (first|exact X|(with_reducible refine Ab.drew ?_)|(with_reducible refine Ab.alloc ?_ _)|(with_reducible refine Ab.setCell ?_ (by simp) _))))
       (fail)
      all_goals go_wp2
      all_goals go_meet
      all_goals exact⟨_,_,rfl,rfl,((X.alloc _).alloc _).drew⟩
     case rest=>
      obtain⟨b7,b8,rfl,rfl,AX⟩:=hcut;obtain⟨W6,rfl⟩:=nW AX;have BY:=ER.trans AX;have q0:∀q:Ac W6,q.w.cell? ⟨b5,0,none⟩=some (S (R a.x)):=Ac.cell (AX.cellS u0);have q1:∀q:Ac W6,q.w.cell? ⟨b5,1,none⟩=some (S (R a.y)):=Ac.cell (AX.cellS u1);have q2:∀q:Ac W6,q.w.cell? ⟨b6,0,none⟩=some (S (R d.x)):=Ac.cell (AX.cellS u2);have q3:∀q:Ac W6,q.w.cell? ⟨b6,1,none⟩=some (S (R d.y)):=Ac.cell (AX.cellS u3);have q4:∀q:Ac W6,q.w.cell? ⟨ba,0,none⟩=some (S (R p.x)):=Ac.cell (AX.cellS y5);have q5:∀q:Ac W6,q.w.cell? ⟨ba,1,none⟩=some (S (R p.y)):=Ac.cell (AX.cellS y6);have ct:=fun (q:Ac W6)=>MA a p d za hsz.1 zd (by omega) (by omega) q.w (hw.ext ((BL.trans BY).trans q.h));obtain⟨s,hs⟩:=Asw (AN (Am a p d));rw [←hs]at ct D4;unfold Af S at ct;have hs1:(s == 0)=false:=beq_false_of_ne D4;have hs2:(s != 0)=true:=(by rw [bne,hs1];rfl);clear hs SO X u0 u1 u2 u3 y5 y6 AX D4
      go_upto_region 7 with fail
      refine Bh (by kernel_rfl) (by kernel_rfl) ?_
      repeat (go_big_quiet_step (with_reducible refine EN (ct _)))
      refine wpQuiet_nil ?_;rintro W7 ⟨q,hq⟩;have Az:Ab W6 W7:=hq▸q.h;clear hq q q0 q1 q2 q3 q4 q5 ct;go_wp2;go_roundw
      case rel=>exact⟨k+1,by go_num,Y7,BY.trans Az⟩
      case measure=>simp [intOf];omega
   ·have H5:¬((es.length:Int)=2):=(by omega);have hb2:((es.length:Int) == 2)=false:=beq_false_of_ne H5;have hb3:((es.length:Int) != 2)=true:=(by rw [bne,hb2];rfl);go_wp2;go_roundw
    case rel=>exact⟨k+1,by go_num,Y7,CJ⟩
    case measure=>simp [intOf];omega
  ·have Ch:k=ks.length:=(by omega);subst Ch;go_wp2
   go_end0
   exact⟨rfl,JI.trans BG⟩
end Go.Proofs.YtnddllipjippnaaGreatDoor
