/- W32. -/
import Derived.Test.YtnfedbopbcegjaaGreatDoorW31
set_option maxRecDepth 100000
set_option maxHeartbeats 8000000
namespace Go.Proofs.YtnfedbopbcegjaaGreatDoor
open Go.RowKit Kl
theorem cg(w:World)(o1 o2:Obj):((w.alloc o1).alloc o2).drew.heap[w.heap.size]?=some o1/\((w.alloc o1).alloc o2).drew.heap[w.heap.size+1]?=some o2/\Aa w ((w.alloc o1).alloc o2).drew:=by
 have E1:=(Aa.refl w).alloc o1;have h1:=AjM w o1;have E2:=(Aa.refl (w.alloc o1)).alloc o2;have h2:=AjM (w.alloc o1) o2;rw [AjU]at h2;exact⟨(E2.block _ (AjL h1)).trans h1,h2,(E1.trans E2).drew⟩
theorem uY{a b:World}(_:Aa a b):∃c,c=b:=⟨b,rfl⟩
theorem Do.keys{B:Nat}{W:World}{b2:Nat}{E:List (Pt×Value×Nat)}{R0:List (Pt×List Pt)}(h:Do B W b2 E R0):E.map (·.1)=R0.map (·.1):=by
 apply List.ext_getElem
 ·simp [h.len]
 ·intro i h1 h2;simp only [List.getElem_map];exact(h.row i (by simpa using h1) (by simpa using h2)).1
theorem AdH{w0 w:World}(hw:Ak w0)(hx:Aa w0 w){B:Nat}{r b1 b2:Nat}{L:List (Sg×Int)}{E:List (Pt×Value×Nat)}{R0:List (Pt×List Pt)}(h:Bn B w r b1 b2 L E R0)(hz:∀e∈R0,A0 1 e.1/\∀p∈e.2,A0 1 p)
  (hlen:R0.length<=100000) (hrl:∀e∈R0,e.2.length<100000) (Ca:(R0.map (·.1)).Nodup) (hno:∀e∈R0,∀p q,e.2 = [p,q]→AV (Ar p e.1 q)≠0) :
  Calls Tryz.prog 122 #[.pointer (some ⟨r,0,none⟩)] w fun e w'=>e=.returned (.tuple #[])/\Aa w w':=by
 have IL:=h.ar.len;have GP:=h.ar.keys;have m1:=Ab (o:=1) h.cell rfl;have CG:=(Aa.refl w).alloc (.cells #[.map (some b2)] 161);have DN:=AjM w (.cells #[.map (some b2)] 161)
 have sk:=zK hw (hx.trans CG) w.heap.size b2 E (fun i hi=>(h.ar.row i hi (by rw [←IL];exact hi)).2.1) (AjL DN) (Ab DN rfl) (h.ext CG).ar.blk
  (fun e he=>by
   have:e.1∈R0.map (·.1):=(by rw [←GP];exact List.mem_map_of_mem he);obtain⟨e',he',h1⟩:=List.mem_map.1 this
   rw [←h1];exact(hz e' he').1) (by omega)
 rw [GP]at sk;obtain⟨ks,Lv⟩:=AjJ (Gw (R0.map (·.1)));have Gr:ks.length=E.length:=by rw [Lv,(OK _).length_eq,IL];simp
 have pU:∀p∈ks,∃e∈R0,e.1=p:=fun p hp=>by rw [Lv]at hp;obtain⟨e,he,h1⟩:=List.mem_map.1 ((OK _).mem_iff.1 hp);exact⟨e,he,h1⟩
 rw [←Lv,←Gr]at sk;have G1:=AjK h;have ja:=AjK pU;have HZ:=AjK hz;have Mc:=AjK hrl;have V5:=AjK Ca;have jo:=AjK hno;have hkn:ks.length<=100000:=(by omega);clear Lv Gr pU GP IL hz hrl Ca hno h hlen;have kp:=tY (some b2) w;go_enter Tryz.func122,Tryz.ntmps122;(go_wp2_with fail);(with_reducible refine kp.mono ?_);rintro e w2 ⟨rfl,rfl⟩;(go_wp2_with fail);(with_reducible refine sk.mono ?_);rintro e w3 ⟨sv,rfl,D5,BW⟩;obtain⟨sA,sc,rfl,C5,-,-⟩:=Ad.of_own' (by omega) D5;unfold Gt at C5;have Hw:Aa w w3:=CG.trans BW;have Bd:=hx.trans Hw;have IO:=AjK (G1.out.ext Hw);clear sk kp DN CG BW D5 m1;have hl0:(0:Int)<=(ks.length:Int):=by omega
 go_upto_region 1 with fail
 go_loopw [20] (fun iv wr=>∃k:Nat,iv=.int .i64 (k:Nat)/\k<=ks.length/\Aa w3 wr) (fun iv _=>ks.length-(intOf iv).toNat)
 case atStart=>exact⟨0,rfl,by omega,Aa.refl _⟩
 case round=>
  obtain⟨k,rfl,hk,BV⟩:=hrel;by_cases Ue:k<ks.length
  ·obtain⟨b,o,rfl,f1,f2⟩:=CX (C5.ext BV) Ue;obtain⟨e,he,TQ⟩:=ja.out _ (AjO Ue);obtain⟨p,hp⟩:=AjJ (ks[k]);rw [←hp]at f1 f2 TQ;have Yb:=yA V5.out he;rw [TQ]at Yb;have hsz:=HZ.out e he;have hel:=Mc.out e he;have FK:=jo.out e he;rw [TQ]at hsz FK;obtain⟨es,hes⟩:=AjJ e.2;have hk0:(0:Int)<=(k:Int):=(by omega);have El:(k:Int)<(ks.length:Int):=(by omega);have EA:=(Aa.refl wr).alloc (.cells #[S (R p.x),S (R p.y)] 28);have AP:=AjM wr (.cells #[S (R p.x),S (R p.y)] 28);have NI:=IO.out.ext (BV.trans EA);obtain⟨A,c,hv,hrow,hc1,hc2⟩:=NI.ar.look p Yb;rw [←hes]at hv hrow hc1 hsz hel FK;have jn:=AjK FK;clear hp hes Yb TQ he FK
   go_upto_region 3 with fail
   unfold S at AP EA NI hrow;generalize wr.alloc (.cells #[.string ⟨(R p.x).toArray⟩,.string ⟨(R p.y).toArray⟩] 28)=V at *;obtain⟨ba,mS⟩:=AjJ wr.heap.size;rw [←mS]at AP ⊢;clear mS f1 f2;have IQ:=BV.trans EA;have q1:∀q:Ac V,q.w.cell? ⟨r,1,none⟩=some (.map (some b2)):=Ac.cell (Ab NI.cell rfl);have q2:∀q:Ac V,q.w.cell? ⟨ba,0,none⟩=some (S (R p.x)):=Ac.cell (Ab AP rfl);have q3:∀q:Ac V,q.w.cell? ⟨ba,1,none⟩=some (S (R p.y)):=Ac.cell (Ab AP rfl)
   have q5:∀q:Ac V,(Instr.lookup 161 (.map (some b2)) (Ag p) false).run Tryz.prog q.w=.ok (.slice A es.length c) q.w:=fun q=>by rw [OG Ox p E (W:=q.w) ((q.h.block b2 NI.ar.lt).trans NI.ar.blk),hv]
   unfold Ag at q5;refine Bh (by kernel_rfl) (by kernel_rfl) ?_
   repeat (go_big_quiet_step (fail))
   refine wpQuiet_nil ?_;rintro W4 ⟨q,hq⟩;have Aj:Aa V W4:=hq▸q.h;have BB:=IQ.trans Aj;have XE:=(Aj.block _ (AjL AP)).trans AP;have hrow4:=hrow.ext Aj;clear q1 q2 q3 q5 hq q NI hv hrow AP Aj EA BV IQ;by_cases h2:es.length=2
   ·obtain⟨a,d,rfl⟩:∃a d,es = [a,d]:=by
     match es,h2 with
     | [a,d],_=>exact⟨a,d,rfl⟩
    have FR:=jn.out a d rfl;obtain⟨bA,oA,rfl,g1,g2⟩:=CX hrow4 (show 0 < [a,d].length by simp);obtain⟨Ss,UG,hA',g3,g4⟩:=CX hrow4 (show 1 < [a,d].length by simp);simp only [AjR,Addr.mk.injEq,and_true]at hA';obtain⟨rfl,rfl⟩:=hA';simp only [List.getElem_cons_zero,List.getElem_cons_succ,Nat.zero_mul,Nat.add_zero,Nat.one_mul]at g1 g2 g3 g4;have za:=hsz.2 a (by simp);have zd:=hsz.2 d (by simp);have y0:=Ab (o:=0) XE rfl;have y1:=Ab (o:=1) XE rfl;have SO:=fun (w':World) (h:Aa W4 w')=>(⟨h.cellS g1,h.cellS g2,h.cellS g3,h.cellS g4⟩:_/\_/\_/\_);have X:=Aa.refl W4;clear hrow4
    go_upto_region 5 with fail
    go_cut [5,6] (fun v5 v6 wx=>∃b5 b6,v5=.pointer (some ⟨b5,0,none⟩)/\v6=.pointer (some ⟨b6,0,none⟩)/\wx.heap[b5]?=some (.cells #[S (R a.x),S (R a.y)] 28)/\wx.heap[b6]?=some (.cells #[S (R d.x),S (R d.y)] 28)/\Aa W4 wx)
    case first=>
     go_region_held3 (fun w'=>w'.cell? ⟨bA,oA,none⟩=some (S (R a.x))/\w'.cell? ⟨bA,oA+1,none⟩=some (S (R a.y))/\w'.cell? ⟨bA,oA+2,none⟩=some (S (R d.x))/\w'.cell? ⟨bA,oA+2+1,none⟩=some (S (R d.y)))
      ((refine SO _ ?_;repeat (first|exact X|(with_reducible refine Aa.drew ?_)|(with_reducible refine Aa.alloc ?_ _)|(with_reducible refine Aa.setCell ?_ (by simp) _))))
      (fail)
     all_goals go_wp2
     all_goals go_meet
     all_goals
      first
       | (have tn:=cg W4 (.cells #[S (R a.x),S (R a.y)] 28) (.cells #[S (R d.x),S (R d.y)] 28);exact⟨_,_,rfl,rfl,tn.1,tn.2.1,tn.2.2⟩)
       | (have tn:=cg W4 (.cells #[S (R d.x),S (R d.y)] 28) (.cells #[S (R a.x),S (R a.y)] 28);exact⟨_,_,rfl,rfl,tn.2.1,tn.1,tn.2.2⟩)
    case rest=>
     obtain⟨b5,b6,rfl,rfl,hb5,Dx,An⟩:=hcut;obtain⟨W5,rfl⟩:=uY An;have Bw:=BB.trans An;have y5:=An.cellS y0;have y6:=An.cellS y1;have u0:=Ab (o:=0) hb5 rfl;have u1:=Ab (o:=1) hb5 rfl;have u2:=Ab (o:=0) Dx rfl;have u3:=Ab (o:=1) Dx rfl;clear SO X g1 g2 g3 g4 y0 y1 An BB XE hb5 Dx;have SO:=fun (w':World) (h:Aa W5 w')=>(⟨h.cellS u0,h.cellS u1,h.cellS u2,h.cellS u3,h.cellS y5,h.cellS y6⟩:_/\_/\_/\_/\_/\_);have X:=Aa.refl W5
     go_upto_region 6 with fail
     go_cut [7,8] (fun v7 v8 wx=>∃b7 b8,v7=.pointer (some ⟨b7,0,none⟩)/\v8=.pointer (some ⟨b8,0,none⟩)/\Aa W5 wx)
     case first=>
      go_region_held3 (fun w'=>w'.cell? ⟨b5,0,none⟩=some (S (R a.x))/\w'.cell? ⟨b5,1,none⟩=some (S (R a.y))/\w'.cell? ⟨b6,0,none⟩=some (S (R d.x))/\w'.cell? ⟨b6,1,none⟩=some (S (R d.y))/\w'.cell? ⟨ba,0,none⟩=some (S (R p.x))/\w'.cell? ⟨ba,1,none⟩=some (S (R p.y)))
       ((refine SO _ ?_;repeat (first|exact X|(with_reducible refine Aa.drew ?_)|(with_reducible refine Aa.alloc ?_ _)|(with_reducible refine Aa.setCell ?_ (by simp) _))))
       (fail)
      all_goals go_wp2
      all_goals go_meet
      all_goals exact⟨_,_,rfl,rfl,((X.alloc _).alloc _).drew⟩
     case rest=>
      obtain⟨b7,b8,rfl,rfl,AD⟩:=hcut;obtain⟨W6,rfl⟩:=uY AD;have Bp:=Bw.trans AD;have q0:∀q:Ac W6,q.w.cell? ⟨b5,0,none⟩=some (S (R a.x)):=Ac.cell (AD.cellS u0);have q1:∀q:Ac W6,q.w.cell? ⟨b5,1,none⟩=some (S (R a.y)):=Ac.cell (AD.cellS u1);have q2:∀q:Ac W6,q.w.cell? ⟨b6,0,none⟩=some (S (R d.x)):=Ac.cell (AD.cellS u2);have q3:∀q:Ac W6,q.w.cell? ⟨b6,1,none⟩=some (S (R d.y)):=Ac.cell (AD.cellS u3);have q4:∀q:Ac W6,q.w.cell? ⟨ba,0,none⟩=some (S (R p.x)):=Ac.cell (AD.cellS y5);have q5:∀q:Ac W6,q.w.cell? ⟨ba,1,none⟩=some (S (R p.y)):=Ac.cell (AD.cellS y6);have ct:=fun (q:Ac W6)=>Kj a p d za hsz.1 zd (by omega) (by omega) q.w (hw.ext ((Bd.trans Bp).trans q.h));obtain⟨s,hs⟩:=AjJ (AV (Ar a p d));rw [←hs]at ct FR;unfold Ag S at ct;have hs1:(s == 0)=false:=beq_false_of_ne FR;have hs2:(s != 0)=true:=(by rw [bne,hs1];rfl);clear hs SO X u0 u1 u2 u3 y5 y6 AD FR
      go_upto_region 7 with fail
      refine Bh (by kernel_rfl) (by kernel_rfl) ?_
      repeat (go_big_quiet_step (with_reducible refine DI (ct _)))
      refine wpQuiet_nil ?_;rintro W7 ⟨q,hq⟩;have AQ:Aa W6 W7:=hq▸q.h;clear hq q q0 q1 q2 q3 q4 q5 ct;go_wp2;go_roundw
      case rel=>exact⟨k+1,by go_num,Ue,Bp.trans AQ⟩
      case measure=>simp [intOf];omega
   ·have GR:¬((es.length:Int)=2):=(by omega);have hb2:((es.length:Int) == 2)=false:=beq_false_of_ne GR;have hb3:((es.length:Int) != 2)=true:=(by rw [bne,hb2];rfl);go_wp2;go_roundw
    case rel=>exact⟨k+1,by go_num,Ue,BB⟩
    case measure=>simp [intOf];omega
  ·have C3:k=ks.length:=(by omega);subst C3;go_wp2
   go_end0
   exact⟨rfl,Hw.trans BV⟩
end Go.Proofs.YtnfedbopbcegjaaGreatDoor
