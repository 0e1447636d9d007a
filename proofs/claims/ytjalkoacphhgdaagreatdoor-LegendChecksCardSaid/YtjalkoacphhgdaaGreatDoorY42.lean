/- Y42: D8 S8. -/
import Derived.Test.YtjalkoacphhgdaaGreatDoorY41
import Derived.Deep.CutBlock
set_option maxRecDepth 100000
set_option maxHeartbeats 16000000
namespace Go.Proofs.YtjalkoacphhgdaaGreatDoor
open Go.RowKit Kl
open Go.ChangeMaps (setBlock)
theorem Tryz.infoBo:(Tryz.prog.info? 4).map (fun i=>(i.zero,i.size,i.bytes))=some (some (.bool false),1,1):=by kernel_rfl
theorem Agn(n:Nat)(hn:n<=200000)(c:Int)(hc:c=(n:Int))(W:World) :
  (Instr.makeSlice 213 (.int .i64 c) (.int .i64 c)).run Tryz.prog W=.ok (.slice (some ⟨W.heap.size,0,none⟩) n n) (W.alloc (.cells (madeCells #[.bool false] n) 4)):=by
 subst hc;obtain⟨i0,hi,hz0,hz1,hz2⟩:=info_parts Tryz.infoBo;have h:=run_make (P:=Tryz.prog) W 213 4 i0 (.bool false) Tryz.underlying213 hi hz0 .i64 .i64 n n (by omega) (by omega) (by rw [hz2];omega) (by omega);rw [hz1,Nat.mul_one]at h;simp only [Int.toNat_natCast]at h;exact h
theorem Ahn(W:World)(base n:Nat)(hb:base<=W.heap.size)(hn:n<=200000) :
  (W.alloc (.cells (madeCells #[.bool false] n) 4)).ownsRow base 4 1 (.slice (some ⟨W.heap.size,0,none⟩) n n) n (GA (List.replicate n false)):=by
 have h:=World.ownsRow_lit (w:=W) (base:=base) (e:=4) (size:=1) (madeCells #[.bool false] n) n hb (by unfold maxLen;omega) (by rw [size_madeCells];omega);rw [toList_madeCells_one]at h
 simpa [GA]using h
theorem y8(l:List Bool)(k:Nat)(b:Bool):(GA l).set k (.bool b)=GA (l.set k b):=by simp [GA]
theorem Aih{w:World}{A:Option Addr}{l:List Int}(hr:Ae w A (l.map (Value.int .i64))){j:Nat}(h:j<l.length):∃b o,A=some ⟨b,o,none⟩/\w.cell? ⟨b,o+j,none⟩=some (.int .i64 l[j]):=by
 obtain⟨b,o,e,hc⟩:=hr.ad (by simp;omega);refine⟨b,o,e,?_⟩;rw [hc j (by simpa using h)];simp
theorem VY{s:Sg}{L:List (Sg×Int)}(h:s∈L.map (·.1)):∃e∈L,AG s L=e.2:=by
 unfold AG;rw [List.mem_map]at h;obtain⟨x,hx,rfl⟩:=h
 cases hf:L.find? (fun e=>AK x.1 e.1)with
 | none=>
  rw [List.find?_eq_none]at hf;exact absurd (Ip.2 rfl) (hf x hx)
 | some e=>exact⟨e,List.mem_of_find?_eq_some hf,rfl⟩
structure Fx(V wr:World)(B bm bs nf:Nat)(st:Dz):Prop where
 face:F5 wr bm st.face
 seen:wr.ownsRow B 4 1 (.slice (some ⟨bs,0,none⟩) nf nf) nf (GA st.seen)
 but:Au (fun j=>j=bm∨j=bs) V wr
theorem Fx.ext{V wr w':World}{B bm bs nf:Nat}{st:Dz}(h:Fx V wr B bm bs nf st)(hx:Aa wr w'):Fx V w' B bm bs nf st:=
 ⟨(hx.block _ (AmA h.face)).trans h.face,AI h.seen hx,h.but.ext hx⟩
theorem Fx.put{V wr:World}{B bm bs nf:Nat}{st:Dz}(h:Fx V wr B bm bs nf st)(hne:bm≠bs)(r z:Int)(hno:Cx r st.face=none) :
  ∃W',(Instr.mapUpdate 212 (.map (some bm)) (.int .i64 r) (.int .i64 z)).run Tryz.prog wr=.ok () W'/\Fx V W' B bm bs nf {st with face:=st.face ++ [(r,z)]}:=by
 obtain⟨W',h1,h2,h3,-⟩:=h.face.put r z hno;refine⟨W',h1,h2,fo h.seen h3 (by simp only [Value.ownBlock,ne_eq,AmG];exact fun e=>hne e.symm),h.but.grown h3 (fun k e=>by cases e;exact .inl (.inl rfl))⟩
theorem Fx.set{V wr:World}{B bm bs nf:Nat}{st:Dz}(h:Fx V wr B bm bs nf st)(hne:bm≠bs)(k:Nat) :
  Fx V (wr.setCell ⟨bs,k,none⟩ (.bool true)) B bm bs nf {st with seen:=st.seen.set k true}:=by
 have h1:=h.seen.stored k (.bool true);rw [y8]at h1;refine⟨?_,h1.1,h.but.grown h1.2 (fun q e=>by cases e;exact .inl (.inr rfl))⟩;exact(h1.2.block bm (AmA h.face) (by simp only [ne_eq,AmG];exact hne)).trans h.face
theorem lO{w0 w:World}(hw:An w0)(hx:Aa w0 w){r b1 b2:Nat}{L:List (Sg×Int)}{E:List (Pt×Value×Nat)}{R0:List (Pt×List Pt)}(h:Bq w0.heap.size w r b1 b2 L E R0){W:List Sg}(K1:W=L.map (·.1))(hN:EG W R0)(hW:OB W)(hgr:∀s∈W,Ju s)
  (hlen:L.length<=100000) (hrl:∀e∈R0,e.2.length<100000) (nf:Nat) (KR:nf<=100000) (NP:∀x∈L,-1<=x.2/\x.2<(nf:Int)) {R1:List (Pt×List Pt)} (hR1:R1=R0.map (fun e=>(e.1,DG e.1 e.2))) {C:List (List Sg)} (hC:C=Ho W R1) {rg:List Int} (hrg:rg=JR W C) :
  Calls Tryz.prog 84 #[.pointer (some ⟨r,0,none⟩),.int .i64 (nf:Nat)] w fun e w'=>e=.returned (.tuple #[.bool (LM L nf C rg),.bool (Kn L nf C rg).op])/\Aa w0 w'/\Bq w0.heap.size w' r b1 b2 L E R1:=by
 have hmm:=@run_makeMap Tryz.prog;have so:=sort_c hw hx h (Aiz hW hN hrl);rw [←hR1]at so;have GI:EG W R1:=by rw [hR1];exact hN.sorted
 have xC:∀e∈R1,e.2.length<100000:=by intro e he;rw [hR1,List.mem_map]at he;obtain⟨x,hx,rfl⟩:=he;have:=hrl x hx;rw [show (DG x.1 x.2).length=x.2.length from(WQ x.1 x.2).length_eq];exact this
 obtain⟨U,Aj,hall⟩:=AaW GI;have hG:Qy W U C:=⟨by rw [hC];exact Aj,hall,hW.x.good,hgr,by rw [K1];simpa using hlen⟩
 have rC:C.length<=100000:=by have h1:=VV hG.ok.ne;rw [hG.ok.flat]at h1;have h2:=JJ hG.ok.nd hG.ok.sub;have:=hG.len;omega
 have xE:rg.length=C.length:=(by rw [hrg];simp [JR]);have cy:=fun (w1:World) (h1:Aa w0 w1) (k:Bq w0.heap.size w1 r b1 b2 L E R1)=>AaX hw h1 k (by rw [←K1];exact GI) (by rw [←K1];exact hW) hlen xC;rw [←K1,←hC]at cy;have rc:=fun (w1:World) (hw1:An w1) (k:Bq w0.heap.size w1 r b1 b2 L E R1) (A:Option Addr) (cap:Nat) (hA:L8 w1 A cap C)=>Air hw1 k K1 hG hA;rw [←hrg]at rc
 have hcw:∀i (hi:i<C.length),∀s∈C[i],-1<=AG s L/\AG s L<(nf:Int):=by intro i hi s hs;have h1:s∈W:=hG.ok.sub s (by rw [←hG.ok.flat];exact List.mem_flatten.2 ⟨_,AmD hi,hs⟩);rw [K1]at h1;obtain⟨e,he,h2⟩:=VY h1;rw [h2];exact NP e he
 have qf:=Am9 hcw;clear hcw NP hR1 hrl xC Aj hall hC hrg hN hW hgr K1 hx h GI hG;have HA:=Am9 (show LM L nf C rg=((G9 L (C.zip rg) (Hk nf)).ok && !((G9 L (C.zip rg) (Hk nf)).seen.contains false))from rfl);have HO:=Am9 (show (Kn L nf C rg).op=(G9 L (C.zip rg) (Hk nf)).op from rfl);generalize LM L nf C rg=vA at *;generalize (Kn L nf C rg).op=vO at *;go_enter Tryz.func84,Tryz.ntmps84;(go_wp2_with fail);(with_reducible refine so.mono ?_);rintro e w1 ⟨rfl,hx1,-,P1⟩;(go_wp2_with fail);(with_reducible refine(cy _ hx1 P1).mono ?_);rintro e w2 ⟨A,cap,rfl,Dg,hx2⟩;have Da:=P1.ext hx2;have P8:=hx1.trans hx2;(go_wp2_with fail);(with_reducible refine(rc _ (hw.ext P8) Da A cap Dg).mono ?_);rintro e w3 ⟨A',rfl,AP,hx3⟩;have KQ:=Da.ext hx3;have uJ:=Dg.ext hx3;have yE:=P8.trans hx3;clear so cy rc P1 Da hx1 hx2 hx3 Dg P8;have ER:=(Aa.refl w3).alloc (.map #[] 0);have Hr:F5 (w3.alloc (.map #[] 0)) w3.heap.size []:=AmB w3 (.map #[] 0);obtain⟨W4,hput,Df,hg4,JF⟩:=Hr.put (-1) (-1) rfl;have hmk:=Agn nf (by omega) (nf:Int) rfl W4;have Hu:Au (fun j=>j=w3.heap.size) w3 W4:=((Au.refl _ w3).ext ER).grown hg4 (fun k e=>by cases e;exact .inl rfl);have FB:Aa w3 W4:=Hu.toExt (Aa.refl w3) (fun k e=>by subst e;exact AmC _);have OT:=(Aa.refl W4).alloc (.cells (madeCells #[.bool false] nf) 4);have own:=Ahn W4 w0.heap.size nf (AmM yE.size FB.size) (by omega);have rJ:F5 (W4.alloc (.cells (madeCells #[.bool false] nf) 4)) w3.heap.size [(-1,-1)]:=(OT.block _ (AmA Df)).trans Df;have xH:W4.heap.size=w3.heap.size+1:=(by rw [JF];simp);rw [xH]at own;have rF:=FB.trans OT;have Rq:Fx (W4.alloc (.cells (madeCells #[.bool false] nf) 4)) (W4.alloc (.cells (madeCells #[.bool false] nf) 4)) w0.heap.size w3.heap.size (w3.heap.size+1) nf (Hk nf):=⟨rJ,own,Au.refl _ _⟩
 go_upto_region 6 with fail
 clear hmk own rJ Df hg4 hput Hr ER Hu OT FB JF xH hmm;generalize W4.alloc (.cells (madeCells #[.bool false] nf) 4)=V at *;obtain⟨bm,C4⟩:=Am8 w3.heap.size;rw [←C4]at Rq ⊢;have Als:w3.heap.size<=bm:=(by omega);clear C4 W4;have hl0:(0:Int)<=(C.length:Int):=(by omega);have hne:bm≠bm+1:=(by omega);have Hd:=Am9 xE;have Hb:=Am9 KQ;have LG:=Am9 uJ;have Ga:=Am9 AP;clear xE KQ uJ AP
 go_upto_region 8 with fail
 go_loopw [4,5,30] (fun o p i wr=>∃(k:Nat) (st:Dz),i=.int .i64 (k:Nat)/\k<=C.length/\o=.bool st.ok/\p=.bool st.op/\st=G9 L ((C.zip rg).take k) (Hk nf)/\Fx V wr w0.heap.size bm (bm+1) nf st) (fun _ _ i _=>C.length-(intOf i).toNat)
 case atStart=>exact⟨0,Hk nf,rfl,by omega,rfl,rfl,rfl,Rq⟩
 case round=>
  obtain⟨k,st,rfl,hk,rfl,rfl,hst,hA⟩:=hrel;have BI:Aa w3 wr:=hA.but.toExt rF (fun q e=>by rcases e with e|e<;>omega);have HST:=Am9 hst;clear hst;by_cases hlt:k<C.length
  ·obtain⟨bA,oA,A2,c2,rfl,hcell,IU,hc1,hc2⟩:=LG.out.row k hlt;replace hcell:=BI.cellS hcell;obtain⟨bB,oB,rfl,hrc⟩:=Aih (Ga.out.ext BI) (show k<rg.length by rw [Hd.out];exact hlt);obtain⟨rr,Dw⟩:∃rr,rr=rg[k]'(by rw [Hd.out];exact hlt):=⟨_,rfl⟩;rw [←Dw]at hrc;have hk0:(0:Int)<=(k:Int):=(by omega);have Cb:(k:Int)<(C.length:Int):=(by omega);obtain⟨c,hcc⟩:=Am8 (C[k]);have hz:=qf.out k hlt
   have hstep:G9 L ((C.zip rg).take (k+1)) (Hk nf)=Hj L rr st c:=by rw [AmF (show k<(C.zip rg).length by rw [List.length_zip,Hd.out];omega),xt,←HST.out,List.getElem_zip,←Dw,←hcc]
   rw [←hcc]at hcell IU hc1 hz;have TK:=Am9 hstep;have HZ:=Am9 hz;have hcl:(0:Int)<=(c.length:Int):=(by omega);have hc0:Hj L rr st (c.take 0)=st:=rfl;have qc:=Am9 hc0;have Ea:st.seen.length=nf:=(by rw [HST.out,lN];simp [Hk]);have Iw:=Am9 Ea;clear hcc Dw hstep hz hc0 Ea
   go_upto_region 11 with fail
   go_loopw [4,5,40] (fun o p i wi=>∃(j:Nat) (sj:Dz),i=.int .i64 (j:Nat)/\j<=c.length/\o=.bool sj.ok/\p=.bool sj.op/\sj=Hj L rr st (c.take j)/\Fx V wi w0.heap.size bm (bm+1) nf sj) (fun _ _ i _=>c.length-(intOf i).toNat)
   case atStart=>exact⟨0,st,rfl,by omega,rfl,rfl,qc.out.symm,hA⟩
   case round=>
    obtain⟨j,sj,rfl,hj,rfl,rfl,hsj,U4⟩:=hrel;have XC:=Am9 hsj;clear hsj;by_cases AW:j<c.length
    ·have US:Aa w3 wr:=U4.but.toExt rF (fun q e=>by rcases e with e|e<;>omega);obtain⟨b',o',rfl,f1,f2,f3,f4⟩:=MS (IU.ext US) AW;have hzs:=HZ.out c[j] (AmD AW);have UU:Hj L rr st (c.take (j+1))=Db rr (AG c[j] L) sj:=(by rw [AmF AW,xr,←XC.out]);have Ea:sj.seen.length=nf:=(by rw [XC.out,lM];exact Iw.out);obtain⟨s,hs⟩:=Am8 (c[j]);rw [←hs]at f1 f2 f3 f4 hzs UU;have hj0:(0:Int)<=(j:Int):=(by omega);have KL:(j:Int)<(c.length:Int):=(by omega);have Aw:=AmB wr (.cells #[S (R s.a.x),S (R s.a.y),S (R s.b.x),S (R s.b.y)] 155);have E6:=(Aa.refl wr).alloc (.cells #[S (R s.a.x),S (R s.a.y),S (R s.b.x),S (R s.b.y)] 155);have YY:=U4.ext E6;have Vx:=Hb.out.ext (US.trans E6);clear hs U4 hA BI
     go_upto_region 13 with fail
     unfold S at Aw YY Vx;generalize (wr.alloc (.cells #[.string ⟨(R s.a.x).toArray⟩,.string ⟨(R s.a.y).toArray⟩,.string ⟨(R s.b.x).toArray⟩,.string ⟨(R s.b.y).toArray⟩] 155))=W6 at *;obtain⟨bx,Mq⟩:=Am8 wr.heap.size;rw [←Mq]at Aw ⊢;clear Mq f1 f2 f3 f4 E6;have q1:∀q:Af W6,q.w.cell? ⟨r,0,none⟩=some (.map (some b1)):=Af.cell (Ab Vx.cell rfl);have q2:∀q:Af W6,q.w.cell? ⟨bx,0,none⟩=some (S (R s.a.x)):=Af.cell (Ab Aw rfl);have q3:∀q:Af W6,q.w.cell? ⟨bx,1,none⟩=some (S (R s.a.y)):=Af.cell (Ab Aw rfl);have q4:∀q:Af W6,q.w.cell? ⟨bx,2,none⟩=some (S (R s.b.x)):=Af.cell (Ab Aw rfl);have q5:∀q:Af W6,q.w.cell? ⟨bx,3,none⟩=some (S (R s.b.y)):=Af.cell (Ab Aw rfl);have q6:=fun (q:Af W6)=>Qh s L (Vx.ext q.h).left;obtain⟨z,hz⟩:=Am8 (AG s L);rw [←hz]at q6 hzs UU;unfold As at q6;have HN:=Am9 UU;clear hz UU Aw Vx;refine Fe (by kernel_rfl) (by kernel_rfl) ?_
     repeat (go_big_quiet_step (fail))
     refine wpQuiet_nil ?_;rintro W7 ⟨q,hq⟩;have AB:Aa W6 W7:=hq▸q.h;clear hq q;have I7:=YY.ext AB;have lk:=gR rr sj.face I7.face;clear q1 q2 q3 q4 q5 q6 YY AB
     cases hl:Cx rr sj.face with
     | some old=>
      rw [hl]at lk;simp only [Option.getD_some,Option.isSome_some]at lk;have he:Db rr z sj=⟨sj.ok&&decide (old=z),sj.op,sj.face,sj.seen⟩:=(by unfold Db;rw [hl]);have GG:Fx V W7 w0.heap.size bm (bm+1) nf (Db rr z sj):=(by rw [he];exact⟨I7.face,I7.seen,I7.but⟩);have HE:=Am9 he;clear he I7
      cases Aj:sj.ok
      ·have Fh:=Am9 Aj;go_wp2;go_roundw
       case rel=>exact⟨j+1,Db rr z sj,by go_num,AW,by rw [HE.out,Fh.out];rfl,by rw [HE.out],HN.out.symm,GG⟩
       case measure=>simp [intOf];omega
      ·have Fh:=Am9 Aj;by_cases VB:old=z
       ·have HD:=Am9 (decide_eq_true VB);subst VB;go_wp2;go_roundw
        case rel=>exact⟨j+1,Db rr old sj,by go_num,AW,by rw [HE.out,Fh.out,HD.out];rfl,by rw [HE.out],HN.out.symm,GG⟩
        case measure=>simp [intOf];omega
       ·have HD:=Am9 (decide_eq_false VB);have hb:(old == z)=false:=beq_false_of_ne VB;go_wp2;go_roundw
        case rel=>exact⟨j+1,Db rr z sj,by go_num,AW,by rw [HE.out,Fh.out,HD.out];rfl,by rw [HE.out],HN.out.symm,GG⟩
        case measure=>simp [intOf];omega
     | none=>
      rw [hl]at lk;simp only [Option.getD_none,Option.isSome_none]at lk;by_cases hz0:z<0
      ·have he:Db rr z sj=⟨false,true,sj.face ++ [(rr,z)],sj.seen⟩:=(by unfold Db;rw [hl];simp only;rw [if_pos hz0]);obtain⟨W8,hput,GG⟩:=I7.put hne rr z hl;have Rr:Fx V W8 w0.heap.size bm (bm+1) nf (Db rr z sj):=(by rw [he];exact⟨GG.face,GG.seen,GG.but⟩);have HE:=Am9 he;clear he I7 GG;go_wp2;go_roundw
       case rel=>exact⟨j+1,Db rr z sj,by go_num,AW,by rw [HE.out],by rw [HE.out],HN.out.symm,Rr⟩
       case measure=>simp [intOf];omega
      ·obtain⟨m,rfl⟩:∃m:Nat,z=(m:Int):=⟨z.toNat,by omega⟩;have hm:m<nf:=(by omega);obtain⟨sv,cO⟩:=Am8 (sj.seen.getD m false)
       have he:Db rr (m:Int) sj=⟨sj.ok && !sv,sj.op,sj.face ++ [(rr,(m:Int))],sj.seen.set m true⟩:=by unfold Db;rw [hl];simp only;rw [if_neg hz0,cO];rfl
       have hce:W7.cell? ⟨bm+1,m,none⟩=some (.bool sv):=by
        rw [I7.seen.cellAt m (by omega),cO];unfold GA;rw [List.getElem?_map,List.getD_eq_getElem?_getD,AmH (by omega)]
        rfl
       have Vl:=I7.seen.frozenAt m;obtain⟨W8,hput,GG⟩:=(I7.set hne m).put hne rr (m:Int) hl;have Rr:Fx V W8 w0.heap.size bm (bm+1) nf (Db rr (m:Int) sj):=(by rw [he];exact⟨GG.face,GG.seen,GG.but⟩);have HE:=Am9 he;have hm0:(0:Int)<=(m:Int):=(by omega);have hm1:(m:Int)<(nf:Int):=(by omega);clear he I7 GG cO
       cases Aj:sj.ok
       ·have Fh:=Am9 Aj;go_wp2;go_roundw
        case rel=>exact⟨j+1,Db rr (m:Int) sj,by go_num,AW,by rw [HE.out,Fh.out];rfl,by rw [HE.out],HN.out.symm,Rr⟩
        case measure=>simp [intOf];omega
       ·have Fh:=Am9 Aj
        cases sv
        ·go_wp2;go_roundw
         case rel=>exact⟨j+1,Db rr (m:Int) sj,by go_num,AW,by rw [HE.out,Fh.out];rfl,by rw [HE.out],HN.out.symm,Rr⟩
         case measure=>simp [intOf];omega
        ·go_wp2;go_roundw
         case rel=>exact⟨j+1,Db rr (m:Int) sj,by go_num,AW,by rw [HE.out,Fh.out];rfl,by rw [HE.out],HN.out.symm,Rr⟩
         case measure=>simp [intOf];omega
    ·have H7:j=c.length:=(by omega);subst H7;have AY:sj=G9 L ((C.zip rg).take (k+1)) (Hk nf):=(by rw [TK.out,XC.out,List.take_length]);have HF:=Am9 AY;clear AY;have aX:(c.length:Int)<=(c.length:Int):=(by omega);go_wp2;go_roundw
     case rel=>exact⟨k+1,sj,by go_num,hlt,rfl,rfl,HF.out,U4⟩
     case measure=>simp [intOf];omega
  ·have Bw:k=C.length:=(by omega);subst Bw;have AY:st=G9 L (C.zip rg) (Hk nf):=(by rw [HST.out,AmK (by rw [List.length_zip];omega)]);have HF:=Am9 AY;obtain⟨A3,AkQ,JB,wZ,qT,Ro⟩:=Ae.of_own' (by omega) hA.seen;simp only [Value.slice.injEq,true_and]at JB;obtain⟨rfl,rfl⟩:=JB;have Ea:st.seen.length=nf:=(by rw [HST.out,lN];simp [Hk]);have cb:=AaQ st.seen false (some ⟨bm+1,0,none⟩) nf wr wZ (by omega) Ro;rw [Ea]at cb;have hv:vA=(st.ok && !(st.seen.contains false)):=(by rw [HA.out,←HF.out]);have ho:vO=st.op:=(by rw [HO.out,←HF.out]);have HV:=Am9 hv;subst ho;obtain⟨cv,hcv⟩:=Am8 (st.seen.contains false);rw [←hcv]at cb;have qd:=Am9 hcv;have sO:=yE.trans BI;clear AY Ea hv hcv hA wZ
   cases Aj:st.ok
   ·have Fh:=Am9 Aj;obtain rfl:vA=false:=(by rw [HV.out,Fh.out];rfl);go_wp2;go_ret2;exact⟨rfl,sO,Hb.out.ext BI⟩
   ·have Fh:=Am9 Aj;obtain rfl:vA = !cv:=(by rw [HV.out,Fh.out,←qd.out];rfl);(go_wp2_with fail);(with_reducible refine cb.mono ?_);rintro e w9 ⟨rfl,BS⟩;go_wp2;go_ret2;exact⟨rfl,sO.trans BS,Hb.out.ext (BI.trans BS)⟩
theorem xx{w0 w:World}(hw:An w0)(hx:Aa w0 w){r b1 b2:Nat}{L:List (Sg×Int)}{E:List (Pt×Value×Nat)}{R0:List (Pt×List Pt)}(h:Bq w0.heap.size w r b1 b2 L E R0){W:List Sg}(K1:W=L.map (·.1))(hN:EG W R0)(hW:OB W)(hgr:∀s∈W,Ju s)
  (hlen:L.length<=100000) (hrl:∀e∈R0,e.2.length<100000) (nf:Nat) (KR:nf<=100000) (NP:∀x∈L,-1<=x.2/\x.2<(nf:Int)) {R1:List (Pt×List Pt)} (hR1:R1=R0.map (fun e=>(e.1,DG e.1 e.2))) {C:List (List Sg)} (hC:C=Ho W R1) {rg:List Int} (hrg:rg=JR W C) :
  Calls Tryz.prog 84 #[.pointer (some ⟨r,0,none⟩),.int .i64 (nf:Nat)] w fun e w'=>e=.returned (.tuple #[.bool (LM L nf C rg),.bool (Kn L nf C rg).op])/\Aa w0 w':=(lO hw hx h K1 hN hW hgr hlen hrl nf KR NP hR1 hC hrg).mono fun _ _ k=>⟨k.1,k.2.1⟩
end Go.Proofs.YtjalkoacphhgdaaGreatDoor
namespace Go.Proofs.YtjalkoacphhgdaaGreatDoor
open Go.RowKit Kl
theorem Acd(l:List (Bs×Bs))(i:Nat):flat (l.take i)=(flat l).take (i*2):=by
 induction l generalizing i with
 | nil=>simp [flat]
 | cons e l ih=>
  cases i with
  | zero=>simp [flat]
  | succ i=>have e0:∀l,flat (e::l)=S e.1::S e.2::flat l:=fun _=>rfl;rw [List.take_succ_cons,e0,e0,ih];have e1:(i+1)*2=i*2+1+1:=(by omega);rw [e1];simp
theorem AhI(l:List Pt)(i:Nat):Ao (l.take i)=(Ao l).take i:=by unfold Ao;rw [List.map_take]
theorem AaS(l:List Pt)(i:Nat)(hi:i<=l.length)(p:Pt)(A:Option Addr)(c:Nat)(w:World)(hr:Ae w A (flat (Ao l)))(hc:l.length<=c)(hcm:c<=9223372036854775807) :
  Calls Tryz.prog 78 #[.slice A i c,Ak p] w (Br ((l.take i).any (Ap p)) w):=by
 have:=contains_c (l.take i) p A c w (by rw [AhI,Acd];exact hr.take _) (by rw [List.length_take];omega) hcm;rw [List.length_take,Nat.min_eq_left hi]at this;exact this
def eN(m:Ck):List Sg:=(AL m.pts m.eds).map (·.1)
def eM(m:Ck):List (Pt×List Pt):=(Cy m.pts m.eds).map (fun e=>(e.1,DG e.1 e.2))
def Oa(m:Ck):List (List Sg):=Ho (eN m) (eM m)
def PO(m:Ck):List Int:=JR (eN m) (Oa m)
def Yz(m:Ck):Int:=if Rj (Cy m.pts m.eds) m.pts=true then 25 else if LM (AL m.pts m.eds) m.nf (Oa m) (PO m)=true then 0 else 14
theorem Ahz(m:Ck)(hgr:∀p∈m.pts,DL p){k:Nat}(hk:0<k)(hk2:k<=200)(hz:∀p∈m.pts,Ar k p)(A B F:Option Addr)(c d g:Nat)(Cw:Ka m c d g)(w:World)(hw:An w)(hA:Ae w A (flat (Ao m.pts)))(hB:Ae w B (Bz m.eds))(r:Int)
  (h0:LR m=true→r=4) (h1:LR m=false→CH [] m.pts≠0→r=CH [] m.pts)
  (h2:LR m=false→CH [] m.pts=0→CU m.pts.length m.nf [] m.eds≠0→r=CU m.pts.length m.nf [] m.eds) (h3:LR m=false→CH [] m.pts=0→CU m.pts.length m.nf [] m.eds=0→D5 m.pts [] m.eds≠0→r=26)
  (h4:LR m=false→CH [] m.pts=0→CU m.pts.length m.nf [] m.eds=0→D5 m.pts [] m.eds=0→r=Yz m) :
  Calls Tryz.prog 33 #[Dk A B F m c d g] w (Az r w):=by
 have HA:=Am9 hA;have HB:=Am9 hB;have HZ:=Am9 hz;have H0:=Am9 h0;have H1:=Am9 h1;have H2:=Am9 h2;have H3:=Am9 h3;have H4:=Am9 h4;have jV:=Am9 hgr;have HC:=Am9 Cw;obtain⟨c1,c2,d1,d2,g1,g2⟩:=Cw;have HL:=Am9 (show LR m=(decide (400<m.pts.length)||(decide (1200<m.eds.length)||decide (800<m.nf)))from rfl);have hM:=AmB w (.cells #[.slice A m.pts.length c,.slice B m.eds.length d,.slice F m.nf g] 36);have hE:=(Aa.refl w).alloc (.cells #[.slice A m.pts.length c,.slice B m.eds.length d,.slice F m.nf g] 36);unfold Dk;clear hA hB hz h0 h1 h2 h3 h4 hgr;go_enter Tryz.func33,Tryz.ntmps33
 go_upto_region 1 with fail
 generalize w.alloc (.cells #[.slice A m.pts.length c,.slice B m.eds.length d,.slice F m.nf g] 36)=V at *;obtain⟨bm,C4⟩:=Am8 w.heap.size;rw [←C4]at hM ⊢;have hle:w.heap.size<=bm:=(by omega);clear C4;have m1:=Ab (o:=0) hM rfl;have m2:=Ab (o:=1) hM rfl;have m3:=Ab (o:=2) hM rfl;by_cases n1:(400:Int)<(m.pts.length:Int)
 ·have dd:decide ((400:Int)<(m.pts.length:Int))=true:=decide_eq_true n1;have HH:=Am9 (show r=4 from H0.out (by rw [HL.out,decide_eq_true (by omega)];rfl));go_wp2;go_ret;exact⟨by rw [HH.out];rfl,hE⟩
 have oG:decide ((400:Int)<(m.pts.length:Int))=false:=decide_eq_false n1;by_cases n2:(1200:Int)<(m.eds.length:Int)
 ·have dd:decide ((1200:Int)<(m.eds.length:Int))=true:=decide_eq_true n2;have HH:=Am9 (show r=4 from H0.out (by rw [HL.out,decide_eq_true (p:=1200<m.eds.length) (by omega)];simp));clear n1;go_wp2;go_ret;exact⟨by rw [HH.out];rfl,hE⟩
 have YC:decide ((1200:Int)<(m.eds.length:Int))=false:=decide_eq_false n2;by_cases n3:(800:Int)<(m.nf:Int)
 ·have dd:decide ((800:Int)<(m.nf:Int))=true:=decide_eq_true n3;have HH:=Am9 (show r=4 from H0.out (by rw [HL.out,decide_eq_true (p:=800<m.nf) (by omega)];simp));clear n1 n2;go_wp2;go_ret;exact⟨by rw [HH.out];rfl,hE⟩
 have oH:decide ((800:Int)<(m.nf:Int))=false:=decide_eq_false n3;have HN:=Am9 (show LR m=false by rw [HL.out,decide_eq_false (by omega),decide_eq_false (by omega),decide_eq_false (by omega)];rfl);have AlP:m.pts.length<=400:=(by omega);have Adz:m.eds.length<=1200:=(by omega);have Al0:m.nf<=800:=(by omega);clear n1 n2 n3 HL H0
 go_upto_block 0 with fail
 clear oG YC oH m1 m2 m3
 go_cut [] (fun wx=>CH [] m.pts=0/\Aa V wx)
 case first=>
  (go_wp2_with fail)
  go_loopw [33] (fun i wr=>∃j:Nat,i=.int .i64 (j:Nat)/\j<=m.pts.length/\CH (m.pts.take j) (m.pts.drop j)=CH [] m.pts/\Aa V wr) (fun i _=>m.pts.length-(intOf i).toNat)
  case atStart=>exact⟨0,rfl,by omega,by simp,Aa.refl _⟩
  case round=>
   obtain⟨j,rfl,hj,Aj,Ac⟩:=hrel;have HO:=Am9 Aj;clear Aj;by_cases hlt:j<m.pts.length
   ·obtain⟨b,o,rfl,hg1,hg2⟩:=Cu ((HA.out.ext hE).ext Ac) hlt;have hz:=HZ.out m.pts[j] (AmD hlt);obtain⟨p,hp⟩:=Am8 (m.pts[j]);have HP:=Am9 hp;have HS:=Am9 (Aav hlt);rw [←hp]at hg1 hg2 hz;have hj0:(0:Int)<=(j:Int):=(by omega);have AW:(j:Int)<(m.pts.length:Int):=(by omega);have Vp:(j:Int)<=(c:Int):=(by omega);have Bv:=AmB wr (.cells #[S (R p.x),S (R p.y)] 92);have hx1:=Ac.alloc (.cells #[S (R p.x),S (R p.y)] 92);have ck:=nB (R p.x) (R p.y) true (by simp only [true_iff];exact⟨Wr hz.x hk hk2,Wr hz.y hk hk2⟩) (WU hz.x hk (by omega)) (WU hz.y hk (by omega));rw [Kp]at ck;clear hp hz
    go_upto_region 6 with fail
    generalize wr.alloc (.cells #[S (R p.x),S (R p.y)] 92)=V1 at *;obtain⟨bp,RL⟩:=Am8 wr.heap.size;rw [←RL]at Bv ⊢;clear RL hg1 hg2;have k1:=Ab (o:=0) Bv rfl;have k2:=Ab (o:=1) Bv rfl;(go_wp2_with fail);(with_reducible refine(ck _ (hw.ext (hE.trans hx1))).mono ?_);rintro e w2 ⟨rfl,hx2⟩;have Hx:=(hx2.block _ (AmA Bv)).trans Bv;replace hx2:=hx1.trans hx2;have hw2:=hw.ext (hE.trans hx2);have Ht:=(hx2.block _ (AmA hM)).trans hM;have f1:∀q:Af w2,q.w.cell? ⟨bp,0,none⟩=some (S (R p.x)):=Af.cell (Ab Hx rfl);have f2:∀q:Af w2,q.w.cell? ⟨bp,1,none⟩=some (S (R p.y)):=Af.cell (Ab Hx rfl);have f3:∀q:Af w2,q.w.cell? ⟨bm,0,none⟩=some (.slice (some ⟨b,o,none⟩) m.pts.length c):=Af.cell (Ab Ht rfl);have ct:=fun q:Af w2=>AaS m.pts j hj p (some ⟨b,o,none⟩) c q.w ((HA.out.ext (hE.trans hx2)).ext q.h) c1 c2;unfold Ak at ct;obtain⟨du,JA⟩:=Am8 ((m.pts.take j).any (Ap p));rw [←JA]at ct;have HD:=Am9 JA;clear JA k1 k2 ck Bv Hx Ht hx1 Ac;(go_wp2_with fail);refine Fe (by kernel_rfl) (by kernel_rfl) ?_
    repeat (go_big_quiet_step (with_reducible refine pO (ct _)))
    refine wpQuiet_nil ?_;rintro _ ⟨q,rfl⟩;have hxq:=hx2.trans q.h;have HQ:=Am9 hxq
    cases du
    ·have HH:=Am9 (show CH (m.pts.take (j+1)) (m.pts.drop (j+1))=CH [] m.pts by
      rw [←HO.out,HS.out,←HP.out,←HD.out];rfl)
     go_wp2;go_roundw
     case rel=>exact⟨j+1,by go_num,hlt,HH.out,HQ.out⟩
     case measure=>simp [intOf];omega
    ·have HH:=Am9 (show CH [] m.pts=9 by rw [←HO.out,HS.out,←HP.out,←HD.out];rfl);have HR:=Am9 (show r=9 by rw [←HH.out];exact H1.out HN.out (by rw [HH.out];omega));go_wp2;go_ret;exact⟨by rw [HR.out];rfl,hE.trans HQ.out⟩
   ·have hle:(m.pts.length:Int)<=(j:Int):=(by omega);have HH:=Am9 (show CH [] m.pts=0 by rw [←HO.out,List.drop_eq_nil_of_le (by omega)];unfold CH;rfl);go_wp2;go_meet;exact⟨HH.out,Ac⟩
 case rest=>
  obtain⟨hc1,hx1⟩:=hcut;have jE:=Am9 (fun h=>H2.out HN.out hc1 h);have Xj:=Am9 hc1;have Nh:=Am9 hx1;have Kz:=(hx1.block _ (AmA hM)).trans hM;have m1:=Ab (o:=1) Kz rfl;clear hc1 H1 hx1
  go_upto_block 3 with fail
  clear m1
  go_cut [] (fun wx=>CU m.pts.length m.nf [] m.eds=0/\Aa V wx)
  case first=>
   (go_wp2_with fail)
   go_loopw [53] (fun i wr=>∃j:Nat,i=.int .i64 (j:Nat)/\j<=m.eds.length/\CU m.pts.length m.nf (m.eds.take j) (m.eds.drop j)=CU m.pts.length m.nf [] m.eds/\Aa V wr) (fun i _=>m.eds.length-(intOf i).toNat)
   case atStart=>exact⟨0,rfl,by omega,by simp,Nh.out⟩
   case round=>
    obtain⟨j,rfl,hj,Aj,Ac⟩:=hrel;have HO:=Am9 Aj;clear Aj;by_cases hlt:j<m.eds.length
    ·have hj0:(0:Int)<=(j:Int):=(by omega);have AW:(j:Int)<(m.eds.length:Int):=(by omega);have HS:=Am9 (Aax (np:=m.pts.length) (nf:=m.nf) hlt);have ce:=Aao m A B F c d g HC.out j hlt wr (HB.out.ext (hE.trans Ac));obtain⟨z,hz⟩:=Am8 (J1 m.pts.length m.nf (m.eds.take j) m.eds[j]);rw [←hz]at ce;have kQ:=Am9 hz;unfold Dk at ce;have El:=(Ac.block _ (AmA hM)).trans hM;have m1:=Ab (o:=0) El rfl;have m2:=Ab (o:=1) El rfl;have m3:=Ab (o:=2) El rfl;clear hz El;(go_wp2_with fail);(with_reducible refine ce.mono ?_);rintro e w2 ⟨rfl,hx2⟩;have HX:=Am9 (Ac.trans hx2);clear m1 m2 m3 hx2 ce;by_cases hz0:z=0
     ·have HH:=Am9 (show CU m.pts.length m.nf (m.eds.take (j+1)) (m.eds.drop (j+1))=CU m.pts.length m.nf [] m.eds by
       rw [←HO.out,HS.out,←kQ.out,if_neg (by omega)])
      subst hz0;go_wp2;go_roundw
      case rel=>exact⟨j+1,by go_num,hlt,HH.out,HX.out⟩
      case measure=>simp [intOf];omega
     ·have HH:=Am9 (show CU m.pts.length m.nf [] m.eds=z by rw [←HO.out,HS.out,←kQ.out,if_pos (by omega)]);have HR:=Am9 (show r=z by rw [←HH.out];exact jE.out (by rw [HH.out];exact hz0));have dd:(z == 0)=false:=(by rw [beq_eq_false_iff_ne];exact hz0);have YC:(z != 0)=true:=(by rw [bne_iff_ne];exact hz0);clear hz0;go_wp2;go_ret;exact⟨by rw [HR.out];rfl,hE.trans HX.out⟩
    ·have hle:(m.eds.length:Int)<=(j:Int):=(by omega);have HH:=Am9 (show CU m.pts.length m.nf [] m.eds=0 by rw [←HO.out,List.drop_eq_nil_of_le (by omega)];unfold CU;rfl);go_wp2;go_meet;exact⟨HH.out,Ac⟩
  case rest=>
   obtain⟨hc2,hx1⟩:=hcut;have jF:=Am9 (fun h=>H3.out HN.out Xj.out hc2 h);have ED:=Am9 hc2;have Gb:=Am9 hx1;have Kz:=(hx1.block _ (AmA hM)).trans hM;have m1:=Ab (o:=1) Kz rfl;clear hc2 jE Nh hx1
   go_upto_region 18 with fail
   go_upto_block 5 with fail
   go_cut [] (fun wx=>D5 m.pts [] m.eds=0/\Aa V wx)
   case first=>
    (go_wp2_with fail)
    go_loopw [66] (fun i wr=>∃j:Nat,i=.int .i64 (j:Nat)/\j<=m.eds.length/\D5 m.pts (m.eds.take j) (m.eds.drop j)=D5 m.pts [] m.eds/\Aa V wr) (fun i _=>m.eds.length-(intOf i).toNat)
    case atStart=>exact⟨0,rfl,by omega,by simp,Gb.out⟩
    case round=>
     obtain⟨j,rfl,hj,Aj,Ac⟩:=hrel;have HO:=Am9 Aj;clear Aj;by_cases hlt:j<m.eds.length
     ·have hj0:(0:Int)<=(j:Int):=(by omega);have AW:(j:Int)<(m.eds.length:Int):=(by omega);have hjd:(j:Int)<=(d:Int):=(by omega);have HS:=Am9 (Aaz (pts:=m.pts) hlt);obtain⟨b,o,rfl,hg1,hg2,hg3,hg4⟩:=Tl ((HB.out.ext hE).ext Ac) hlt;have hck:=Um (QP (l:=m.eds) ED.out j hlt);obtain⟨e,he⟩:=Am8 (m.eds[j]);rw [←he]at hg1 hg2 hg3 hg4 hck;have jQ:=Am9 he;obtain⟨ef,NF⟩:∃n:Nat,e.f=(n:Int):=⟨e.f.toNat,by omega⟩;obtain⟨et,NG⟩:∃n:Nat,e.t=(n:Int):=⟨e.t.toNat,by omega⟩;have Pm:ef<m.pts.length:=(by omega);have Pn:et<m.pts.length:=(by omega);have jP:=Am9 (And.intro NF NG);rw [NF]at hg1;rw [NG]at hg2;obtain⟨ba,oa,rfl,ha1,ha2⟩:=Cu ((HA.out.ext hE).ext Ac) Pm;obtain⟨b2,o2,Hz,hb1,hb2⟩:=Cu ((HA.out.ext hE).ext Ac) Pn;obtain⟨rfl,rfl⟩:ba=b2/\oa=o2:=(by simpa using Hz);have PD:=HZ.out m.pts[ef] (AmD Pm);have hzb:=HZ.out m.pts[et] (AmD Pn);obtain⟨pa,DF⟩:=Am8 (m.pts[ef]);obtain⟨pb,IR⟩:=Am8 (m.pts[et]);rw [←DF]at ha1 ha2 PD;rw [←IR]at hb1 hb2 hzb;have TF:=Am9 (And.intro DF IR);have f0:(0:Int)<=(ef:Int):=(by omega);have f1:(ef:Int)<(m.pts.length:Int):=(by omega);have f2:(0:Int)<=(et:Int):=(by omega);have f3:(et:Int)<(m.pts.length:Int):=(by omega);have El:=(Ac.block _ (AmA hM)).trans hM;have m1:=Ab (o:=1) El rfl;have Bv:=AmB wr (.cells #[.int .i64 (ef:Nat),.int .i64 (et:Nat),.int .i64 e.l,.int .i64 e.r] 126);have hx1:=Ac.alloc (.cells #[.int .i64 (ef:Nat),.int .i64 (et:Nat),.int .i64 e.l,.int .i64 e.r] 126);have hx0:=(Aa.refl wr).alloc (.cells #[.int .i64 (ef:Nat),.int .i64 (et:Nat),.int .i64 e.l,.int .i64 e.r] 126);replace ha1:=hx0.cellS ha1;replace ha2:=hx0.cellS ha2;replace hb1:=hx0.cellS hb1;replace hb2:=hx0.cellS hb2;clear hck he NF NG Hz DF IR
      go_upto_region 21 with fail
      generalize wr.alloc (.cells #[.int .i64 (ef:Nat),.int .i64 (et:Nat),.int .i64 e.l,.int .i64 e.r] 126)=V1 at *;obtain⟨bp,RL⟩:=Am8 wr.heap.size;rw [←RL]at Bv ⊢;clear RL hg1 hg2 hg3 hg4 Ac El m1 hx0;have ES:=(hx1.block _ (AmA hM)).trans hM;have m1:=Ab (o:=1) ES rfl
      go_upto_region 22 with fail
      clear m1
      go_loopw [76] (fun i wr=>∃jj:Nat,i=.int .i64 (jj:Nat)/\jj<=j/\(∀f∈m.eds.take jj,OK m.pts e f=false)/\Aa V1 wr) (fun i _=>j-(intOf i).toNat)
      case atStart=>exact⟨0,rfl,by omega,by simp,Aa.refl _⟩
      case round=>
       obtain⟨jj,rfl,H7,Aj,Ac⟩:=hrel;have Oy:=Am9 Aj;clear Aj;by_cases hlt2:jj<j
       ·have jj0:(0:Int)<=(jj:Int):=(by omega);have jjl:(jj:Int)<(j:Int):=(by omega);have NL:jj<m.eds.length:=(by omega);obtain⟨b',o',AZ,hg1,hg2,hg3,hg4⟩:=Tl (((HB.out.ext hE).ext hx1).ext Ac) NL;obtain⟨rfl,rfl⟩:b=b'/\o=o':=(by simpa using AZ);have hck:=Um (QP (l:=m.eds) ED.out jj NL);obtain⟨f,hf⟩:=Am8 (m.eds[jj]);rw [←hf]at hg1 hg2 hg3 hg4 hck;have jS:=Am9 hf;obtain⟨ff,aF⟩:∃n:Nat,f.f=(n:Int):=⟨f.f.toNat,by omega⟩;obtain⟨ft,aK⟩:∃n:Nat,f.t=(n:Int):=⟨f.t.toNat,by omega⟩;have aG:ff<m.pts.length:=(by omega);have aL:ft<m.pts.length:=(by omega);have jR:=Am9 (And.intro aF aK);rw [aF]at hg1;rw [aK]at hg2;obtain⟨b3,o3,JB,hc1,hc2⟩:=Cu ((HA.out.ext hE).ext hx1) aG;obtain⟨b4,o4,uQ,Vh,Ep⟩:=Cu ((HA.out.ext hE).ext hx1) aL;obtain⟨rfl,rfl⟩:ba=b3/\oa=o3:=(by simpa using JB);obtain⟨rfl,rfl⟩:ba=b4/\oa=o4:=(by simpa using uQ);have dI:=HZ.out m.pts[ff] (AmD aG);have hzd:=HZ.out m.pts[ft] (AmD aL);obtain⟨pc,bV⟩:=Am8 (m.pts[ff]);obtain⟨pd,bW⟩:=Am8 (m.pts[ft]);rw [←bV]at hc1 hc2 dI;rw [←bW]at Vh Ep hzd;have kF:=Am9 (And.intro bV bW);have f4:(0:Int)<=(ff:Int):=(by omega);have f5:(ff:Int)<(m.pts.length:Int):=(by omega);have f6:(0:Int)<=(ft:Int):=(by omega);have f7:(ft:Int)<(m.pts.length:Int):=(by omega);have Hx:=AmB wr (.cells #[.int .i64 (ff:Nat),.int .i64 (ft:Nat),.int .i64 f.l,.int .i64 f.r] 126);have hx2:=Ac.alloc (.cells #[.int .i64 (ff:Nat),.int .i64 (ft:Nat),.int .i64 f.l,.int .i64 f.r] 126);clear hck hf aF aK JB uQ bV bW AZ
        go_upto_region 24 with fail
        generalize wr.alloc (.cells #[.int .i64 (ff:Nat),.int .i64 (ft:Nat),.int .i64 f.l,.int .i64 f.r] 126)=V2 at *;obtain⟨bq,tV⟩:=Am8 wr.heap.size;rw [←tV]at Hx ⊢;have hx3:=hx1.trans hx2;have Ht:=(hx2.block _ (AmA ES)).trans ES;have ZP:=(hx2.block _ (AmA Bv)).trans Bv;have S9:=hw.ext (hE.trans hx3);have q1:∀q:Af V2,q.w.cell? ⟨bm,0,none⟩=some (.slice (some ⟨ba,oa,none⟩) m.pts.length c):=Af.cell (Ab Ht rfl);have q2:∀q:Af V2,q.w.cell? ⟨bp,0,none⟩=some (.int .i64 (ef:Nat)):=Af.cell (Ab ZP rfl);have q3:∀q:Af V2,q.w.cell? ⟨bp,1,none⟩=some (.int .i64 (et:Nat)):=Af.cell (Ab ZP rfl);have q4:∀q:Af V2,q.w.cell? ⟨bq,0,none⟩=some (.int .i64 (ff:Nat)):=Af.cell (Ab Hx rfl);have q5:∀q:Af V2,q.w.cell? ⟨bq,1,none⟩=some (.int .i64 (ft:Nat)):=Af.cell (Ab Hx rfl);have a1:∀q:Af V2,q.w.cell? ⟨ba,oa+ef*2,none⟩=some (S (R pa.x)):=Af.cell (hx2.cellS ha1);have a2:∀q:Af V2,q.w.cell? ⟨ba,oa+ef*2+1,none⟩=some (S (R pa.y)):=Af.cell (hx2.cellS ha2);have a3:∀q:Af V2,q.w.cell? ⟨ba,oa+et*2,none⟩=some (S (R pb.x)):=Af.cell (hx2.cellS hb1);have a4:∀q:Af V2,q.w.cell? ⟨ba,oa+et*2+1,none⟩=some (S (R pb.y)):=Af.cell (hx2.cellS hb2);have a5:∀q:Af V2,q.w.cell? ⟨ba,oa+ff*2,none⟩=some (S (R pc.x)):=Af.cell (hx2.cellS hc1);have a6:∀q:Af V2,q.w.cell? ⟨ba,oa+ff*2+1,none⟩=some (S (R pc.y)):=Af.cell (hx2.cellS hc2);have a7:∀q:Af V2,q.w.cell? ⟨ba,oa+ft*2,none⟩=some (S (R pd.x)):=Af.cell (hx2.cellS Vh);have a8:∀q:Af V2,q.w.cell? ⟨ba,oa+ft*2+1,none⟩=some (S (R pd.y)):=Af.cell (hx2.cellS Ep);have cr:=fun q:Af V2=>Ah0 pa pb pc pd PD hzb dI hzd hk (by omega) q.w (S9.ext q.h);obtain⟨cx,Vf⟩:=Am8 (MP pa pb pc pd);rw [←Vf]at cr
        have hce:OK m.pts e f=cx:=by unfold OK EZ;rw [jP.out.1,jP.out.2,jR.out.1,jR.out.2,Vf,TF.out.1,TF.out.2,kF.out.1,kF.out.2];simp [Pm,Pn,aG,aL]
        have LE:=Am9 hce;unfold Ak at cr;clear tV Ht ZP Hx ha1 ha2 hb1 hb2 hc1 hc2 Vh Ep PD hzb dI hzd Vf hce hg1 hg2 hg3 hg4 ES Bv;refine Fe (by kernel_rfl) (by kernel_rfl) ?_
        repeat (go_big_quiet_step (with_reducible refine pO (cr _)))
        refine wpQuiet_nil ?_;rintro _ ⟨q,rfl⟩;have Gc:=Am9 (hx2.trans q.h);have uq:=Am9 (hE.trans (hx3.trans q.h));clear q1 q2 q3 q4 q5 a1 a2 a3 a4 a5 a6 a7 a8 cr hx2 hx3
        cases cx
        ·go_wp2;go_roundw
         case rel=>
          refine⟨jj+1,by go_num,by omega,?_,Gc.out⟩;intro x hx;rw [AmF NL,←jS.out]at hx
          rcases List.mem_append.1 hx with h|h
          ·exact Oy.out x h
          ·simp only [AmO]at h;rw [h];exact LE.out
         case measure=>simp [intOf];omega
        ·have HH:=Am9 (show D5 m.pts [] m.eds=26 by
          rw [←HO.out,HS.out,if_pos];rw [←jQ.out,List.any_eq_true]
          exact⟨f,by rw [jS.out,List.mem_take_iff_getElem];exact⟨jj,by omega,rfl⟩,LE.out⟩)
         have HR:=Am9 (show r=26 from jF.out (by rw [HH.out];omega));go_wp2;go_ret;exact⟨by rw [HR.out];rfl,uq.out⟩
       ·have aX:(j:Int)<=(jj:Int):=(by omega);obtain rfl:jj=j:=by omega
        have HH:=Am9 (show D5 m.pts (m.eds.take (jj+1)) (m.eds.drop (jj+1))=D5 m.pts [] m.eds by
         rw [←HO.out,HS.out,if_neg];rw [←jQ.out,Bool.not_eq_true,List.any_eq_false]
         intro x hx;rw [Oy.out x hx];simp)
        have HX:=Am9 (hx1.trans Ac);go_wp2;go_roundw
        case rel=>exact⟨jj+1,by go_num,hlt,HH.out,HX.out⟩
        case measure=>simp [intOf];omega
     ·have hle:(m.eds.length:Int)<=(j:Int):=(by omega);have HH:=Am9 (show D5 m.pts [] m.eds=0 by rw [←HO.out,List.drop_eq_nil_of_le (by omega)];unfold D5;rfl);go_wp2;go_meet;exact⟨HH.out,Ac⟩
   case rest=>
    obtain⟨hc3,hx1⟩:=hcut;obtain⟨wx,rfl⟩:=named hx1;have qz:=Am9 (H4.out HN.out Xj.out ED.out hc3);have RR:=oZ Xj.out ED.out;have Kz:=(hx1.block _ (AmA hM)).trans hM;have x0:=Ab (o:=0) Kz rfl;have x1:=Ab (o:=1) Kz rfl;have x2:=Ab (o:=2) Kz rfl;have BU:=hE.trans hx1;have Cw:Ka m c d g:=HC.out;have oc:=AgC m A B F c d g Cw RR Adz wx (HA.out.ext BU) (HB.out.ext BU);have Aec:=hw.ext BU;unfold Dk at oc;have ag:=fun (w2:World) (h2:Aa wx w2) (rn b1 b2:Nat) (E:List (Pt×Value×Nat)) (hn:Bq wx.heap.size w2 rn b1 b2 (AL m.pts m.eds) E (Cy m.pts m.eds))=>xx Aec h2 hn rfl (ay m.pts m.eds) (cd RR jV.out hc3) (eO RR jV.out) (by rw [eP];omega) (fun e he=>by have:=SU m.pts m.eds e he;omega) m.nf (by omega) (br ED.out) (R1:=eM m) rfl (C:=Oa m) rfl (rg:=PO m) rfl;have wB:∀(fn:Fn) (first cap:Array Value) (w:World),(Instr.makeFunc fn first cap).run Tryz.prog w=.ok (.func fn first cap) w:=fun _ _ _ _=>rfl;have kD:=Am9 Kz;obtain⟨fw,hfw⟩:=Am8 (Rj (Cy m.pts m.eds) m.pts);obtain⟨ab,hab⟩:=Am8 (LM (AL m.pts m.eds) m.nf (Oa m) (PO m))
    have hr:r=if fw=true then 25 else if ab=true then 0 else 14:=by rw [qz.out,hfw,hab];rfl
    have qx:=Am9 hfw;have HR:=Am9 hr;rw [←hab]at ag;generalize (Kn (AL m.pts m.eds) m.nf (Oa m) (PO m)).op=ao at *;clear Kz hx1 RR hc3 hfw hab hr H2 H3 jF
    go_upto_region 28 with fail
    (go_wp2_with fail);(with_reducible refine oc.mono ?_);rintro e w2 ⟨rn,b1,b2,E,rfl,hx2,Da⟩;have ER:=(Aa.refl w2).alloc (.cells #[.pointer (some ⟨rn,0,none⟩)] 128);have BV:=AmB w2 (.cells #[.pointer (some ⟨rn,0,none⟩)] 128);have KQ:=Da.ext ER;have hx3:=hx2.trans ER;have GH:=(hx3.block _ (AmA kD.out)).trans kD.out;have y0:=Ab (o:=0) GH rfl;clear x0 x1 x2 oc Da
    go_upto_region 29 with fail
    generalize w2.alloc (.cells #[.pointer (some ⟨rn,0,none⟩)] 128)=w3 at *;obtain⟨bn,RJ⟩:=Am8 w2.heap.size;rw [←RJ]at BV ⊢;clear RJ;have af:=x8 KQ bn (Ab BV rfl) m.pts A c (HA.out.ext (BU.trans hx3)) (by assumption) (by assumption);rw [←qx.out]at af;(go_wp2_with fail);(with_reducible refine af.mono ?_);rintro e w4 ⟨rfl,Ai⟩;have yF:=hx3.trans Ai;have OW:=(Ai.block _ (AmA GH)).trans GH;have tR:=(Ai.block _ (AmA BV)).trans BV;have z2:=Ab (o:=2) OW rfl;have z3:=Ab (o:=0) tR rfl;have xq:=ag w4 yF rn b1 b2 E (KQ.ext Ai);clear ag af GH BV OW tR y0 KQ hx2 hx3 ER Ai
    cases fw
    ·have Ng:=Am9 (show r=if ab=true then 0 else 14 from HR.out);(go_wp2_with fail);(with_reducible refine xq.mono ?_);rintro e w5 ⟨rfl,Ad⟩
     cases ab
     ·obtain rfl:r=14:=Ng.out;go_wp2;go_ret;exact⟨rfl,BU.trans Ad⟩
     ·obtain rfl:r=0:=Ng.out;go_wp2;go_ret;exact⟨rfl,BU.trans Ad⟩
    ·obtain rfl:r=25:=HR.out;go_wp2;go_ret;exact⟨rfl,BU.trans yF⟩
def I3(m:Ck):Int:=
 if LR m=true then 4 else if CH [] m.pts≠0 then CH [] m.pts else if CU m.pts.length m.nf [] m.eds≠0 then CU m.pts.length m.nf [] m.eds else if D5 m.pts [] m.eds≠0 then 26 else Yz m
theorem Ahy(m:Ck)(hgr:∀p∈m.pts,DL p)(A B F:Option Addr)(c d g:Nat)(Cw:Ka m c d g)(w:World)(hw:An w)(hA:Ae w A (flat (Ao m.pts)))(hB:Ae w B (Bz m.eds)) :
  Calls Tryz.prog 33 #[Dk A B F m c d g] w (Az (I3 m) w):=by
 refine Ahz m hgr (k:=200) (by omega) (by omega) (fun p hp=>(hgr p hp).sz (by omega)) A B F c d g Cw w hw hA hB (I3 m) ?_ ?_ ?_ ?_ ?_
 ·intro h;unfold I3;rw [if_pos h]
 ·intro h h1;unfold I3;rw [if_neg (by rw [h];simp),if_pos h1]
 ·intro h h1 h2;unfold I3;rw [if_neg (by rw [h];simp),if_neg (by omega),if_pos h2]
 ·intro h h1 h2 h3;unfold I3;rw [if_neg (by rw [h];simp),if_neg (by omega),if_neg (by omega),if_pos h3]
 ·intro h h1 h2 h3;unfold I3;rw [if_neg (by rw [h];simp),if_neg (by omega),if_neg (by omega),if_neg (by omega)]
end Go.Proofs.YtjalkoacphhgdaaGreatDoor
