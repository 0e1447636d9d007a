/- Z39: D8 S8. -/
import Derived.Test.YtjalkoacphhgdaaGreatDoorZ38
import Derived.Deep.CutBlock
set_option maxRecDepth 100000
set_option maxHeartbeats 16000000
namespace Go.Proofs.YtjalkoacphhgdaaGreatDoor
open Go.RowKit Kl
open Go.ChangeMaps (setBlock)
theorem Tryz.infoBo:(Tryz.prog.info? 4).map (fun i=>(i.zero,i.size,i.bytes))=some (some (.bool false),1,1):=by kernel_rfl
theorem AgN(n:Nat)(hn:n<=200000)(c:Int)(hc:c=(n:Int))(W:World) :
  (Instr.makeSlice 213 (.int .i64 c) (.int .i64 c)).run Tryz.prog W=.ok (.slice (some ⟨W.heap.size,0,none⟩) n n) (W.alloc (.cells (madeCells #[.bool false] n) 4)):=by
 subst hc;obtain⟨i0,hi,hz0,hz1,hz2⟩:=info_parts Tryz.infoBo;have h:=run_make (P:=Tryz.prog) W 213 4 i0 (.bool false) Tryz.underlying213 hi hz0 .i64 .i64 n n (by omega) (by omega) (by rw [hz2];omega) (by omega);rw [hz1,Nat.mul_one]at h;simp only [Int.toNat_natCast]at h;exact h
theorem AhQ(W:World)(base n:Nat)(hb:base<=W.heap.size)(hn:n<=200000) :
  (W.alloc (.cells (madeCells #[.bool false] n) 4)).ownsRow base 4 1 (.slice (some ⟨W.heap.size,0,none⟩) n n) n (G7 (List.replicate n false)):=by
 have h:=World.ownsRow_lit (w:=W) (base:=base) (e:=4) (size:=1) (madeCells #[.bool false] n) n hb (by unfold maxLen;omega) (by rw [size_madeCells];omega);rw [toList_madeCells_one]at h
 simpa [G7]using h
theorem Aao(l:List Bool)(k:Nat)(b:Bool):(G7 l).set k (.bool b)=G7 (l.set k b):=by simp [G7]
theorem AiK{w:World}{A:Option Addr}{l:List Int}(hr:Ae w A (l.map (Value.int .i64))){j:Nat}(h:j<l.length):∃b o,A=some ⟨b,o,none⟩/\w.cell? ⟨b,o+j,none⟩=some (.int .i64 l[j]):=by
 obtain⟨b,o,e,hc⟩:=hr.ad (by simp;omega);refine⟨b,o,e,?_⟩;rw [hc j (by simpa using h)];simp
theorem Wm{s:Sg}{L:List (Sg×Int)}(h:s∈L.map (·.1)):∃e∈L,AH s L=e.2:=by
 unfold AH;rw [List.mem_map]at h;obtain⟨x,hx,rfl⟩:=h
 cases hf:L.find? (fun e=>AK x.1 e.1)with
 | none=>
  rw [List.find?_eq_none]at hf;exact absurd (Ik.2 rfl) (hf x hx)
 | some e=>exact⟨e,List.mem_of_find?_eq_some hf,rfl⟩
structure Fu(V wr:World)(B bm bs nf:Nat)(st:D2):Prop where
 face:Fz wr bm st.face
 seen:wr.ownsRow B 4 1 (.slice (some ⟨bs,0,none⟩) nf nf) nf (G7 st.seen)
 but:Av (fun j=>j=bm∨j=bs) V wr
theorem Fu.ext{V wr w':World}{B bm bs nf:Nat}{st:D2}(h:Fu V wr B bm bs nf st)(hx:Aa wr w'):Fu V w' B bm bs nf st:=
 ⟨(hx.block _ (Anm h.face)).trans h.face,Az h.seen hx,h.but.ext hx⟩
theorem Fu.put{V wr:World}{B bm bs nf:Nat}{st:D2}(h:Fu V wr B bm bs nf st)(hne:bm≠bs)(r z:Int)(hno:Cw r st.face=none) :
  ∃W',(Instr.mapUpdate 212 (.map (some bm)) (.int .i64 r) (.int .i64 z)).run Tryz.prog wr=.ok () W'/\Fu V W' B bm bs nf {st with face:=st.face ++ [(r,z)]}:=by
 obtain⟨W',h1,h2,h3,-⟩:=h.face.put r z hno;refine⟨W',h1,h2,iy h.seen h3 (by simp only [Value.ownBlock,ne_eq,Ans];exact fun e=>hne e.symm),h.but.grown h3 (fun k e=>by cases e;exact .inl (.inl rfl))⟩
theorem Fu.set{V wr:World}{B bm bs nf:Nat}{st:D2}(h:Fu V wr B bm bs nf st)(hne:bm≠bs)(k:Nat) :
  Fu V (wr.setCell ⟨bs,k,none⟩ (.bool true)) B bm bs nf {st with seen:=st.seen.set k true}:=by
 have h1:=h.seen.stored k (.bool true);rw [Aao]at h1;refine⟨?_,h1.1,h.but.grown h1.2 (fun q e=>by cases e;exact .inl (.inr rfl))⟩;exact(h1.2.block bm (Anm h.face) (by simp only [ne_eq,Ans];exact hne)).trans h.face
theorem mK{w0 w:World}(hw:An w0)(hx:Aa w0 w){r b1 b2:Nat}{L:List (Sg×Int)}{E:List (Pt×Value×Nat)}{R0:List (Pt×List Pt)}(h:Bo w0.heap.size w r b1 b2 L E R0){W:List Sg}(Kz:W=L.map (·.1))(hN:Ey W R0)(hW:OB W)(hgr:∀s∈W,Jr s)
  (hlen:L.length<=100000) (hrl:∀e∈R0,e.2.length<100000) (nf:Nat) (P0:nf<=100000) (NJ:∀x∈L,-1<=x.2/\x.2<(nf:Int)) {R1:List (Pt×List Pt)} (hR1:R1=R0.map (fun e=>(e.1,DF e.1 e.2))) {C:List (List Sg)} (hC:C=Hm W R1) {rg:List Int} (hrg:rg=JK W C) :
  Calls Tryz.prog 84 #[.pointer (some ⟨r,0,none⟩),.int .i64 (nf:Nat)] w fun e w'=>e=.returned (.tuple #[.bool (LK L nf C rg),.bool (Kj L nf C rg).op])/\Aa w0 w'/\Bo w0.heap.size w' r b1 b2 L E R1:=by
 have hmm:=@run_makeMap Tryz.prog;have so:=sort_c hw hx h (Ajh hW hN hrl);rw [←hR1]at so;have GG:Ey W R1:=by rw [hR1];exact hN.sorted
 have yF:∀e∈R1,e.2.length<100000:=by intro e he;rw [hR1,List.mem_map]at he;obtain⟨x,hx,rfl⟩:=he;have:=hrl x hx;rw [show (DF x.1 x.2).length=x.2.length from(Xj x.1 x.2).length_eq];exact this
 obtain⟨U,Aj,hall⟩:=Ab5 GG;have hG:Qt W U C:=⟨by rw [hC];exact Aj,hall,hW.x.good,hgr,by rw [Kz];simpa using hlen⟩
 have sE:C.length<=100000:=by have h1:=Wj hG.ok.ne;rw [hG.ok.flat]at h1;have h2:=JD hG.ok.nd hG.ok.sub;have:=hG.len;omega
 have yG:rg.length=C.length:=(by rw [hrg];simp [JK]);have cy:=fun (w1:World) (h1:Aa w0 w1) (k:Bo w0.heap.size w1 r b1 b2 L E R1)=>Ab6 hw h1 k (by rw [←Kz];exact GG) (by rw [←Kz];exact hW) hlen yF;rw [←Kz,←hC]at cy;have rc:=fun (w1:World) (hw1:An w1) (k:Bo w0.heap.size w1 r b1 b2 L E R1) (A:Option Addr) (cap:Nat) (hA:L2 w1 A cap C)=>AiV hw1 k Kz hG hA;rw [←hrg]at rc
 have hcw:∀i (hi:i<C.length),∀s∈C[i],-1<=AH s L/\AH s L<(nf:Int):=by intro i hi s hs;have h1:s∈W:=hG.ok.sub s (by rw [←hG.ok.flat];exact List.mem_flatten.2 ⟨_,Anp hi,hs⟩);rw [Kz]at h1;obtain⟨e,he,h2⟩:=Wm h1;rw [h2];exact NJ e he
 have sf:=Anl hcw;clear hcw NJ hR1 hrl yF Aj hall hC hrg hN hW hgr Kz hx h GG hG;have HA:=Anl (show LK L nf C rg=((G6 L (C.zip rg) (Hj nf)).ok && !((G6 L (C.zip rg) (Hj nf)).seen.contains false))from rfl);have HO:=Anl (show (Kj L nf C rg).op=(G6 L (C.zip rg) (Hj nf)).op from rfl);generalize LK L nf C rg=vA at *;generalize (Kj L nf C rg).op=vO at *;go_enter Tryz.func84,Tryz.ntmps84;(go_wp2_with fail);(with_reducible refine so.mono ?_);rintro e w1 ⟨rfl,hx1,-,Py⟩;(go_wp2_with fail);(with_reducible refine(cy _ hx1 Py).mono ?_);rintro e w2 ⟨A,cap,rfl,Dj,hx2⟩;have Dc:=Py.ext hx2;have P7:=hx1.trans hx2;(go_wp2_with fail);(with_reducible refine(rc _ (hw.ext P7) Dc A cap Dj).mono ?_);rintro e w3 ⟨A',rfl,AP,hx3⟩;have KN:=Dc.ext hx3;have vG:=Dj.ext hx3;have zC:=P7.trans hx3;clear so cy rc Py Dc hx1 hx2 hx3 Dj P7;have EH:=(Aa.refl w3).alloc (.map #[] 0);have Hq:Fz (w3.alloc (.map #[] 0)) w3.heap.size []:=Ann w3 (.map #[] 0);obtain⟨W4,hput,Dh,hg4,J9⟩:=Hq.put (-1) (-1) rfl;have hmk:=AgN nf (by omega) (nf:Int) rfl W4;have Ht:Av (fun j=>j=w3.heap.size) w3 W4:=((Av.refl _ w3).ext EH).grown hg4 (fun k e=>by cases e;exact .inl rfl);have F7:Aa w3 W4:=Ht.toExt (Aa.refl w3) (fun k e=>by subst e;exact Ano _);have OS:=(Aa.refl W4).alloc (.cells (madeCells #[.bool false] nf) 4);have own:=AhQ W4 w0.heap.size nf (Anz zC.size F7.size) (by omega);have sN:Fz (W4.alloc (.cells (madeCells #[.bool false] nf) 4)) w3.heap.size [(-1,-1)]:=(OS.block _ (Anm Dh)).trans Dh;have yJ:W4.heap.size=w3.heap.size+1:=(by rw [J9];simp);rw [yJ]at own;have sJ:=F7.trans OS;have Rp:Fu (W4.alloc (.cells (madeCells #[.bool false] nf) 4)) (W4.alloc (.cells (madeCells #[.bool false] nf) 4)) w0.heap.size w3.heap.size (w3.heap.size+1) nf (Hj nf):=⟨sN,own,Av.refl _ _⟩
 go_upto_region 6 with fail
 clear hmk own sN Dh hg4 hput Hq EH Ht OS F7 J9 yJ hmm;generalize W4.alloc (.cells (madeCells #[.bool false] nf) 4)=V at *;obtain⟨bm,Di⟩:=Ank w3.heap.size;rw [←Di]at Rp ⊢;have AlT:w3.heap.size<=bm:=(by omega);clear Di W4;have hl0:(0:Int)<=(C.length:Int):=(by omega);have hne:bm≠bm+1:=(by omega);have JY:=Anl yG;have Hb:=Anl KN;have LD:=Anl vG;have Fy:=Anl AP;clear yG KN vG AP
 go_upto_region 8 with fail
 go_loopw [4,5,30] (fun o p i wr=>∃(k:Nat) (st:D2),i=.int .i64 (k:Nat)/\k<=C.length/\o=.bool st.ok/\p=.bool st.op/\st=G6 L ((C.zip rg).take k) (Hj nf)/\Fu V wr w0.heap.size bm (bm+1) nf st) (fun _ _ i _=>C.length-(intOf i).toNat)
 case atStart=>exact⟨0,Hj nf,rfl,by omega,rfl,rfl,rfl,Rp⟩
 case round=>
  obtain⟨k,st,rfl,hk,rfl,rfl,hst,hA⟩:=hrel;have BH:Aa w3 wr:=hA.but.toExt sJ (fun q e=>by rcases e with e|e<;>omega);have HST:=Anl hst;clear hst;by_cases hlt:k<C.length
  ·obtain⟨bA,oA,A2,c2,rfl,hcell,IP,hc1,hc2⟩:=LD.out.row k hlt;replace hcell:=BH.cellS hcell;obtain⟨bB,oB,rfl,hrc⟩:=AiK (Fy.out.ext BH) (show k<rg.length by rw [JY.out];exact hlt);obtain⟨rr,Dx⟩:∃rr,rr=rg[k]'(by rw [JY.out];exact hlt):=⟨_,rfl⟩;rw [←Dx]at hrc;have hk0:(0:Int)<=(k:Int):=(by omega);have Ca:(k:Int)<(C.length:Int):=(by omega);obtain⟨c,hcc⟩:=Ank (C[k]);have hz:=sf.out k hlt
   have hstep:G6 L ((C.zip rg).take (k+1)) (Hj nf)=Hi L rr st c:=by rw [Anr (show k<(C.zip rg).length by rw [List.length_zip,JY.out];omega),yz,←HST.out,List.getElem_zip,←Dx,←hcc]
   rw [←hcc]at hcell IP hc1 hz;have TP:=Anl hstep;have HZ:=Anl hz;have hcl:(0:Int)<=(c.length:Int):=(by omega);have hc0:Hi L rr st (c.take 0)=st:=rfl;have r6:=Anl hc0;have DY:st.seen.length=nf:=(by rw [HST.out,mJ];simp [Hj]);have Iv:=Anl DY;clear hcc Dx hstep hz hc0 DY
   go_upto_region 11 with fail
   go_loopw [4,5,40] (fun o p i wi=>∃(j:Nat) (sj:D2),i=.int .i64 (j:Nat)/\j<=c.length/\o=.bool sj.ok/\p=.bool sj.op/\sj=Hi L rr st (c.take j)/\Fu V wi w0.heap.size bm (bm+1) nf sj) (fun _ _ i _=>c.length-(intOf i).toNat)
   case atStart=>exact⟨0,st,rfl,by omega,rfl,rfl,r6.out.symm,hA⟩
   case round=>
    obtain⟨j,sj,rfl,hj,rfl,rfl,hsj,UA⟩:=hrel;have XS:=Anl hsj;clear hsj;by_cases AW:j<c.length
    ·have UY:Aa w3 wr:=UA.but.toExt sJ (fun q e=>by rcases e with e|e<;>omega);obtain⟨b',o',rfl,f1,f2,f3,f4⟩:=MP (IP.ext UY) AW;have hzs:=HZ.out c[j] (Anp AW);have Va:Hi L rr st (c.take (j+1))=Dd rr (AH c[j] L) sj:=(by rw [Anr AW,yy,←XS.out]);have DY:sj.seen.length=nf:=(by rw [XS.out,mI];exact Iv.out);obtain⟨s,hs⟩:=Ank (c[j]);rw [←hs]at f1 f2 f3 f4 hzs Va;have hj0:(0:Int)<=(j:Int):=(by omega);have Mr:(j:Int)<(c.length:Int):=(by omega);have Aw:=Ann wr (.cells #[S (R s.a.x),S (R s.a.y),S (R s.b.x),S (R s.b.y)] 155);have E6:=(Aa.refl wr).alloc (.cells #[S (R s.a.x),S (R s.a.y),S (R s.b.x),S (R s.b.y)] 155);have Zo:=UA.ext E6;have VE:=Hb.out.ext (UY.trans E6);clear hs UA hA BH
     go_upto_region 13 with fail
     unfold S at Aw Zo VE;generalize (wr.alloc (.cells #[.string ⟨(R s.a.x).toArray⟩,.string ⟨(R s.a.y).toArray⟩,.string ⟨(R s.b.x).toArray⟩,.string ⟨(R s.b.y).toArray⟩] 155))=W6 at *;obtain⟨bx,Mm⟩:=Ank wr.heap.size;rw [←Mm]at Aw ⊢;clear Mm f1 f2 f3 f4 E6;have q1:∀q:Af W6,q.w.cell? ⟨r,0,none⟩=some (.map (some b1)):=Af.cell (Ab VE.cell rfl);have q2:∀q:Af W6,q.w.cell? ⟨bx,0,none⟩=some (S (R s.a.x)):=Af.cell (Ab Aw rfl);have q3:∀q:Af W6,q.w.cell? ⟨bx,1,none⟩=some (S (R s.a.y)):=Af.cell (Ab Aw rfl);have q4:∀q:Af W6,q.w.cell? ⟨bx,2,none⟩=some (S (R s.b.x)):=Af.cell (Ab Aw rfl);have q5:∀q:Af W6,q.w.cell? ⟨bx,3,none⟩=some (S (R s.b.y)):=Af.cell (Ab Aw rfl);have q6:=fun (q:Af W6)=>Qd s L (VE.ext q.h).left;obtain⟨z,hz⟩:=Ank (AH s L);rw [←hz]at q6 hzs Va;unfold As at q6;have HN:=Anl Va;clear hz Va Aw VE;refine Ft (by kernel_rfl) (by kernel_rfl) ?_
     repeat (go_big_quiet_step (fail))
     refine wpQuiet_nil ?_;rintro W7 ⟨q,hq⟩;have AG:Aa W6 W7:=hq▸q.h;clear hq q;have I4:=Zo.ext AG;have lk:=iM rr sj.face I4.face;clear q1 q2 q3 q4 q5 q6 Zo AG
     cases hl:Cw rr sj.face with
     | some old=>
      rw [hl]at lk;simp only [Option.getD_some,Option.isSome_some]at lk;have he:Dd rr z sj=⟨sj.ok&&decide (old=z),sj.op,sj.face,sj.seen⟩:=(by unfold Dd;rw [hl]);have GE:Fu V W7 w0.heap.size bm (bm+1) nf (Dd rr z sj):=(by rw [he];exact⟨I4.face,I4.seen,I4.but⟩);have HE:=Anl he;clear he I4
      cases Aj:sj.ok
      ·have Fa:=Anl Aj;go_wp2;go_roundw
       case rel=>exact⟨j+1,Dd rr z sj,by go_num,AW,by rw [HE.out,Fa.out];rfl,by rw [HE.out],HN.out.symm,GE⟩
       case measure=>simp [intOf];omega
      ·have Fa:=Anl Aj;by_cases VL:old=z
       ·have HD:=Anl (decide_eq_true VL);subst VL;go_wp2;go_roundw
        case rel=>exact⟨j+1,Dd rr old sj,by go_num,AW,by rw [HE.out,Fa.out,HD.out];rfl,by rw [HE.out],HN.out.symm,GE⟩
        case measure=>simp [intOf];omega
       ·have HD:=Anl (decide_eq_false VL);have hb:(old == z)=false:=beq_false_of_ne VL;go_wp2;go_roundw
        case rel=>exact⟨j+1,Dd rr z sj,by go_num,AW,by rw [HE.out,Fa.out,HD.out];rfl,by rw [HE.out],HN.out.symm,GE⟩
        case measure=>simp [intOf];omega
     | none=>
      rw [hl]at lk;simp only [Option.getD_none,Option.isSome_none]at lk;by_cases hz0:z<0
      ·have he:Dd rr z sj=⟨false,true,sj.face ++ [(rr,z)],sj.seen⟩:=(by unfold Dd;rw [hl];simp only;rw [if_pos hz0]);obtain⟨W8,hput,GE⟩:=I4.put hne rr z hl;have Rq:Fu V W8 w0.heap.size bm (bm+1) nf (Dd rr z sj):=(by rw [he];exact⟨GE.face,GE.seen,GE.but⟩);have HE:=Anl he;clear he I4 GE;go_wp2;go_roundw
       case rel=>exact⟨j+1,Dd rr z sj,by go_num,AW,by rw [HE.out],by rw [HE.out],HN.out.symm,Rq⟩
       case measure=>simp [intOf];omega
      ·obtain⟨m,rfl⟩:∃m:Nat,z=(m:Int):=⟨z.toNat,by omega⟩;have hm:m<nf:=(by omega);obtain⟨sv,dF⟩:=Ank (sj.seen.getD m false)
       have he:Dd rr (m:Int) sj=⟨sj.ok && !sv,sj.op,sj.face ++ [(rr,(m:Int))],sj.seen.set m true⟩:=by unfold Dd;rw [hl];simp only;rw [if_neg hz0,dF];rfl
       have hce:W7.cell? ⟨bm+1,m,none⟩=some (.bool sv):=by
        rw [I4.seen.cellAt m (by omega),dF];unfold G7;rw [List.getElem?_map,List.getD_eq_getElem?_getD,Ant (by omega)]
        rfl
       have Vt:=I4.seen.frozenAt m;obtain⟨W8,hput,GE⟩:=(I4.set hne m).put hne rr (m:Int) hl;have Rq:Fu V W8 w0.heap.size bm (bm+1) nf (Dd rr (m:Int) sj):=(by rw [he];exact⟨GE.face,GE.seen,GE.but⟩);have HE:=Anl he;have hm0:(0:Int)<=(m:Int):=(by omega);have hm1:(m:Int)<(nf:Int):=(by omega);clear he I4 GE dF
       cases Aj:sj.ok
       ·have Fa:=Anl Aj;go_wp2;go_roundw
        case rel=>exact⟨j+1,Dd rr (m:Int) sj,by go_num,AW,by rw [HE.out,Fa.out];rfl,by rw [HE.out],HN.out.symm,Rq⟩
        case measure=>simp [intOf];omega
       ·have Fa:=Anl Aj
        cases sv
        ·go_wp2;go_roundw
         case rel=>exact⟨j+1,Dd rr (m:Int) sj,by go_num,AW,by rw [HE.out,Fa.out];rfl,by rw [HE.out],HN.out.symm,Rq⟩
         case measure=>simp [intOf];omega
        ·go_wp2;go_roundw
         case rel=>exact⟨j+1,Dd rr (m:Int) sj,by go_num,AW,by rw [HE.out,Fa.out];rfl,by rw [HE.out],HN.out.symm,Rq⟩
         case measure=>simp [intOf];omega
    ·have J7:j=c.length:=(by omega);subst J7;have AS:sj=G6 L ((C.zip rg).take (k+1)) (Hj nf):=(by rw [TP.out,XS.out,List.take_length]);have HF:=Anl AS;clear AS;have bS:(c.length:Int)<=(c.length:Int):=(by omega);go_wp2;go_roundw
     case rel=>exact⟨k+1,sj,by go_num,hlt,rfl,rfl,HF.out,UA⟩
     case measure=>simp [intOf];omega
  ·have Bu:k=C.length:=(by omega);subst Bu;have AS:st=G6 L (C.zip rg) (Hj nf):=(by rw [HST.out,Anw (by rw [List.length_zip];omega)]);have HF:=Anl AS;obtain⟨A3,Al1,J5,yC,rR,rS⟩:=Ae.of_own' (by omega) hA.seen;simp only [Value.slice.injEq,true_and]at J5;obtain⟨rfl,rfl⟩:=J5;have DY:st.seen.length=nf:=(by rw [HST.out,mJ];simp [Hj]);have cb:=Abx st.seen false (some ⟨bm+1,0,none⟩) nf wr yC (by omega) rS;rw [DY]at cb;have hv:vA=(st.ok && !(st.seen.contains false)):=(by rw [HA.out,←HF.out]);have ho:vO=st.op:=(by rw [HO.out,←HF.out]);have HV:=Anl hv;subst ho;obtain⟨cv,hcv⟩:=Ank (st.seen.contains false);rw [←hcv]at cb;have r7:=Anl hcv;have tM:=zC.trans BH;clear AS DY hv hcv hA yC
   cases Aj:st.ok
   ·have Fa:=Anl Aj;obtain rfl:vA=false:=(by rw [HV.out,Fa.out];rfl);go_wp2;go_ret2;exact⟨rfl,tM,Hb.out.ext BH⟩
   ·have Fa:=Anl Aj;obtain rfl:vA = !cv:=(by rw [HV.out,Fa.out,←r7.out];rfl);(go_wp2_with fail);(with_reducible refine cb.mono ?_);rintro e w9 ⟨rfl,BM⟩;go_wp2;go_ret2;exact⟨rfl,tM.trans BM,Hb.out.ext (BH.trans BM)⟩
theorem y9{w0 w:World}(hw:An w0)(hx:Aa w0 w){r b1 b2:Nat}{L:List (Sg×Int)}{E:List (Pt×Value×Nat)}{R0:List (Pt×List Pt)}(h:Bo w0.heap.size w r b1 b2 L E R0){W:List Sg}(Kz:W=L.map (·.1))(hN:Ey W R0)(hW:OB W)(hgr:∀s∈W,Jr s)
  (hlen:L.length<=100000) (hrl:∀e∈R0,e.2.length<100000) (nf:Nat) (P0:nf<=100000) (NJ:∀x∈L,-1<=x.2/\x.2<(nf:Int)) {R1:List (Pt×List Pt)} (hR1:R1=R0.map (fun e=>(e.1,DF e.1 e.2))) {C:List (List Sg)} (hC:C=Hm W R1) {rg:List Int} (hrg:rg=JK W C) :
  Calls Tryz.prog 84 #[.pointer (some ⟨r,0,none⟩),.int .i64 (nf:Nat)] w fun e w'=>e=.returned (.tuple #[.bool (LK L nf C rg),.bool (Kj L nf C rg).op])/\Aa w0 w':=(mK hw hx h Kz hN hW hgr hlen hrl nf P0 NJ hR1 hC hrg).mono fun _ _ k=>⟨k.1,k.2.1⟩
end Go.Proofs.YtjalkoacphhgdaaGreatDoor
namespace Go.Proofs.YtjalkoacphhgdaaGreatDoor
open Go.RowKit Kl
theorem AcA(l:List (Bs×Bs))(i:Nat):flat (l.take i)=(flat l).take (i*2):=by
 induction l generalizing i with
 | nil=>simp [flat]
 | cons e l ih=>
  cases i with
  | zero=>simp [flat]
  | succ i=>have e0:∀l,flat (e::l)=S e.1::S e.2::flat l:=fun _=>rfl;rw [List.take_succ_cons,e0,e0,ih];have e1:(i+1)*2=i*2+1+1:=(by omega);rw [e1];simp
theorem Aiu(l:List Pt)(i:Nat):Ao (l.take i)=(Ao l).take i:=by unfold Ao;rw [List.map_take]
theorem Abz(l:List Pt)(i:Nat)(hi:i<=l.length)(p:Pt)(A:Option Addr)(c:Nat)(w:World)(hr:Ae w A (flat (Ao l)))(hc:l.length<=c)(hcm:c<=9223372036854775807) :
  Calls Tryz.prog 78 #[.slice A i c,Ak p] w (B7 ((l.take i).any (Ap p)) w):=by
 have:=contains_c (l.take i) p A c w (by rw [Aiu,AcA];exact hr.take _) (by rw [List.length_take];omega) hcm;rw [List.length_take,Nat.min_eq_left hi]at this;exact this
def fH(m:Cp):List Sg:=(AM m.pts m.eds).map (·.1)
def fG(m:Cp):List (Pt×List Pt):=(Cx m.pts m.eds).map (fun e=>(e.1,DF e.1 e.2))
def NX(m:Cp):List (List Sg):=Hm (fH m) (fG m)
def PM(m:Cp):List Int:=JK (fH m) (NX m)
def YK(m:Cp):Int:=if Ri (Cx m.pts m.eds) m.pts=true then 25 else if LK (AM m.pts m.eds) m.nf (NX m) (PM m)=true then 0 else 14
theorem Aib(m:Cp)(hgr:∀p∈m.pts,DJ p){k:Nat}(hk:0<k)(hk2:k<=200)(hz:∀p∈m.pts,Ar k p)(A B F:Option Addr)(c d g:Nat)(Cu:JV m c d g)(w:World)(hw:An w)(hA:Ae w A (flat (Ao m.pts)))(hB:Ae w B (Bw m.eds))(r:Int)
  (h0:LP m=true→r=4) (h1:LP m=false→CH [] m.pts≠0→r=CH [] m.pts)
  (h2:LP m=false→CH [] m.pts=0→CV m.pts.length m.nf [] m.eds≠0→r=CV m.pts.length m.nf [] m.eds) (h3:LP m=false→CH [] m.pts=0→CV m.pts.length m.nf [] m.eds=0→D6 m.pts [] m.eds≠0→r=26)
  (h4:LP m=false→CH [] m.pts=0→CV m.pts.length m.nf [] m.eds=0→D6 m.pts [] m.eds=0→r=YK m) :
  Calls Tryz.prog 33 #[Dz A B F m c d g] w (AA r w):=by
 have HA:=Anl hA;have HB:=Anl hB;have HZ:=Anl hz;have H0:=Anl h0;have H1:=Anl h1;have H2:=Anl h2;have H3:=Anl h3;have H4:=Anl h4;have kU:=Anl hgr;have HC:=Anl Cu;obtain⟨c1,c2,d1,d2,g1,g2⟩:=Cu;have HL:=Anl (show LP m=(decide (400<m.pts.length)||(decide (1200<m.eds.length)||decide (800<m.nf)))from rfl);have hM:=Ann w (.cells #[.slice A m.pts.length c,.slice B m.eds.length d,.slice F m.nf g] 36);have hE:=(Aa.refl w).alloc (.cells #[.slice A m.pts.length c,.slice B m.eds.length d,.slice F m.nf g] 36);unfold Dz;clear hA hB hz h0 h1 h2 h3 h4 hgr;go_enter Tryz.func33,Tryz.ntmps33
 go_upto_region 1 with fail
 generalize w.alloc (.cells #[.slice A m.pts.length c,.slice B m.eds.length d,.slice F m.nf g] 36)=V at *;obtain⟨bm,Di⟩:=Ank w.heap.size;rw [←Di]at hM ⊢;have hle:w.heap.size<=bm:=(by omega);clear Di;have m1:=Ab (o:=0) hM rfl;have m2:=Ab (o:=1) hM rfl;have m3:=Ab (o:=2) hM rfl;by_cases n1:(400:Int)<(m.pts.length:Int)
 ·have dd:decide ((400:Int)<(m.pts.length:Int))=true:=decide_eq_true n1;have HH:=Anl (show r=4 from H0.out (by rw [HL.out,decide_eq_true (by omega)];rfl));go_wp2;go_ret;exact⟨by rw [HH.out];rfl,hE⟩
 have pJ:decide ((400:Int)<(m.pts.length:Int))=false:=decide_eq_false n1;by_cases n2:(1200:Int)<(m.eds.length:Int)
 ·have dd:decide ((1200:Int)<(m.eds.length:Int))=true:=decide_eq_true n2;have HH:=Anl (show r=4 from H0.out (by rw [HL.out,decide_eq_true (p:=1200<m.eds.length) (by omega)];simp));clear n1;go_wp2;go_ret;exact⟨by rw [HH.out];rfl,hE⟩
 have YT:decide ((1200:Int)<(m.eds.length:Int))=false:=decide_eq_false n2;by_cases n3:(800:Int)<(m.nf:Int)
 ·have dd:decide ((800:Int)<(m.nf:Int))=true:=decide_eq_true n3;have HH:=Anl (show r=4 from H0.out (by rw [HL.out,decide_eq_true (p:=800<m.nf) (by omega)];simp));clear n1 n2;go_wp2;go_ret;exact⟨by rw [HH.out];rfl,hE⟩
 have pK:decide ((800:Int)<(m.nf:Int))=false:=decide_eq_false n3;have HN:=Anl (show LP m=false by rw [HL.out,decide_eq_false (by omega),decide_eq_false (by omega),decide_eq_false (by omega)];rfl);have Am2:m.pts.length<=400:=(by omega);have Aeb:m.eds.length<=1200:=(by omega);have Amb:m.nf<=800:=(by omega);clear n1 n2 n3 HL H0
 go_upto_block 0 with fail
 clear pJ YT pK m1 m2 m3
 go_cut [] (fun wx=>CH [] m.pts=0/\Aa V wx)
 case first=>
  (go_wp2_with fail)
  go_loopw [33] (fun i wr=>∃j:Nat,i=.int .i64 (j:Nat)/\j<=m.pts.length/\CH (m.pts.take j) (m.pts.drop j)=CH [] m.pts/\Aa V wr) (fun i _=>m.pts.length-(intOf i).toNat)
  case atStart=>exact⟨0,rfl,by omega,by simp,Aa.refl _⟩
  case round=>
   obtain⟨j,rfl,hj,Aj,Ac⟩:=hrel;have HO:=Anl Aj;clear Aj;by_cases hlt:j<m.pts.length
   ·obtain⟨b,o,rfl,hg1,hg2⟩:=Ct ((HA.out.ext hE).ext Ac) hlt;have hz:=HZ.out m.pts[j] (Anp hlt);obtain⟨p,hp⟩:=Ank (m.pts[j]);have HP:=Anl hp;have HS:=Anl (AaQ hlt);rw [←hp]at hg1 hg2 hz;have hj0:(0:Int)<=(j:Int):=(by omega);have AW:(j:Int)<(m.pts.length:Int):=(by omega);have Vx:(j:Int)<=(c:Int):=(by omega);have Bt:=Ann wr (.cells #[S (R p.x),S (R p.y)] 92);have hx1:=Ac.alloc (.cells #[S (R p.x),S (R p.y)] 92);have ck:=nX (R p.x) (R p.y) true (by simp only [true_iff];exact⟨WG hz.x hk hk2,WG hz.y hk hk2⟩) (Xn hz.x hk (by omega)) (Xn hz.y hk (by omega));rw [Km]at ck;clear hp hz
    go_upto_region 6 with fail
    generalize wr.alloc (.cells #[S (R p.x),S (R p.y)] 92)=V1 at *;obtain⟨bp,RL⟩:=Ank wr.heap.size;rw [←RL]at Bt ⊢;clear RL hg1 hg2;have k1:=Ab (o:=0) Bt rfl;have k2:=Ab (o:=1) Bt rfl;(go_wp2_with fail);(with_reducible refine(ck _ (hw.ext (hE.trans hx1))).mono ?_);rintro e w2 ⟨rfl,hx2⟩;have Hx:=(hx2.block _ (Anm Bt)).trans Bt;replace hx2:=hx1.trans hx2;have hw2:=hw.ext (hE.trans hx2);have Hr:=(hx2.block _ (Anm hM)).trans hM;have f1:∀q:Af w2,q.w.cell? ⟨bp,0,none⟩=some (S (R p.x)):=Af.cell (Ab Hx rfl);have f2:∀q:Af w2,q.w.cell? ⟨bp,1,none⟩=some (S (R p.y)):=Af.cell (Ab Hx rfl);have f3:∀q:Af w2,q.w.cell? ⟨bm,0,none⟩=some (.slice (some ⟨b,o,none⟩) m.pts.length c):=Af.cell (Ab Hr rfl);have ct:=fun q:Af w2=>Abz m.pts j hj p (some ⟨b,o,none⟩) c q.w ((HA.out.ext (hE.trans hx2)).ext q.h) c1 c2;unfold Ak at ct;obtain⟨du,J4⟩:=Ank ((m.pts.take j).any (Ap p));rw [←J4]at ct;have HD:=Anl J4;clear J4 k1 k2 ck Bt Hx Hr hx1 Ac;(go_wp2_with fail);refine Ft (by kernel_rfl) (by kernel_rfl) ?_
    repeat (go_big_quiet_step (with_reducible refine qL (ct _)))
    refine wpQuiet_nil ?_;rintro _ ⟨q,rfl⟩;have hxq:=hx2.trans q.h;have HQ:=Anl hxq
    cases du
    ·have HH:=Anl (show CH (m.pts.take (j+1)) (m.pts.drop (j+1))=CH [] m.pts by
      rw [←HO.out,HS.out,←HP.out,←HD.out];rfl)
     go_wp2;go_roundw
     case rel=>exact⟨j+1,by go_num,hlt,HH.out,HQ.out⟩
     case measure=>simp [intOf];omega
    ·have HH:=Anl (show CH [] m.pts=9 by rw [←HO.out,HS.out,←HP.out,←HD.out];rfl);have HR:=Anl (show r=9 by rw [←HH.out];exact H1.out HN.out (by rw [HH.out];omega));go_wp2;go_ret;exact⟨by rw [HR.out];rfl,hE.trans HQ.out⟩
   ·have hle:(m.pts.length:Int)<=(j:Int):=(by omega);have HH:=Anl (show CH [] m.pts=0 by rw [←HO.out,List.drop_eq_nil_of_le (by omega)];unfold CH;rfl);go_wp2;go_meet;exact⟨HH.out,Ac⟩
 case rest=>
  obtain⟨hc1,hx1⟩:=hcut;have kD:=Anl (fun h=>H2.out HN.out hc1 h);have XC:=Anl hc1;have TR:=Anl hx1;have Ky:=(hx1.block _ (Anm hM)).trans hM;have m1:=Ab (o:=1) Ky rfl;clear hc1 H1 hx1
  go_upto_block 3 with fail
  clear m1
  go_cut [] (fun wx=>CV m.pts.length m.nf [] m.eds=0/\Aa V wx)
  case first=>
   (go_wp2_with fail)
   go_loopw [53] (fun i wr=>∃j:Nat,i=.int .i64 (j:Nat)/\j<=m.eds.length/\CV m.pts.length m.nf (m.eds.take j) (m.eds.drop j)=CV m.pts.length m.nf [] m.eds/\Aa V wr) (fun i _=>m.eds.length-(intOf i).toNat)
   case atStart=>exact⟨0,rfl,by omega,by simp,TR.out⟩
   case round=>
    obtain⟨j,rfl,hj,Aj,Ac⟩:=hrel;have HO:=Anl Aj;clear Aj;by_cases hlt:j<m.eds.length
    ·have hj0:(0:Int)<=(j:Int):=(by omega);have AW:(j:Int)<(m.eds.length:Int):=(by omega);have HS:=Anl (AaS (np:=m.pts.length) (nf:=m.nf) hlt);have ce:=AaK m A B F c d g HC.out j hlt wr (HB.out.ext (hE.trans Ac));obtain⟨z,hz⟩:=Ank (Jw m.pts.length m.nf (m.eds.take j) m.eds[j]);rw [←hz]at ce;have lK:=Anl hz;unfold Dz at ce;have Ej:=(Ac.block _ (Anm hM)).trans hM;have m1:=Ab (o:=0) Ej rfl;have m2:=Ab (o:=1) Ej rfl;have m3:=Ab (o:=2) Ej rfl;clear hz Ej;(go_wp2_with fail);(with_reducible refine ce.mono ?_);rintro e w2 ⟨rfl,hx2⟩;have HX:=Anl (Ac.trans hx2);clear m1 m2 m3 hx2 ce;by_cases hz0:z=0
     ·have HH:=Anl (show CV m.pts.length m.nf (m.eds.take (j+1)) (m.eds.drop (j+1))=CV m.pts.length m.nf [] m.eds by
       rw [←HO.out,HS.out,←lK.out,if_neg (by omega)])
      subst hz0;go_wp2;go_roundw
      case rel=>exact⟨j+1,by go_num,hlt,HH.out,HX.out⟩
      case measure=>simp [intOf];omega
     ·have HH:=Anl (show CV m.pts.length m.nf [] m.eds=z by rw [←HO.out,HS.out,←lK.out,if_pos (by omega)]);have HR:=Anl (show r=z by rw [←HH.out];exact kD.out (by rw [HH.out];exact hz0));have dd:(z == 0)=false:=(by rw [beq_eq_false_iff_ne];exact hz0);have YT:(z != 0)=true:=(by rw [bne_iff_ne];exact hz0);clear hz0;go_wp2;go_ret;exact⟨by rw [HR.out];rfl,hE.trans HX.out⟩
    ·have hle:(m.eds.length:Int)<=(j:Int):=(by omega);have HH:=Anl (show CV m.pts.length m.nf [] m.eds=0 by rw [←HO.out,List.drop_eq_nil_of_le (by omega)];unfold CV;rfl);go_wp2;go_meet;exact⟨HH.out,Ac⟩
  case rest=>
   obtain⟨hc2,hx1⟩:=hcut;have kE:=Anl (fun h=>H3.out HN.out XC.out hc2 h);have Ew:=Anl hc2;have O0:=Anl hx1;have Ky:=(hx1.block _ (Anm hM)).trans hM;have m1:=Ab (o:=1) Ky rfl;clear hc2 kD TR hx1
   go_upto_region 18 with fail
   go_upto_block 5 with fail
   go_cut [] (fun wx=>D6 m.pts [] m.eds=0/\Aa V wx)
   case first=>
    (go_wp2_with fail)
    go_loopw [66] (fun i wr=>∃j:Nat,i=.int .i64 (j:Nat)/\j<=m.eds.length/\D6 m.pts (m.eds.take j) (m.eds.drop j)=D6 m.pts [] m.eds/\Aa V wr) (fun i _=>m.eds.length-(intOf i).toNat)
    case atStart=>exact⟨0,rfl,by omega,by simp,O0.out⟩
    case round=>
     obtain⟨j,rfl,hj,Aj,Ac⟩:=hrel;have HO:=Anl Aj;clear Aj;by_cases hlt:j<m.eds.length
     ·have hj0:(0:Int)<=(j:Int):=(by omega);have AW:(j:Int)<(m.eds.length:Int):=(by omega);have hjd:(j:Int)<=(d:Int):=(by omega);have HS:=Anl (AaU (pts:=m.pts) hlt);obtain⟨b,o,rfl,hg1,hg2,hg3,hg4⟩:=Tn ((HB.out.ext hE).ext Ac) hlt;have hck:=Ut (QN (l:=m.eds) Ew.out j hlt);obtain⟨e,he⟩:=Ank (m.eds[j]);rw [←he]at hg1 hg2 hg3 hg4 hck;have kP:=Anl he;obtain⟨ef,NB⟩:∃n:Nat,e.f=(n:Int):=⟨e.f.toNat,by omega⟩;obtain⟨et,NC⟩:∃n:Nat,e.t=(n:Int):=⟨e.t.toNat,by omega⟩;have Pk:ef<m.pts.length:=(by omega);have Pl:et<m.pts.length:=(by omega);have kO:=Anl (And.intro NB NC);rw [NB]at hg1;rw [NC]at hg2;obtain⟨ba,oa,rfl,ha1,ha2⟩:=Ct ((HA.out.ext hE).ext Ac) Pk;obtain⟨b2,o2,Hz,hb1,hb2⟩:=Ct ((HA.out.ext hE).ext Ac) Pl;obtain⟨rfl,rfl⟩:ba=b2/\oa=o2:=(by simpa using Hz);have P9:=HZ.out m.pts[ef] (Anp Pk);have hzb:=HZ.out m.pts[et] (Anp Pl);obtain⟨pa,DD⟩:=Ank (m.pts[ef]);obtain⟨pb,Fl⟩:=Ank (m.pts[et]);rw [←DD]at ha1 ha2 P9;rw [←Fl]at hb1 hb2 hzb;have TL:=Anl (And.intro DD Fl);have f0:(0:Int)<=(ef:Int):=(by omega);have f1:(ef:Int)<(m.pts.length:Int):=(by omega);have f2:(0:Int)<=(et:Int):=(by omega);have f3:(et:Int)<(m.pts.length:Int):=(by omega);have Ej:=(Ac.block _ (Anm hM)).trans hM;have m1:=Ab (o:=1) Ej rfl;have Bt:=Ann wr (.cells #[.int .i64 (ef:Nat),.int .i64 (et:Nat),.int .i64 e.l,.int .i64 e.r] 126);have hx1:=Ac.alloc (.cells #[.int .i64 (ef:Nat),.int .i64 (et:Nat),.int .i64 e.l,.int .i64 e.r] 126);have hx0:=(Aa.refl wr).alloc (.cells #[.int .i64 (ef:Nat),.int .i64 (et:Nat),.int .i64 e.l,.int .i64 e.r] 126);replace ha1:=hx0.cellS ha1;replace ha2:=hx0.cellS ha2;replace hb1:=hx0.cellS hb1;replace hb2:=hx0.cellS hb2;clear hck he NB NC Hz DD Fl
      go_upto_region 21 with fail
      generalize wr.alloc (.cells #[.int .i64 (ef:Nat),.int .i64 (et:Nat),.int .i64 e.l,.int .i64 e.r] 126)=V1 at *;obtain⟨bp,RL⟩:=Ank wr.heap.size;rw [←RL]at Bt ⊢;clear RL hg1 hg2 hg3 hg4 Ac Ej m1 hx0;have EJ:=(hx1.block _ (Anm hM)).trans hM;have m1:=Ab (o:=1) EJ rfl
      go_upto_region 22 with fail
      clear m1
      go_loopw [76] (fun i wr=>∃jj:Nat,i=.int .i64 (jj:Nat)/\jj<=j/\(∀f∈m.eds.take jj,OK m.pts e f=false)/\Aa V1 wr) (fun i _=>j-(intOf i).toNat)
      case atStart=>exact⟨0,rfl,by omega,by simp,Aa.refl _⟩
      case round=>
       obtain⟨jj,rfl,J7,Aj,Ac⟩:=hrel;have Oy:=Anl Aj;clear Aj;by_cases hlt2:jj<j
       ·have jj0:(0:Int)<=(jj:Int):=(by omega);have jjl:(jj:Int)<(j:Int):=(by omega);have NG:jj<m.eds.length:=(by omega);obtain⟨b',o',Bl,hg1,hg2,hg3,hg4⟩:=Tn (((HB.out.ext hE).ext hx1).ext Ac) NG;obtain⟨rfl,rfl⟩:b=b'/\o=o':=(by simpa using Bl);have hck:=Ut (QN (l:=m.eds) Ew.out jj NG);obtain⟨f,hf⟩:=Ank (m.eds[jj]);rw [←hf]at hg1 hg2 hg3 hg4 hck;have kR:=Anl hf;obtain⟨ff,aW⟩:∃n:Nat,f.f=(n:Int):=⟨f.f.toNat,by omega⟩;obtain⟨ft,bD⟩:∃n:Nat,f.t=(n:Int):=⟨f.t.toNat,by omega⟩;have aX:ff<m.pts.length:=(by omega);have bE:ft<m.pts.length:=(by omega);have kQ:=Anl (And.intro aW bD);rw [aW]at hg1;rw [bD]at hg2;obtain⟨b3,o3,J5,hc1,hc2⟩:=Ct ((HA.out.ext hE).ext hx1) aX;obtain⟨b4,o4,vN,Vn,El⟩:=Ct ((HA.out.ext hE).ext hx1) bE;obtain⟨rfl,rfl⟩:ba=b3/\oa=o3:=(by simpa using J5);obtain⟨rfl,rfl⟩:ba=b4/\oa=o4:=(by simpa using vN);have dX:=HZ.out m.pts[ff] (Anp aX);have hzd:=HZ.out m.pts[ft] (Anp bE);obtain⟨pc,cT⟩:=Ank (m.pts[ff]);obtain⟨pd,cV⟩:=Ank (m.pts[ft]);rw [←cT]at hc1 hc2 dX;rw [←cV]at Vn El hzd;have lC:=Anl (And.intro cT cV);have f4:(0:Int)<=(ff:Int):=(by omega);have f5:(ff:Int)<(m.pts.length:Int):=(by omega);have f6:(0:Int)<=(ft:Int):=(by omega);have f7:(ft:Int)<(m.pts.length:Int):=(by omega);have Hx:=Ann wr (.cells #[.int .i64 (ff:Nat),.int .i64 (ft:Nat),.int .i64 f.l,.int .i64 f.r] 126);have hx2:=Ac.alloc (.cells #[.int .i64 (ff:Nat),.int .i64 (ft:Nat),.int .i64 f.l,.int .i64 f.r] 126);clear hck hf aW bD J5 vN cT cV Bl
        go_upto_region 24 with fail
        generalize wr.alloc (.cells #[.int .i64 (ff:Nat),.int .i64 (ft:Nat),.int .i64 f.l,.int .i64 f.r] 126)=V2 at *;obtain⟨bq,uS⟩:=Ank wr.heap.size;rw [←uS]at Hx ⊢;have hx3:=hx1.trans hx2;have Hr:=(hx2.block _ (Anm EJ)).trans EJ;have aG:=(hx2.block _ (Anm Bt)).trans Bt;have SC:=hw.ext (hE.trans hx3);have q1:∀q:Af V2,q.w.cell? ⟨bm,0,none⟩=some (.slice (some ⟨ba,oa,none⟩) m.pts.length c):=Af.cell (Ab Hr rfl);have q2:∀q:Af V2,q.w.cell? ⟨bp,0,none⟩=some (.int .i64 (ef:Nat)):=Af.cell (Ab aG rfl);have q3:∀q:Af V2,q.w.cell? ⟨bp,1,none⟩=some (.int .i64 (et:Nat)):=Af.cell (Ab aG rfl);have q4:∀q:Af V2,q.w.cell? ⟨bq,0,none⟩=some (.int .i64 (ff:Nat)):=Af.cell (Ab Hx rfl);have q5:∀q:Af V2,q.w.cell? ⟨bq,1,none⟩=some (.int .i64 (ft:Nat)):=Af.cell (Ab Hx rfl);have a1:∀q:Af V2,q.w.cell? ⟨ba,oa+ef*2,none⟩=some (S (R pa.x)):=Af.cell (hx2.cellS ha1);have a2:∀q:Af V2,q.w.cell? ⟨ba,oa+ef*2+1,none⟩=some (S (R pa.y)):=Af.cell (hx2.cellS ha2);have a3:∀q:Af V2,q.w.cell? ⟨ba,oa+et*2,none⟩=some (S (R pb.x)):=Af.cell (hx2.cellS hb1);have a4:∀q:Af V2,q.w.cell? ⟨ba,oa+et*2+1,none⟩=some (S (R pb.y)):=Af.cell (hx2.cellS hb2);have a5:∀q:Af V2,q.w.cell? ⟨ba,oa+ff*2,none⟩=some (S (R pc.x)):=Af.cell (hx2.cellS hc1);have a6:∀q:Af V2,q.w.cell? ⟨ba,oa+ff*2+1,none⟩=some (S (R pc.y)):=Af.cell (hx2.cellS hc2);have a7:∀q:Af V2,q.w.cell? ⟨ba,oa+ft*2,none⟩=some (S (R pd.x)):=Af.cell (hx2.cellS Vn);have a8:∀q:Af V2,q.w.cell? ⟨ba,oa+ft*2+1,none⟩=some (S (R pd.y)):=Af.cell (hx2.cellS El);have cr:=fun q:Af V2=>Aic pa pb pc pd P9 hzb dX hzd hk (by omega) q.w (SC.ext q.h);obtain⟨cx,Vl⟩:=Ank (MM pa pb pc pd);rw [←Vl]at cr
        have hce:OK m.pts e f=cx:=by unfold OK ET;rw [kO.out.1,kO.out.2,kQ.out.1,kQ.out.2,Vl,TL.out.1,TL.out.2,lC.out.1,lC.out.2];simp [Pk,Pl,aX,bE]
        have LA:=Anl hce;unfold Ak at cr;clear uS Hr aG Hx ha1 ha2 hb1 hb2 hc1 hc2 Vn El P9 hzb dX hzd Vl hce hg1 hg2 hg3 hg4 EJ Bt;refine Ft (by kernel_rfl) (by kernel_rfl) ?_
        repeat (go_big_quiet_step (with_reducible refine qL (cr _)))
        refine wpQuiet_nil ?_;rintro _ ⟨q,rfl⟩;have Qz:=Anl (hx2.trans q.h);have xj:=Anl (hE.trans (hx3.trans q.h));clear q1 q2 q3 q4 q5 a1 a2 a3 a4 a5 a6 a7 a8 cr hx2 hx3
        cases cx
        ·go_wp2;go_roundw
         case rel=>
          refine⟨jj+1,by go_num,by omega,?_,Qz.out⟩;intro x hx;rw [Anr NG,←kR.out]at hx
          rcases List.mem_append.1 hx with h|h
          ·exact Oy.out x h
          ·simp only [An1]at h;rw [h];exact LA.out
         case measure=>simp [intOf];omega
        ·have HH:=Anl (show D6 m.pts [] m.eds=26 by
          rw [←HO.out,HS.out,if_pos];rw [←kP.out,List.any_eq_true]
          exact⟨f,by rw [kR.out,List.mem_take_iff_getElem];exact⟨jj,by omega,rfl⟩,LA.out⟩)
         have HR:=Anl (show r=26 from kE.out (by rw [HH.out];omega));go_wp2;go_ret;exact⟨by rw [HR.out];rfl,xj.out⟩
       ·have bS:(j:Int)<=(jj:Int):=(by omega);obtain rfl:jj=j:=by omega
        have HH:=Anl (show D6 m.pts (m.eds.take (jj+1)) (m.eds.drop (jj+1))=D6 m.pts [] m.eds by
         rw [←HO.out,HS.out,if_neg];rw [←kP.out,Bool.not_eq_true,List.any_eq_false]
         intro x hx;rw [Oy.out x hx];simp)
        have HX:=Anl (hx1.trans Ac);go_wp2;go_roundw
        case rel=>exact⟨jj+1,by go_num,hlt,HH.out,HX.out⟩
        case measure=>simp [intOf];omega
     ·have hle:(m.eds.length:Int)<=(j:Int):=(by omega);have HH:=Anl (show D6 m.pts [] m.eds=0 by rw [←HO.out,List.drop_eq_nil_of_le (by omega)];unfold D6;rfl);go_wp2;go_meet;exact⟨HH.out,Ac⟩
   case rest=>
    obtain⟨hc3,hx1⟩:=hcut;obtain⟨wx,rfl⟩:=named hx1;have ug:=Anl (H4.out HN.out XC.out Ew.out hc3);have RS:=pZ XC.out Ew.out;have Ky:=(hx1.block _ (Anm hM)).trans hM;have x0:=Ab (o:=0) Ky rfl;have x1:=Ab (o:=1) Ky rfl;have x2:=Ab (o:=2) Ky rfl;have BR:=hE.trans hx1;have Cu:JV m c d g:=HC.out;have oc:=Ahs m A B F c d g Cu RS Aeb wx (HA.out.ext BR) (HB.out.ext BR);have AeD:=hw.ext BR;unfold Dz at oc;have ag:=fun (w2:World) (h2:Aa wx w2) (rn b1 b2:Nat) (E:List (Pt×Value×Nat)) (hn:Bo wx.heap.size w2 rn b1 b2 (AM m.pts m.eds) E (Cx m.pts m.eds))=>y9 AeD h2 hn rfl (ey m.pts m.eds) (fj RS kU.out hc3) (fJ RS kU.out) (by rw [fK];omega) (fun e he=>by have:=SY m.pts m.eds e he;omega) m.nf (by omega) (fh Ew.out) (R1:=fG m) rfl (C:=NX m) rfl (rg:=PM m) rfl;have xA:∀(fn:Fn) (first cap:Array Value) (w:World),(Instr.makeFunc fn first cap).run Tryz.prog w=.ok (.func fn first cap) w:=fun _ _ _ _=>rfl;have lA:=Anl Ky;obtain⟨fw,hfw⟩:=Ank (Ri (Cx m.pts m.eds) m.pts);obtain⟨ab,hab⟩:=Ank (LK (AM m.pts m.eds) m.nf (NX m) (PM m))
    have hr:r=if fw=true then 25 else if ab=true then 0 else 14:=by rw [ug.out,hfw,hab];rfl
    have ue:=Anl hfw;have HR:=Anl hr;rw [←hab]at ag;generalize (Kj (AM m.pts m.eds) m.nf (NX m) (PM m)).op=ao at *;clear Ky hx1 RS hc3 hfw hab hr H2 H3 kE
    go_upto_region 28 with fail
    (go_wp2_with fail);(with_reducible refine oc.mono ?_);rintro e w2 ⟨rn,b1,b2,E,rfl,hx2,Dc⟩;have EH:=(Aa.refl w2).alloc (.cells #[.pointer (some ⟨rn,0,none⟩)] 128);have BS:=Ann w2 (.cells #[.pointer (some ⟨rn,0,none⟩)] 128);have KN:=Dc.ext EH;have hx3:=hx2.trans EH;have GF:=(hx3.block _ (Anm lA.out)).trans lA.out;have y0:=Ab (o:=0) GF rfl;clear x0 x1 x2 oc Dc
    go_upto_region 29 with fail
    generalize w2.alloc (.cells #[.pointer (some ⟨rn,0,none⟩)] 128)=w3 at *;obtain⟨bn,RJ⟩:=Ank w2.heap.size;rw [←RJ]at BS ⊢;clear RJ;have af:=zf KN bn (Ab BS rfl) m.pts A c (HA.out.ext (BR.trans hx3)) (by assumption) (by assumption);rw [←ue.out]at af;(go_wp2_with fail);(with_reducible refine af.mono ?_);rintro e w4 ⟨rfl,Ai⟩;have zD:=hx3.trans Ai;have OV:=(Ai.block _ (Anm GF)).trans GF;have uQ:=(Ai.block _ (Anm BS)).trans BS;have z2:=Ab (o:=2) OV rfl;have z3:=Ab (o:=0) uQ rfl;have yx:=ag w4 zD rn b1 b2 E (KN.ext Ai);clear ag af GF BS OV uQ y0 KN hx2 hx3 EH Ai
    cases fw
    ·have Iu:=Anl (show r=if ab=true then 0 else 14 from HR.out);(go_wp2_with fail);(with_reducible refine yx.mono ?_);rintro e w5 ⟨rfl,Ad⟩
     cases ab
     ·obtain rfl:r=14:=Iu.out;go_wp2;go_ret;exact⟨rfl,BR.trans Ad⟩
     ·obtain rfl:r=0:=Iu.out;go_wp2;go_ret;exact⟨rfl,BR.trans Ad⟩
    ·obtain rfl:r=25:=HR.out;go_wp2;go_ret;exact⟨rfl,BR.trans zD⟩
def I1(m:Cp):Int:=
 if LP m=true then 4 else if CH [] m.pts≠0 then CH [] m.pts else if CV m.pts.length m.nf [] m.eds≠0 then CV m.pts.length m.nf [] m.eds else if D6 m.pts [] m.eds≠0 then 26 else YK m
theorem Aia(m:Cp)(hgr:∀p∈m.pts,DJ p)(A B F:Option Addr)(c d g:Nat)(Cu:JV m c d g)(w:World)(hw:An w)(hA:Ae w A (flat (Ao m.pts)))(hB:Ae w B (Bw m.eds)) :
  Calls Tryz.prog 33 #[Dz A B F m c d g] w (AA (I1 m) w):=by
 refine Aib m hgr (k:=200) (by omega) (by omega) (fun p hp=>(hgr p hp).sz (by omega)) A B F c d g Cu w hw hA hB (I1 m) ?_ ?_ ?_ ?_ ?_
 ·intro h;unfold I1;rw [if_pos h]
 ·intro h h1;unfold I1;rw [if_neg (by rw [h];simp),if_pos h1]
 ·intro h h1 h2;unfold I1;rw [if_neg (by rw [h];simp),if_neg (by omega),if_pos h2]
 ·intro h h1 h2 h3;unfold I1;rw [if_neg (by rw [h];simp),if_neg (by omega),if_neg (by omega),if_pos h3]
 ·intro h h1 h2 h3;unfold I1;rw [if_neg (by rw [h];simp),if_neg (by omega),if_neg (by omega),if_neg (by omega)]
end Go.Proofs.YtjalkoacphhgdaaGreatDoor
