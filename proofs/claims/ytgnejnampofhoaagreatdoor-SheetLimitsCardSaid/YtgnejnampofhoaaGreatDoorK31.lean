/- K31: ShD8 ShS8 ShGG8 ShGG9 ShGG10 ShGG11 ShGG12 ShGG13 ShGG14 ShGG15 ShGG16 ShGG17 ShQCX ShQC ShQGA. -/
import Derived.Test.YtgnejnampofhoaaGreatDoorK30
import Derived.Deep.CutBlock
set_option maxRecDepth 100000
set_option maxHeartbeats 16000000
namespace Go.Proofs.YtgnejnampofhoaaGreatDoor
open Go.RowKit Kl
open Go.ChangeMaps (setBlock)
theorem Tryz.infoBo:(Tryz.prog.info? 4).map (fun i=>(i.zero,i.size,i.bytes))=some (some (.bool false),1,1):=by kernel_rfl
theorem Ad7(n:Nat)(hn:n<=200000)(c:Int)(hc:c=(n:Int))(W:World) :
  (Instr.makeSlice 256 (.int .i64 c) (.int .i64 c)).run Tryz.prog W=.ok (.slice (some ⟨W.heap.size,0,none⟩) n n) (W.alloc (.cells (madeCells #[.bool false] n) 4)):=by
 subst hc;obtain⟨i0,hi,hz0,hz1,hz2⟩:=info_parts Tryz.infoBo;have h:=run_make (P:=Tryz.prog) W 256 4 i0 (.bool false) Tryz.underlying256 hi hz0 .i64 .i64 n n (by omega) (by omega) (by rw [hz2];omega) (by omega);rw [hz1,Nat.mul_one]at h;simp only [Int.toNat_natCast]at h;exact h
theorem Aey(W:World)(base n:Nat)(hb:base<=W.heap.size)(hn:n<=200000) :
  (W.alloc (.cells (madeCells #[.bool false] n) 4)).ownsRow base 4 1 (.slice (some ⟨W.heap.size,0,none⟩) n n) n (GF (List.replicate n false)):=by
 have h:=World.ownsRow_lit (w:=W) (base:=base) (e:=4) (size:=1) (madeCells #[.bool false] n) n hb (by unfold maxLen;omega) (by rw [size_madeCells];omega);rw [toList_madeCells_one]at h
 simpa [GF]using h
theorem qz(l:List Bool)(k:Nat)(b:Bool):(GF l).set k (.bool b)=GF (l.set k b):=by simp [GF]
theorem Afm{w:World}{A:Option Addr}{l:List Int}(hr:Ae w A (l.map (Value.int .i64))){j:Nat}(h:j<l.length):∃b o,A=some ⟨b,o,none⟩/\w.cell? ⟨b,o+j,none⟩=some (.int .i64 l[j]):=by
 obtain⟨b,o,e,hc⟩:=hr.ad (by simp;omega);refine⟨b,o,e,?_⟩;rw [hc j (by simpa using h)];simp
theorem UO{s:Sg}{L:List (Sg×Int)}(h:s∈L.map (·.1)):∃e∈L,AI s L=e.2:=by
 unfold AI;rw [List.mem_map]at h;obtain⟨x,hx,rfl⟩:=h
 cases hf:L.find? (fun e=>AN x.1 e.1)with
 | none=>
  rw [List.find?_eq_none]at hf;exact absurd (Hd.2 rfl) (hf x hx)
 | some e=>exact⟨e,List.mem_of_find?_eq_some hf,rfl⟩
structure Fu(V wr:World)(B bm bs nf:Nat)(st:D9):Prop where
 face:CE wr bm st.face
 seen:wr.ownsRow B 4 1 (.slice (some ⟨bs,0,none⟩) nf nf) nf (GF st.seen)
 but:Ax (fun j=>j=bm∨j=bs) V wr
theorem Fu.ext{V wr w':World}{B bm bs nf:Nat}{st:D9}(h:Fu V wr B bm bs nf st)(hx:Ac wr w'):Fu V w' B bm bs nf st:=
 ⟨(hx.block _ (Ajx h.face)).trans h.face,A9 h.seen hx,h.but.ext hx⟩
theorem Fu.put{V wr:World}{B bm bs nf:Nat}{st:D9}(h:Fu V wr B bm bs nf st)(hne:bm≠bs)(r z:Int)(hno:BU r st.face=none) :
  ∃W',(Instr.mapUpdate 237 (.map (some bm)) (.int .i64 r) (.int .i64 z)).run Tryz.prog wr=.ok () W'/\Fu V W' B bm bs nf {st with face:=st.face ++ [(r,z)]}:=by
 obtain⟨W',h1,h2,h3,-⟩:=h.face.put r z hno;refine⟨W',h1,h2,wR h.seen h3 (by simp only [Value.ownBlock,ne_eq,Aj3];exact fun e=>hne e.symm),h.but.grown h3 (fun k e=>by cases e;exact .inl (.inl rfl))⟩
theorem Fu.set{V wr:World}{B bm bs nf:Nat}{st:D9}(h:Fu V wr B bm bs nf st)(hne:bm≠bs)(k:Nat) :
  Fu V (wr.setCell ⟨bs,k,none⟩ (.bool true)) B bm bs nf {st with seen:=st.seen.set k true}:=by
 have h1:=h.seen.stored k (.bool true);rw [qz]at h1;refine⟨?_,h1.1,h.but.grown h1.2 (fun q e=>by cases e;exact .inl (.inr rfl))⟩;exact(h1.2.block bm (Ajx h.face) (by simp only [ne_eq,Aj3];exact hne)).trans h.face
theorem gY{w0 w:World}(hw:Ao w0)(hx:Ac w0 w){r b1 b2:Nat}{L:List (Sg×Int)}{E:List (Pt×Value×Nat)}{R0:List (Pt×List Pt)}(h:Br w0.heap.size w r b1 b2 L E R0){W:List Sg}(Kj:W=L.map (·.1))(hN:Ey W R0)(hW:Oa W)(hgr:∀s∈W,F7 s)
  (hlen:L.length<=100000) (hrl:∀e∈R0,e.2.length<100000) (nf:Nat) (Bn:nf<=100000) (Kv:∀x∈L,-1<=x.2/\x.2<(nf:Int)) {R1:List (Pt×List Pt)} (hR1:R1=R0.map (fun e=>(e.1,CV e.1 e.2))) {C:List (List Sg)} (hC:C=GL W R1) {rg:List Int} (hrg:rg=J5 W C) :
  Calls Tryz.prog 109 #[.pointer (some ⟨r,0,none⟩),.int .i64 (nf:Nat)] w fun e w'=>e=.returned (.tuple #[.bool (Lz L nf C rg),.bool (JL L nf C rg).op])/\Ac w0 w'/\Br w0.heap.size w' r b1 b2 L E R1:=by
 have hmm:=@run_makeMap Tryz.prog;have so:=sort_c hw hx h (yK hW hN hrl);rw [←hR1]at so;have Gg:Ey W R1:=by rw [hR1];exact hN.sorted
 have R9:∀e∈R1,e.2.length<100000:=by intro e he;rw [hR1,List.mem_map]at he;obtain⟨x,hx,rfl⟩:=he;have:=hrl x hx;rw [show (CV x.1 x.2).length=x.2.length from(Su x.1 x.2).length_eq];exact this
 obtain⟨U,Ap,hall⟩:=kU Gg;have hG:NN W U C:=⟨by rw [hC];exact Ap,hall,hW.x.good,hgr,by rw [Kj];simpa using hlen⟩
 have mZ:C.length<=100000:=by have h1:=UM hG.ok.ne;rw [hG.ok.flat]at h1;have h2:=Ju hG.ok.nd hG.ok.sub;have:=hG.len;omega
 have sW:rg.length=C.length:=(by rw [hrg];simp [J5]);have cy:=fun (w1:World) (h1:Ac w0 w1) (k:Br w0.heap.size w1 r b1 b2 L E R1)=>kV hw h1 k (by rw [←Kj];exact Gg) (by rw [←Kj];exact hW) hlen R9;rw [←Kj,←hC]at cy;have rc:=fun (w1:World) (hw1:Ao w1) (k:Br w0.heap.size w1 r b1 b2 L E R1) (A:Option Addr) (cap:Nat) (hA:Li w1 A cap C)=>Afy hw1 k Kj hG hA;rw [←hrg]at rc
 have hcw:∀i (hi:i<C.length),∀s∈C[i],-1<=AI s L/\AI s L<(nf:Int):=by intro i hi s hs;have h1:s∈W:=hG.ok.sub s (by rw [←hG.ok.flat];exact List.mem_flatten.2 ⟨_,Aj0 hi,hs⟩);rw [Kj]at h1;obtain⟨e,he,h2⟩:=UO h1;rw [h2];exact Kv e he
 have gi:=Ajw hcw;clear hcw Kv hR1 hrl R9 Ap hall hC hrg hN hW hgr Kj hx h Gg hG;have HA:=Ajw (show Lz L nf C rg=((GB L (C.zip rg) (Hm nf)).ok && !((GB L (C.zip rg) (Hm nf)).seen.contains false))from rfl);have HO:=Ajw (show (JL L nf C rg).op=(GB L (C.zip rg) (Hm nf)).op from rfl);generalize Lz L nf C rg=vA at *;generalize (JL L nf C rg).op=vO at *;go_enter Tryz.func109,Tryz.ntmps109;(go_wp2_with fail);(with_reducible refine so.mono ?_);rintro e w1 ⟨rfl,hx1,-,GV⟩;(go_wp2_with fail);(with_reducible refine(cy _ hx1 GV).mono ?_);rintro e w2 ⟨A,cap,rfl,Fh,hx2⟩;have BM:=GV.ext hx2;have ZR:=hx1.trans hx2;(go_wp2_with fail);(with_reducible refine(rc _ (hw.ext ZR) BM A cap Fh).mono ?_);rintro e w3 ⟨A',rfl,Bi,hx3⟩;have FR:=BM.ext hx3;have qH:=Fh.ext hx3;have tP:=ZR.trans hx3;clear so cy rc GV BM hx1 hx2 hx3 Fh ZR;have Bh:=(Ac.refl w3).alloc (.map #[] 0);have Hu:CE (w3.alloc (.map #[] 0)) w3.heap.size []:=Ajy w3 (.map #[] 0);obtain⟨W4,hput,Dx,hg4,ZC⟩:=Hu.put (-1) (-1) rfl;have hmk:=Ad7 nf (by omega) (nf:Int) rfl W4;have Hv:Ax (fun j=>j=w3.heap.size) w3 W4:=((Ax.refl _ w3).ext Bh).grown hg4 (fun k e=>by cases e;exact .inl rfl);have Jd:Ac w3 W4:=Hv.toExt (Ac.refl w3) (fun k e=>by subst e;exact Ajz _);have Ov:=(Ac.refl W4).alloc (.cells (madeCells #[.bool false] nf) 4);have own:=Aey W4 w0.heap.size nf (Aj9 tP.size Jd.size) (by omega);have nL:CE (W4.alloc (.cells (madeCells #[.bool false] nf) 4)) w3.heap.size [(-1,-1)]:=(Ov.block _ (Ajx Dx)).trans Dx;have sY:W4.heap.size=w3.heap.size+1:=(by rw [ZC];simp);rw [sY]at own;have nE:=Jd.trans Ov;have Q4:Fu (W4.alloc (.cells (madeCells #[.bool false] nf) 4)) (W4.alloc (.cells (madeCells #[.bool false] nf) 4)) w0.heap.size w3.heap.size (w3.heap.size+1) nf (Hm nf):=⟨nL,own,Ax.refl _ _⟩
 go_upto_region 6 with fail
 clear hmk own nL Dx hg4 hput Hu Bh Hv Ov Jd ZC sY hmm;generalize W4.alloc (.cells (madeCells #[.bool false] nf) 4)=V at *;obtain⟨bm,AD⟩:=Ajv w3.heap.size;rw [←AD]at Q4 ⊢;have O7:w3.heap.size<=bm:=(by omega);clear AD W4;have hl0:(0:Int)<=(C.length:Int):=(by omega);have hne:bm≠bm+1:=(by omega);have JH:=Ajw sW;have Hg:=Ajw FR;have IR:=Ajw qH;have j7:=Ajw Bi;clear sW FR qH Bi
 go_upto_region 8 with fail
 go_loopw [4,5,30] (fun o p i wr=>∃(k:Nat) (st:D9),i=.int .i64 (k:Nat)/\k<=C.length/\o=.bool st.ok/\p=.bool st.op/\st=GB L ((C.zip rg).take k) (Hm nf)/\Fu V wr w0.heap.size bm (bm+1) nf st) (fun _ _ i _=>C.length-(intOf i).toNat)
 case atStart=>exact⟨0,Hm nf,rfl,by omega,rfl,rfl,rfl,Q4⟩
 case round=>
  obtain⟨k,st,rfl,hk,rfl,rfl,hst,hA⟩:=hrel;have BQ:Ac w3 wr:=hA.but.toExt nE (fun q e=>by rcases e with e|e<;>omega);have HST:=Ajw hst;clear hst;by_cases hlt:k<C.length
  ·obtain⟨bA,oA,A2,c2,rfl,hcell,ID,hc1,hc2⟩:=IR.out.row k hlt;replace hcell:=BQ.cellS hcell;obtain⟨bB,oB,rfl,hrc⟩:=Afm (j7.out.ext BQ) (show k<rg.length by rw [JH.out];exact hlt);obtain⟨rr,Jt⟩:∃rr,rr=rg[k]'(by rw [JH.out];exact hlt):=⟨_,rfl⟩;rw [←Jt]at hrc;have hk0:(0:Int)<=(k:Int):=(by omega);have Dn:(k:Int)<(C.length:Int):=(by omega);obtain⟨c,hcc⟩:=Ajv (C[k]);have hz:=gi.out k hlt
   have hstep:GB L ((C.zip rg).take (k+1)) (Hm nf)=Hl L rr st c:=by rw [Aj2 (show k<(C.zip rg).length by rw [List.length_zip,JH.out];omega),nh,←HST.out,List.getElem_zip,←Jt,←hcc]
   rw [←hcc]at hcell ID hc1 hz;have SV:=Ajw hstep;have HZ:=Ajw hz;have hcl:(0:Int)<=(c.length:Int):=(by omega);have hc0:Hl L rr st (c.take 0)=st:=rfl;have SH:=Ajw hc0;have Dp:st.seen.length=nf:=(by rw [HST.out,gX];simp [Hm]);have Ip:=Ajw Dp;clear hcc Jt hstep hz hc0 Dp
   go_upto_region 11 with fail
   go_loopw [4,5,40] (fun o p i wi=>∃(j:Nat) (sj:D9),i=.int .i64 (j:Nat)/\j<=c.length/\o=.bool sj.ok/\p=.bool sj.op/\sj=Hl L rr st (c.take j)/\Fu V wi w0.heap.size bm (bm+1) nf sj) (fun _ _ i _=>c.length-(intOf i).toNat)
   case atStart=>exact⟨0,st,rfl,by omega,rfl,rfl,SH.out.symm,hA⟩
   case round=>
    obtain⟨j,sj,rfl,hj,rfl,rfl,hsj,TF⟩:=hrel;have Wk:=Ajw hsj;clear hsj;by_cases AP:j<c.length
    ·have Ue:Ac w3 wr:=TF.but.toExt nE (fun q e=>by rcases e with e|e<;>omega);obtain⟨b',o',rfl,f1,f2,f3,f4⟩:=J4 (ID.ext Ue) AP;have hzs:=HZ.out c[j] (Aj0 AP);have Ug:Hl L rr st (c.take (j+1))=Du rr (AI c[j] L) sj:=(by rw [Aj2 AP,ng,←Wk.out]);have Dp:sj.seen.length=nf:=(by rw [Wk.out,gW];exact Ip.out);obtain⟨s,hs⟩:=Ajv (c[j]);rw [←hs]at f1 f2 f3 f4 hzs Ug;have hj0:(0:Int)<=(j:Int):=(by omega);have Ku:(j:Int)<(c.length:Int):=(by omega);have AO:=Ajy wr (.cells #[S (R s.a.x),S (R s.a.y),S (R s.b.x),S (R s.b.y)] 175);have E6:=(Ac.refl wr).alloc (.cells #[S (R s.a.x),S (R s.a.y),S (R s.b.x),S (R s.b.y)] 175);have XD:=TF.ext E6;have Mj:=Hg.out.ext (Ue.trans E6);clear hs TF hA BQ
     go_upto_region 13 with fail
     unfold S at AO XD Mj;generalize (wr.alloc (.cells #[.string ⟨(R s.a.x).toArray⟩,.string ⟨(R s.a.y).toArray⟩,.string ⟨(R s.b.x).toArray⟩,.string ⟨(R s.b.y).toArray⟩] 175))=W6 at *;obtain⟨bx,LV⟩:=Ajv wr.heap.size;rw [←LV]at AO ⊢;clear LV f1 f2 f3 f4 E6;have q1:∀q:Af W6,q.w.cell? ⟨r,0,none⟩=some (.map (some b1)):=Af.cell (Aa Mj.cell rfl);have q2:∀q:Af W6,q.w.cell? ⟨bx,0,none⟩=some (S (R s.a.x)):=Af.cell (Aa AO rfl);have q3:∀q:Af W6,q.w.cell? ⟨bx,1,none⟩=some (S (R s.a.y)):=Af.cell (Aa AO rfl);have q4:∀q:Af W6,q.w.cell? ⟨bx,2,none⟩=some (S (R s.b.x)):=Af.cell (Aa AO rfl);have q5:∀q:Af W6,q.w.cell? ⟨bx,3,none⟩=some (S (R s.b.y)):=Af.cell (Aa AO rfl);have q6:=fun (q:Af W6)=>M7 s L (Mj.ext q.h).left;obtain⟨z,hz⟩:=Ajv (AI s L);rw [←hz]at q6 hzs Ug;unfold AC at q6;have HN:=Ajw Ug;clear hz Ug AO Mj;refine CW (by kernel_rfl) (by kernel_rfl) ?_
     repeat (go_big_quiet_step (fail))
     refine wpQuiet_nil ?_;rintro W7 ⟨q,hq⟩;have AL:Ac W6 W7:=hq▸q.h;clear hq q;have Ix:=XD.ext AL;have lk:=Sq rr sj.face Ix.face;clear q1 q2 q3 q4 q5 q6 XD AL
     cases hl:BU rr sj.face with
     | some old=>
      rw [hl]at lk;simp only [Option.getD_some,Option.isSome_some]at lk;have he:Du rr z sj=⟨sj.ok&&decide (old=z),sj.op,sj.face,sj.seen⟩:=(by unfold Du;rw [hl]);have GM:Fu V W7 w0.heap.size bm (bm+1) nf (Du rr z sj):=(by rw [he];exact⟨Ix.face,Ix.seen,Ix.but⟩);have HE:=Ajw he;clear he Ix
      cases Ap:sj.ok
      ·have G7:=Ajw Ap;go_wp2;go_roundw
       case rel=>exact⟨j+1,Du rr z sj,by go_num,AP,by rw [HE.out,G7.out];rfl,by rw [HE.out],HN.out.symm,GM⟩
       case measure=>simp [intOf];omega
      ·have G7:=Ajw Ap;by_cases U7:old=z
       ·have HD:=Ajw (decide_eq_true U7);subst U7;go_wp2;go_roundw
        case rel=>exact⟨j+1,Du rr old sj,by go_num,AP,by rw [HE.out,G7.out,HD.out];rfl,by rw [HE.out],HN.out.symm,GM⟩
        case measure=>simp [intOf];omega
       ·have HD:=Ajw (decide_eq_false U7);have hb:(old == z)=false:=beq_false_of_ne U7;go_wp2;go_roundw
        case rel=>exact⟨j+1,Du rr z sj,by go_num,AP,by rw [HE.out,G7.out,HD.out];rfl,by rw [HE.out],HN.out.symm,GM⟩
        case measure=>simp [intOf];omega
     | none=>
      rw [hl]at lk;simp only [Option.getD_none,Option.isSome_none]at lk;by_cases hz0:z<0
      ·have he:Du rr z sj=⟨false,true,sj.face ++ [(rr,z)],sj.seen⟩:=(by unfold Du;rw [hl];simp only;rw [if_pos hz0]);obtain⟨W8,hput,GM⟩:=Ix.put hne rr z hl;have Q5:Fu V W8 w0.heap.size bm (bm+1) nf (Du rr z sj):=(by rw [he];exact⟨GM.face,GM.seen,GM.but⟩);have HE:=Ajw he;clear he Ix GM;go_wp2;go_roundw
       case rel=>exact⟨j+1,Du rr z sj,by go_num,AP,by rw [HE.out],by rw [HE.out],HN.out.symm,Q5⟩
       case measure=>simp [intOf];omega
      ·obtain⟨m,rfl⟩:∃m:Nat,z=(m:Int):=⟨z.toNat,by omega⟩;have hm:m<nf:=(by omega);obtain⟨sv,ZF⟩:=Ajv (sj.seen.getD m false)
       have he:Du rr (m:Int) sj=⟨sj.ok && !sv,sj.op,sj.face ++ [(rr,(m:Int))],sj.seen.set m true⟩:=by unfold Du;rw [hl];simp only;rw [if_neg hz0,ZF];rfl
       have hce:W7.cell? ⟨bm+1,m,none⟩=some (.bool sv):=by
        rw [Ix.seen.cellAt m (by omega),ZF];unfold GF;rw [List.getElem?_map,List.getD_eq_getElem?_getD,Aj4 (by omega)]
        rfl
       have H6:=Ix.seen.frozenAt m;obtain⟨W8,hput,GM⟩:=(Ix.set hne m).put hne rr (m:Int) hl;have Q5:Fu V W8 w0.heap.size bm (bm+1) nf (Du rr (m:Int) sj):=(by rw [he];exact⟨GM.face,GM.seen,GM.but⟩);have HE:=Ajw he;have hm0:(0:Int)<=(m:Int):=(by omega);have hm1:(m:Int)<(nf:Int):=(by omega);clear he Ix GM ZF
       cases Ap:sj.ok
       ·have G7:=Ajw Ap;go_wp2;go_roundw
        case rel=>exact⟨j+1,Du rr (m:Int) sj,by go_num,AP,by rw [HE.out,G7.out];rfl,by rw [HE.out],HN.out.symm,Q5⟩
        case measure=>simp [intOf];omega
       ·have G7:=Ajw Ap
        cases sv
        ·go_wp2;go_roundw
         case rel=>exact⟨j+1,Du rr (m:Int) sj,by go_num,AP,by rw [HE.out,G7.out];rfl,by rw [HE.out],HN.out.symm,Q5⟩
         case measure=>simp [intOf];omega
        ·go_wp2;go_roundw
         case rel=>exact⟨j+1,Du rr (m:Int) sj,by go_num,AP,by rw [HE.out,G7.out];rfl,by rw [HE.out],HN.out.symm,Q5⟩
         case measure=>simp [intOf];omega
    ·have Jr:j=c.length:=(by omega);subst Jr;have Cg:sj=GB L ((C.zip rg).take (k+1)) (Hm nf):=(by rw [SV.out,Wk.out,List.take_length]);have HF:=Ajw Cg;clear Cg;have Zk:(c.length:Int)<=(c.length:Int):=(by omega);go_wp2;go_roundw
     case rel=>exact⟨k+1,sj,by go_num,hlt,rfl,rfl,HF.out,TF⟩
     case measure=>simp [intOf];omega
  ·have CP:k=C.length:=(by omega);subst CP;have Cg:st=GB L (C.zip rg) (Hm nf):=(by rw [HST.out,Aj7 (by rw [List.length_zip];omega)]);have HF:=Ajw Cg;obtain⟨A3,AhA,Jm,sU,mP,mQ⟩:=Ae.of_own' (by omega) hA.seen;simp only [Value.slice.injEq,true_and]at Jm;obtain⟨rfl,rfl⟩:=Jm;have Dp:st.seen.length=nf:=(by rw [HST.out,gX];simp [Hm]);have cb:=vp st.seen false (some ⟨bm+1,0,none⟩) nf wr sU (by omega) mQ;rw [Dp]at cb;have hv:vA=(st.ok && !(st.seen.contains false)):=(by rw [HA.out,←HF.out]);have ho:vO=st.op:=(by rw [HO.out,←HF.out]);have HV:=Ajw hv;subst ho;obtain⟨cv,hcv⟩:=Ajv (st.seen.contains false);rw [←hcv]at cb;have gh:=Ajw hcv;have oQ:=tP.trans BQ;clear Cg Dp hv hcv hA sU
   cases Ap:st.ok
   ·have G7:=Ajw Ap;obtain rfl:vA=false:=(by rw [HV.out,G7.out];rfl);go_wp2;go_ret2;exact⟨rfl,oQ,Hg.out.ext BQ⟩
   ·have G7:=Ajw Ap;obtain rfl:vA = !cv:=(by rw [HV.out,G7.out,←gh.out];rfl);(go_wp2_with fail);(with_reducible refine cb.mono ?_);rintro e w9 ⟨rfl,Dz⟩;go_wp2;go_ret2;exact⟨rfl,oQ.trans Dz,Hg.out.ext (BQ.trans Dz)⟩
theorem nl{w0 w:World}(hw:Ao w0)(hx:Ac w0 w){r b1 b2:Nat}{L:List (Sg×Int)}{E:List (Pt×Value×Nat)}{R0:List (Pt×List Pt)}(h:Br w0.heap.size w r b1 b2 L E R0){W:List Sg}(Kj:W=L.map (·.1))(hN:Ey W R0)(hW:Oa W)(hgr:∀s∈W,F7 s)
  (hlen:L.length<=100000) (hrl:∀e∈R0,e.2.length<100000) (nf:Nat) (Bn:nf<=100000) (Kv:∀x∈L,-1<=x.2/\x.2<(nf:Int)) {R1:List (Pt×List Pt)} (hR1:R1=R0.map (fun e=>(e.1,CV e.1 e.2))) {C:List (List Sg)} (hC:C=GL W R1) {rg:List Int} (hrg:rg=J5 W C) :
  Calls Tryz.prog 109 #[.pointer (some ⟨r,0,none⟩),.int .i64 (nf:Nat)] w fun e w'=>e=.returned (.tuple #[.bool (Lz L nf C rg),.bool (JL L nf C rg).op])/\Ac w0 w':=(gY hw hx h Kj hN hW hgr hlen hrl nf Bn Kv hR1 hC hrg).mono fun _ _ k=>⟨k.1,k.2.1⟩
end Go.Proofs.YtgnejnampofhoaaGreatDoor
namespace Go.Proofs.YtgnejnampofhoaaGreatDoor
open Go.RowKit Kl
theorem Aaa(l:List (Bs×Bs))(i:Nat):flat (l.take i)=(flat l).take (i*2):=by
 induction l generalizing i with
 | nil=>simp [flat]
 | cons e l ih=>
  cases i with
  | zero=>simp [flat]
  | succ i=>have e0:∀l,flat (e::l)=S e.1::S e.2::flat l:=fun _=>rfl;rw [List.take_succ_cons,e0,e0,ih];have e1:(i+1)*2=i*2+1+1:=(by omega);rw [e1];simp
theorem AeQ(l:List Pt)(i:Nat):Ai (l.take i)=(Ai l).take i:=by unfold Ai;rw [List.map_take]
theorem vr(l:List Pt)(i:Nat)(hi:i<=l.length)(p:Pt)(A:Option Addr)(c:Nat)(w:World)(hr:Ae w A (flat (Ai l)))(hc:l.length<=c)(hcm:c<=9223372036854775807) :
  Calls Tryz.prog 103 #[.slice A i c,Ak p] w (By ((l.take i).any (Ay p)) w):=by
 have:=contains_c (l.take i) p A c w (by rw [AeQ,Aaa];exact hr.take _) (by rw [List.length_take];omega) hcm;rw [List.length_take,Nat.min_eq_left hi]at this;exact this
def aW(m:MapZ):List Sg:=(AG m.pts m.eds).map (·.1)
def aV(m:MapZ):List (Pt×List Pt):=(BD m.pts m.eds).map (fun e=>(e.1,CV e.1 e.2))
def NB(m:MapZ):List (List Sg):=GL (aW m) (aV m)
def Pd(m:MapZ):List Int:=J5 (aW m) (NB m)
def Xe(m:MapZ):Int:=if Qv (BD m.pts m.eds) m.pts=true then 25 else if Lz (AG m.pts m.eds) m.nf (NB m) (Pd m)=true then 0 else 14
theorem Ae8(m:MapZ)(hgr:∀p∈m.pts,Cz p){k:Nat}(hk:0<k)(hk2:k<=1)(hz:∀p∈m.pts,Az k p)(A B F:Option Addr)(c d g:Nat)(An:Bj m c d g)(w:World)(hw:Ao w)(hA:Ae w A (flat (Ai m.pts)))(hB:Ae w B (Au m.eds))(r:Int)
  (h0:L8 m=true→r=4) (h1:L8 m=false→Da [] m.pts≠0→r=Da [] m.pts)
  (h2:L8 m=false→Da [] m.pts=0→Dk m.pts.length m.nf [] m.eds≠0→r=Dk m.pts.length m.nf [] m.eds) (h3:L8 m=false→Da [] m.pts=0→Dk m.pts.length m.nf [] m.eds=0→DG m.pts [] m.eds≠0→r=26)
  (h4:L8 m=false→Da [] m.pts=0→Dk m.pts.length m.nf [] m.eds=0→DG m.pts [] m.eds=0→r=Xe m) :
  Calls Tryz.prog 48 #[As A B F m c d g] w (AK r w):=by
 have HA:=Ajw hA;have HB:=Ajw hB;have HZ:=Ajw hz;have H0:=Ajw h0;have H1:=Ajw h1;have H2:=Ajw h2;have H3:=Ajw h3;have H4:=Ajw h4;have SK:=Ajw hgr;have HC:=Ajw An;obtain⟨c1,c2,d1,d2,g1,g2⟩:=An;have HL:=Ajw (show L8 m=(decide (400<m.pts.length)||(decide (1200<m.eds.length)||decide (800<m.nf)))from rfl);have hM:=Ajy w (.cells #[.slice A m.pts.length c,.slice B m.eds.length d,.slice F m.nf g] 35);have hE:=(Ac.refl w).alloc (.cells #[.slice A m.pts.length c,.slice B m.eds.length d,.slice F m.nf g] 35);unfold As;clear hA hB hz h0 h1 h2 h3 h4 hgr;go_enter Tryz.func48,Tryz.ntmps48
 go_upto_region 1 with fail
 generalize w.alloc (.cells #[.slice A m.pts.length c,.slice B m.eds.length d,.slice F m.nf g] 35)=V at *;obtain⟨bm,AD⟩:=Ajv w.heap.size;rw [←AD]at hM ⊢;have hle:w.heap.size<=bm:=(by omega);clear AD;have m1:=Aa (o:=0) hM rfl;have m2:=Aa (o:=1) hM rfl;have m3:=Aa (o:=2) hM rfl;by_cases n1:(400:Int)<(m.pts.length:Int)
 ·have dd:decide ((400:Int)<(m.pts.length:Int))=true:=decide_eq_true n1;have HH:=Ajw (show r=4 from H0.out (by rw [HL.out,decide_eq_true (by omega)];rfl));go_wp2;go_ret;exact⟨by rw [HH.out];rfl,hE⟩
 have kX:decide ((400:Int)<(m.pts.length:Int))=false:=decide_eq_false n1;by_cases n2:(1200:Int)<(m.eds.length:Int)
 ·have dd:decide ((1200:Int)<(m.eds.length:Int))=true:=decide_eq_true n2;have HH:=Ajw (show r=4 from H0.out (by rw [HL.out,decide_eq_true (p:=1200<m.eds.length) (by omega)];simp));clear n1;go_wp2;go_ret;exact⟨by rw [HH.out];rfl,hE⟩
 have Xo:decide ((1200:Int)<(m.eds.length:Int))=false:=decide_eq_false n2;by_cases n3:(800:Int)<(m.nf:Int)
 ·have dd:decide ((800:Int)<(m.nf:Int))=true:=decide_eq_true n3;have HH:=Ajw (show r=4 from H0.out (by rw [HL.out,decide_eq_true (p:=800<m.nf) (by omega)];simp));clear n1 n2;go_wp2;go_ret;exact⟨by rw [HH.out];rfl,hE⟩
 have kY:decide ((800:Int)<(m.nf:Int))=false:=decide_eq_false n3;have HN:=Ajw (show L8 m=false by rw [HL.out,decide_eq_false (by omega),decide_eq_false (by omega),decide_eq_false (by omega)];rfl);have AiA:m.pts.length<=400:=(by omega);have AaZ:m.eds.length<=1200:=(by omega);have Aio:m.nf<=800:=(by omega);clear n1 n2 n3 HL H0
 go_upto_block 0 with fail
 clear kX Xo kY m1 m2 m3
 go_cut [] (fun wx=>Da [] m.pts=0/\Ac V wx)
 case first=>
  (go_wp2_with fail)
  go_loopw [33] (fun i wr=>∃j:Nat,i=.int .i64 (j:Nat)/\j<=m.pts.length/\Da (m.pts.take j) (m.pts.drop j)=Da [] m.pts/\Ac V wr) (fun i _=>m.pts.length-(intOf i).toNat)
  case atStart=>exact⟨0,rfl,by omega,by simp,Ac.refl _⟩
  case round=>
   obtain⟨j,rfl,hj,Ap,Ag⟩:=hrel;have HO:=Ajw Ap;clear Ap;by_cases hlt:j<m.pts.length
   ·obtain⟨b,o,rfl,hg1,hg2⟩:=BW ((HA.out.ext hE).ext Ag) hlt;have hz:=HZ.out m.pts[j] (Aj0 hlt);obtain⟨p,hp⟩:=Ajv (m.pts[j]);have HP:=Ajw hp;have HS:=Ajw (ue hlt);rw [←hp]at hg1 hg2 hz;have hj0:(0:Int)<=(j:Int):=(by omega);have AP:(j:Int)<(m.pts.length:Int):=(by omega);have hjc:(j:Int)<=(c:Int):=(by omega);have Aw:=Ajy wr (.cells #[S (R p.x),S (R p.y)] 27);have hx1:=Ag.alloc (.cells #[S (R p.x),S (R p.y)] 27);have ck:=MO (R p.x) (R p.y) true (by simp only [true_iff];exact⟨KO hz.x hk (by omega),KO hz.y hk (by omega)⟩) (P0 hz.x hk (by omega)) (P0 hz.y hk (by omega));rw [GI]at ck;clear hp hz
    go_upto_region 6 with fail
    generalize wr.alloc (.cells #[S (R p.x),S (R p.y)] 27)=V1 at *;obtain⟨bp,QV⟩:=Ajv wr.heap.size;rw [←QV]at Aw ⊢;clear QV hg1 hg2;have k1:=Aa (o:=0) Aw rfl;have k2:=Aa (o:=1) Aw rfl;(go_wp2_with fail);(with_reducible refine(ck _ (hw.ext (hE.trans hx1))).mono ?_);rintro e w2 ⟨rfl,hx2⟩;have C7:=(hx2.block _ (Ajx Aw)).trans Aw;replace hx2:=hx1.trans hx2;have hw2:=hw.ext (hE.trans hx2);have EC:=(hx2.block _ (Ajx hM)).trans hM;have f1:∀q:Af w2,q.w.cell? ⟨bp,0,none⟩=some (S (R p.x)):=Af.cell (Aa C7 rfl);have f2:∀q:Af w2,q.w.cell? ⟨bp,1,none⟩=some (S (R p.y)):=Af.cell (Aa C7 rfl);have f3:∀q:Af w2,q.w.cell? ⟨bm,0,none⟩=some (.slice (some ⟨b,o,none⟩) m.pts.length c):=Af.cell (Aa EC rfl);have ct:=fun q:Af w2=>vr m.pts j hj p (some ⟨b,o,none⟩) c q.w ((HA.out.ext (hE.trans hx2)).ext q.h) c1 c2;unfold Ak at ct;obtain⟨du,Jl⟩:=Ajv ((m.pts.take j).any (Ay p));rw [←Jl]at ct;have HD:=Ajw Jl;clear Jl k1 k2 ck Aw C7 EC hx1 Ag;(go_wp2_with fail);refine CW (by kernel_rfl) (by kernel_rfl) ?_
    repeat (go_big_quiet_step (with_reducible refine Xv (ct _)))
    refine wpQuiet_nil ?_;rintro _ ⟨q,rfl⟩;have hxq:=hx2.trans q.h;have HQ:=Ajw hxq
    cases du
    ·have HH:=Ajw (show Da (m.pts.take (j+1)) (m.pts.drop (j+1))=Da [] m.pts by
      rw [←HO.out,HS.out,←HP.out,←HD.out];rfl)
     go_wp2;go_roundw
     case rel=>exact⟨j+1,by go_num,hlt,HH.out,HQ.out⟩
     case measure=>simp [intOf];omega
    ·have HH:=Ajw (show Da [] m.pts=9 by rw [←HO.out,HS.out,←HP.out,←HD.out];rfl);have HR:=Ajw (show r=9 by rw [←HH.out];exact H1.out HN.out (by rw [HH.out];omega));go_wp2;go_ret;exact⟨by rw [HR.out];rfl,hE.trans HQ.out⟩
   ·have hle:(m.pts.length:Int)<=(j:Int):=(by omega);have HH:=Ajw (show Da [] m.pts=0 by rw [←HO.out,List.drop_eq_nil_of_le (by omega)];unfold Da;rfl);go_wp2;go_meet;exact⟨HH.out,Ag⟩
 case rest=>
  obtain⟨hc1,hx1⟩:=hcut;have eE:=Ajw (fun h=>H2.out HN.out hc1 h);have VJ:=Ajw hc1;have fN:=Ajw hx1;have Kh:=(hx1.block _ (Ajx hM)).trans hM;have m1:=Aa (o:=1) Kh rfl;clear hc1 H1 hx1
  go_upto_block 3 with fail
  clear m1
  go_cut [] (fun wx=>Dk m.pts.length m.nf [] m.eds=0/\Ac V wx)
  case first=>
   (go_wp2_with fail)
   go_loopw [53] (fun i wr=>∃j:Nat,i=.int .i64 (j:Nat)/\j<=m.eds.length/\Dk m.pts.length m.nf (m.eds.take j) (m.eds.drop j)=Dk m.pts.length m.nf [] m.eds/\Ac V wr) (fun i _=>m.eds.length-(intOf i).toNat)
   case atStart=>exact⟨0,rfl,by omega,by simp,fN.out⟩
   case round=>
    obtain⟨j,rfl,hj,Ap,Ag⟩:=hrel;have HO:=Ajw Ap;clear Ap;by_cases hlt:j<m.eds.length
    ·have hj0:(0:Int)<=(j:Int):=(by omega);have AP:(j:Int)<(m.eds.length:Int):=(by omega);have HS:=Ajw (uf (np:=m.pts.length) (nf:=m.nf) hlt);have ce:=tj m A B F c d g HC.out j hlt wr (HB.out.ext (hE.trans Ag));obtain⟨z,hz⟩:=Ajv (Jb m.pts.length m.nf (m.eds.take j) m.eds[j]);rw [←hz]at ce;have fP:=Ajw hz;unfold As at ce;have Ep:=(Ag.block _ (Ajx hM)).trans hM;have m1:=Aa (o:=0) Ep rfl;have m2:=Aa (o:=1) Ep rfl;have m3:=Aa (o:=2) Ep rfl;clear hz Ep;(go_wp2_with fail);(with_reducible refine ce.mono ?_);rintro e w2 ⟨rfl,hx2⟩;have HX:=Ajw (Ag.trans hx2);clear m1 m2 m3 hx2 ce;by_cases hz0:z=0
     ·have HH:=Ajw (show Dk m.pts.length m.nf (m.eds.take (j+1)) (m.eds.drop (j+1))=Dk m.pts.length m.nf [] m.eds by
       rw [←HO.out,HS.out,←fP.out,if_neg (by omega)])
      subst hz0;go_wp2;go_roundw
      case rel=>exact⟨j+1,by go_num,hlt,HH.out,HX.out⟩
      case measure=>simp [intOf];omega
     ·have HH:=Ajw (show Dk m.pts.length m.nf [] m.eds=z by rw [←HO.out,HS.out,←fP.out,if_pos (by omega)]);have HR:=Ajw (show r=z by rw [←HH.out];exact eE.out (by rw [HH.out];exact hz0));have dd:(z == 0)=false:=(by rw [beq_eq_false_iff_ne];exact hz0);have Xo:(z != 0)=true:=(by rw [bne_iff_ne];exact hz0);clear hz0;go_wp2;go_ret;exact⟨by rw [HR.out];rfl,hE.trans HX.out⟩
    ·have hle:(m.eds.length:Int)<=(j:Int):=(by omega);have HH:=Ajw (show Dk m.pts.length m.nf [] m.eds=0 by rw [←HO.out,List.drop_eq_nil_of_le (by omega)];unfold Dk;rfl);go_wp2;go_meet;exact⟨HH.out,Ag⟩
  case rest=>
   obtain⟨hc2,hx1⟩:=hcut;have eF:=Ajw (fun h=>H3.out HN.out VJ.out hc2 h);have PK:=Ajw hc2;have kx:=Ajw hx1;have Kh:=(hx1.block _ (Ajx hM)).trans hM;have m1:=Aa (o:=1) Kh rfl;clear hc2 eE fN hx1
   go_upto_region 18 with fail
   go_upto_block 5 with fail
   go_cut [] (fun wx=>DG m.pts [] m.eds=0/\Ac V wx)
   case first=>
    (go_wp2_with fail)
    go_loopw [66] (fun i wr=>∃j:Nat,i=.int .i64 (j:Nat)/\j<=m.eds.length/\DG m.pts (m.eds.take j) (m.eds.drop j)=DG m.pts [] m.eds/\Ac V wr) (fun i _=>m.eds.length-(intOf i).toNat)
    case atStart=>exact⟨0,rfl,by omega,by simp,kx.out⟩
    case round=>
     obtain⟨j,rfl,hj,Ap,Ag⟩:=hrel;have HO:=Ajw Ap;clear Ap;by_cases hlt:j<m.eds.length
     ·have hj0:(0:Int)<=(j:Int):=(by omega);have AP:(j:Int)<(m.eds.length:Int):=(by omega);have hjd:(j:Int)<=(d:Int):=(by omega);have HS:=Ajw (ug (pts:=m.pts) hlt);obtain⟨b,o,rfl,hg1,hg2,hg3,hg4⟩:=KV ((HB.out.ext hE).ext Ag) hlt;have hck:=Qk (Og (l:=m.eds) PK.out j hlt);obtain⟨e,he⟩:=Ajv (m.eds[j]);rw [←he]at hg1 hg2 hg3 hg4 hck;have eM:=Ajw he;obtain⟨ef,Np⟩:∃n:Nat,e.f=(n:Int):=⟨e.f.toNat,by omega⟩;obtain⟨et,Nq⟩:∃n:Nat,e.t=(n:Int):=⟨e.t.toNat,by omega⟩;have OA:ef<m.pts.length:=(by omega);have OB:et<m.pts.length:=(by omega);have eK:=Ajw (And.intro Np Nq);rw [Np]at hg1;rw [Nq]at hg2;obtain⟨ba,oa,rfl,ha1,ha2⟩:=BW ((HA.out.ext hE).ext Ag) OA;obtain⟨b2,o2,H5,hb1,hb2⟩:=BW ((HA.out.ext hE).ext Ag) OB;obtain⟨rfl,rfl⟩:ba=b2/\oa=o2:=(by simpa using H5);have OT:=HZ.out m.pts[ef] (Aj0 OA);have hzb:=HZ.out m.pts[et] (Aj0 OB);obtain⟨pa,Fl⟩:=Ajv (m.pts[ef]);obtain⟨pb,OL⟩:=Ajv (m.pts[et]);rw [←Fl]at ha1 ha2 OT;rw [←OL]at hb1 hb2 hzb;have Ej:=Ajw (And.intro Fl OL);have f0:(0:Int)<=(ef:Int):=(by omega);have f1:(ef:Int)<(m.pts.length:Int):=(by omega);have f2:(0:Int)<=(et:Int):=(by omega);have f3:(et:Int)<(m.pts.length:Int):=(by omega);have Ep:=(Ag.block _ (Ajx hM)).trans hM;have m1:=Aa (o:=1) Ep rfl;have Aw:=Ajy wr (.cells #[.int .i64 (ef:Nat),.int .i64 (et:Nat),.int .i64 e.l,.int .i64 e.r] 118);have hx1:=Ag.alloc (.cells #[.int .i64 (ef:Nat),.int .i64 (et:Nat),.int .i64 e.l,.int .i64 e.r] 118);have hx0:=(Ac.refl wr).alloc (.cells #[.int .i64 (ef:Nat),.int .i64 (et:Nat),.int .i64 e.l,.int .i64 e.r] 118);replace ha1:=hx0.cellS ha1;replace ha2:=hx0.cellS ha2;replace hb1:=hx0.cellS hb1;replace hb2:=hx0.cellS hb2;clear hck he Np Nq H5 Fl OL
      go_upto_region 21 with fail
      generalize wr.alloc (.cells #[.int .i64 (ef:Nat),.int .i64 (et:Nat),.int .i64 e.l,.int .i64 e.r] 118)=V1 at *;obtain⟨bp,QV⟩:=Ajv wr.heap.size;rw [←QV]at Aw ⊢;clear QV hg1 hg2 hg3 hg4 Ag Ep m1 hx0;have Bt:=(hx1.block _ (Ajx hM)).trans hM;have m1:=Aa (o:=1) Bt rfl
      go_upto_region 22 with fail
      clear m1
      go_loopw [76] (fun i wr=>∃jj:Nat,i=.int .i64 (jj:Nat)/\jj<=j/\(∀f∈m.eds.take jj,Oi m.pts e f=false)/\Ac V1 wr) (fun i _=>j-(intOf i).toNat)
      case atStart=>exact⟨0,rfl,by omega,by simp,Ac.refl _⟩
      case round=>
       obtain⟨jj,rfl,Jr,Ap,Ag⟩:=hrel;have SL:=Ajw Ap;clear Ap;by_cases hlt2:jj<j
       ·have jj0:(0:Int)<=(jj:Int):=(by omega);have jjl:(jj:Int)<(j:Int):=(by omega);have Js:jj<m.eds.length:=(by omega);obtain⟨b',o',Bf,hg1,hg2,hg3,hg4⟩:=KV (((HB.out.ext hE).ext hx1).ext Ag) Js;obtain⟨rfl,rfl⟩:b=b'/\o=o':=(by simpa using Bf);have hck:=Qk (Og (l:=m.eds) PK.out jj Js);obtain⟨f,hf⟩:=Ajv (m.eds[jj]);rw [←hf]at hg1 hg2 hg3 hg4 hck;have eO:=Ajw hf;obtain⟨ff,FO⟩:∃n:Nat,f.f=(n:Int):=⟨f.f.toNat,by omega⟩;obtain⟨ft,YW⟩:∃n:Nat,f.t=(n:Int):=⟨f.t.toNat,by omega⟩;have YS:ff<m.pts.length:=(by omega);have YX:ft<m.pts.length:=(by omega);have eN:=Ajw (And.intro FO YW);rw [FO]at hg1;rw [YW]at hg2;obtain⟨b3,o3,Jm,hc1,hc2⟩:=BW ((HA.out.ext hE).ext hx1) YS;obtain⟨b4,o4,qO,YL,Gp⟩:=BW ((HA.out.ext hE).ext hx1) YX;obtain⟨rfl,rfl⟩:ba=b3/\oa=o3:=(by simpa using Jm);obtain⟨rfl,rfl⟩:ba=b4/\oa=o4:=(by simpa using qO);have ZX:=HZ.out m.pts[ff] (Aj0 YS);have hzd:=HZ.out m.pts[ft] (Aj0 YX);obtain⟨pc,Gv⟩:=Ajv (m.pts[ff]);obtain⟨pd,Z3⟩:=Ajv (m.pts[ft]);rw [←Gv]at hc1 hc2 ZX;rw [←Z3]at YL Gp hzd;have fH:=Ajw (And.intro Gv Z3);have f4:(0:Int)<=(ff:Int):=(by omega);have f5:(ff:Int)<(m.pts.length:Int):=(by omega);have f6:(0:Int)<=(ft:Int):=(by omega);have f7:(ft:Int)<(m.pts.length:Int):=(by omega);have C7:=Ajy wr (.cells #[.int .i64 (ff:Nat),.int .i64 (ft:Nat),.int .i64 f.l,.int .i64 f.r] 118);have hx2:=Ag.alloc (.cells #[.int .i64 (ff:Nat),.int .i64 (ft:Nat),.int .i64 f.l,.int .i64 f.r] 118);clear hck hf FO YW Jm qO Gv Z3 Bf
        go_upto_region 24 with fail
        generalize wr.alloc (.cells #[.int .i64 (ff:Nat),.int .i64 (ft:Nat),.int .i64 f.l,.int .i64 f.r] 118)=V2 at *;obtain⟨bq,QW⟩:=Ajv wr.heap.size;rw [←QW]at C7 ⊢;have hx3:=hx1.trans hx2;have EC:=(hx2.block _ (Ajx Bt)).trans Bt;have YF:=(hx2.block _ (Ajx Aw)).trans Aw;have hwV:=hw.ext (hE.trans hx3);have q1:∀q:Af V2,q.w.cell? ⟨bm,0,none⟩=some (.slice (some ⟨ba,oa,none⟩) m.pts.length c):=Af.cell (Aa EC rfl);have q2:∀q:Af V2,q.w.cell? ⟨bp,0,none⟩=some (.int .i64 (ef:Nat)):=Af.cell (Aa YF rfl);have q3:∀q:Af V2,q.w.cell? ⟨bp,1,none⟩=some (.int .i64 (et:Nat)):=Af.cell (Aa YF rfl);have q4:∀q:Af V2,q.w.cell? ⟨bq,0,none⟩=some (.int .i64 (ff:Nat)):=Af.cell (Aa C7 rfl);have q5:∀q:Af V2,q.w.cell? ⟨bq,1,none⟩=some (.int .i64 (ft:Nat)):=Af.cell (Aa C7 rfl);have a1:∀q:Af V2,q.w.cell? ⟨ba,oa+ef*2,none⟩=some (S (R pa.x)):=Af.cell (hx2.cellS ha1);have a2:∀q:Af V2,q.w.cell? ⟨ba,oa+ef*2+1,none⟩=some (S (R pa.y)):=Af.cell (hx2.cellS ha2);have a3:∀q:Af V2,q.w.cell? ⟨ba,oa+et*2,none⟩=some (S (R pb.x)):=Af.cell (hx2.cellS hb1);have a4:∀q:Af V2,q.w.cell? ⟨ba,oa+et*2+1,none⟩=some (S (R pb.y)):=Af.cell (hx2.cellS hb2);have a5:∀q:Af V2,q.w.cell? ⟨ba,oa+ff*2,none⟩=some (S (R pc.x)):=Af.cell (hx2.cellS hc1);have a6:∀q:Af V2,q.w.cell? ⟨ba,oa+ff*2+1,none⟩=some (S (R pc.y)):=Af.cell (hx2.cellS hc2);have a7:∀q:Af V2,q.w.cell? ⟨ba,oa+ft*2,none⟩=some (S (R pd.x)):=Af.cell (hx2.cellS YL);have a8:∀q:Af V2,q.w.cell? ⟨ba,oa+ft*2+1,none⟩=some (S (R pd.y)):=Af.cell (hx2.cellS Gp);have cr:=fun q:Af V2=>Ae9 pa pb pc pd OT hzb ZX hzd hk (by omega) q.w (hwV.ext q.h);obtain⟨cx,YK⟩:=Ajv (M5 pa pb pc pd);rw [←YK]at cr
        have hce:Oi m.pts e f=cx:=by unfold Oi DV;rw [eK.out.1,eK.out.2,eN.out.1,eN.out.2,YK,Ej.out.1,Ej.out.2,fH.out.1,fH.out.2];simp [OA,OB,YS,YX]
        have SI:=Ajw hce;unfold Ak at cr;clear QW EC YF C7 ha1 ha2 hb1 hb2 hc1 hc2 YL Gp OT hzb ZX hzd YK hce hg1 hg2 hg3 hg4 Bt Aw;refine CW (by kernel_rfl) (by kernel_rfl) ?_
        repeat (go_big_quiet_step (with_reducible refine Xv (cr _)))
        refine wpQuiet_nil ?_;rintro _ ⟨q,rfl⟩;have Lt:=Ajw (hx2.trans q.h);have PS:=Ajw (hE.trans (hx3.trans q.h));clear q1 q2 q3 q4 q5 a1 a2 a3 a4 a5 a6 a7 a8 cr hx2 hx3
        cases cx
        ·go_wp2;go_roundw
         case rel=>
          refine⟨jj+1,by go_num,by omega,?_,Lt.out⟩;intro x hx;rw [Aj2 Js,←eO.out]at hx
          rcases List.mem_append.1 hx with h|h
          ·exact SL.out x h
          ·simp only [AjB]at h;rw [h];exact SI.out
         case measure=>simp [intOf];omega
        ·have HH:=Ajw (show DG m.pts [] m.eds=26 by
          rw [←HO.out,HS.out,if_pos];rw [←eM.out,List.any_eq_true]
          exact⟨f,by rw [eO.out,List.mem_take_iff_getElem];exact⟨jj,by omega,rfl⟩,SI.out⟩)
         have HR:=Ajw (show r=26 from eF.out (by rw [HH.out];omega));go_wp2;go_ret;exact⟨by rw [HR.out];rfl,PS.out⟩
       ·have Zk:(j:Int)<=(jj:Int):=(by omega);obtain rfl:jj=j:=by omega
        have HH:=Ajw (show DG m.pts (m.eds.take (jj+1)) (m.eds.drop (jj+1))=DG m.pts [] m.eds by
         rw [←HO.out,HS.out,if_neg];rw [←eM.out,Bool.not_eq_true,List.any_eq_false]
         intro x hx;rw [SL.out x hx];simp)
        have HX:=Ajw (hx1.trans Ag);go_wp2;go_roundw
        case rel=>exact⟨jj+1,by go_num,hlt,HH.out,HX.out⟩
        case measure=>simp [intOf];omega
     ·have hle:(m.eds.length:Int)<=(j:Int):=(by omega);have HH:=Ajw (show DG m.pts [] m.eds=0 by rw [←HO.out,List.drop_eq_nil_of_le (by omega)];unfold DG;rfl);go_wp2;go_meet;exact⟨HH.out,Ag⟩
   case rest=>
    obtain⟨hc3,hx1⟩:=hcut;obtain⟨wx,rfl⟩:=named hx1;have io:=Ajw (H4.out HN.out VJ.out PK.out hc3);have Es:=Qs VJ.out PK.out;have Kh:=(hx1.block _ (Ajx hM)).trans hM;have x0:=Aa (o:=0) Kh rfl;have x1:=Aa (o:=1) Kh rfl;have x2:=Aa (o:=2) Kh rfl;have Cf:=hE.trans hx1;have An:Bj m c d g:=HC.out;have oc:=Vb m A B F c d g An Es AaZ wx (HA.out.ext Cf) (HB.out.ext Cf);have AbC:=hw.ext Cf;unfold As at oc;have ag:=fun (w2:World) (h2:Ac wx w2) (rn b1 b2:Nat) (E:List (Pt×Value×Nat)) (hn:Br wx.heap.size w2 rn b1 b2 (AG m.pts m.eds) E (BD m.pts m.eds))=>nl AbC h2 hn rfl (aU m.pts m.eds) (UX Es SK.out hc3) (RX Es SK.out) (by rw [Pf];omega) (fun e he=>by have:=Pe m.pts m.eds e he;omega) m.nf (by omega) (vT PK.out) (R1:=aV m) rfl (C:=NB m) rfl (rg:=Pd m) rfl;have U0:∀(fn:Fn) (first cap:Array Value) (w:World),(Instr.makeFunc fn first cap).run Tryz.prog w=.ok (.func fn first cap) w:=fun _ _ _ _=>rfl;have eY:=Ajw Kh;obtain⟨fw,hfw⟩:=Ajv (Qv (BD m.pts m.eds) m.pts);obtain⟨ab,hab⟩:=Ajv (Lz (AG m.pts m.eds) m.nf (NB m) (Pd m))
    have hr:r=if fw=true then 25 else if ab=true then 0 else 14:=by rw [io.out,hfw,hab];rfl
    have ik:=Ajw hfw;have HR:=Ajw hr;rw [←hab]at ag;generalize (JL (AG m.pts m.eds) m.nf (NB m) (Pd m)).op=ao at *;clear Kh hx1 Es hc3 hfw hab hr H2 H3 eF
    go_upto_region 28 with fail
    (go_wp2_with fail);(with_reducible refine oc.mono ?_);rintro e w2 ⟨rn,b1,b2,E,rfl,hx2,BM⟩;have Bh:=(Ac.refl w2).alloc (.cells #[.pointer (some ⟨rn,0,none⟩)] 159);have Dd:=Ajy w2 (.cells #[.pointer (some ⟨rn,0,none⟩)] 159);have FR:=BM.ext Bh;have hx3:=hx2.trans Bh;have Cd:=(hx3.block _ (Ajx eY.out)).trans eY.out;have y0:=Aa (o:=0) Cd rfl;clear x0 x1 x2 oc BM
    go_upto_region 29 with fail
    generalize w2.alloc (.cells #[.pointer (some ⟨rn,0,none⟩)] 159)=w3 at *;obtain⟨bn,QU⟩:=Ajv w2.heap.size;rw [←QU]at Dd ⊢;clear QU;have af:=ny FR bn (Aa Dd rfl) m.pts A c (HA.out.ext (Cf.trans hx3)) (by assumption) (by assumption);rw [←ik.out]at af;(go_wp2_with fail);(with_reducible refine af.mono ?_);rintro e w4 ⟨rfl,Aq⟩;have tQ:=hx3.trans Aq;have C0:=(Aq.block _ (Ajx Cd)).trans Cd;have pZ:=(Aq.block _ (Ajx Dd)).trans Dd;have z2:=Aa (o:=2) C0 rfl;have z3:=Aa (o:=0) pZ rfl;have m9:=ag w4 tQ rn b1 b2 E (FR.ext Aq);clear ag af Cd Dd C0 pZ y0 FR hx2 hx3 Bh Aq
    cases fw
    ·have MI:=Ajw (show r=if ab=true then 0 else 14 from HR.out);(go_wp2_with fail);(with_reducible refine m9.mono ?_);rintro e w5 ⟨rfl,AE⟩
     cases ab
     ·obtain rfl:r=14:=MI.out;go_wp2;go_ret;exact⟨rfl,Cf.trans AE⟩
     ·obtain rfl:r=0:=MI.out;go_wp2;go_ret;exact⟨rfl,Cf.trans AE⟩
    ·obtain rfl:r=25:=HR.out;go_wp2;go_ret;exact⟨rfl,Cf.trans tQ⟩
def El(m:MapZ):Int:=
 if L8 m=true then 4 else if Da [] m.pts≠0 then Da [] m.pts else if Dk m.pts.length m.nf [] m.eds≠0 then Dk m.pts.length m.nf [] m.eds else if DG m.pts [] m.eds≠0 then 26 else Xe m
theorem M4(m:MapZ)(hgr:∀p∈m.pts,Cz p)(A B F:Option Addr)(c d g:Nat)(An:Bj m c d g)(w:World)(hw:Ao w)(hA:Ae w A (flat (Ai m.pts)))(hB:Ae w B (Au m.eds)) :
  Calls Tryz.prog 48 #[As A B F m c d g] w (AK (El m) w):=by
 refine Ae8 m hgr (k:=1) (by omega) (by omega) (fun p hp=>(hgr p hp).sz (by omega)) A B F c d g An w hw hA hB (El m) ?_ ?_ ?_ ?_ ?_
 ·intro h;unfold El;rw [if_pos h]
 ·intro h h1;unfold El;rw [if_neg (by rw [h];simp),if_pos h1]
 ·intro h h1 h2;unfold El;rw [if_neg (by rw [h];simp),if_neg (by omega),if_pos h2]
 ·intro h h1 h2 h3;unfold El;rw [if_neg (by rw [h];simp),if_neg (by omega),if_neg (by omega),if_pos h3]
 ·intro h h1 h2 h3;unfold El;rw [if_neg (by rw [h];simp),if_neg (by omega),if_neg (by omega),if_neg (by omega)]
end Go.Proofs.YtgnejnampofhoaaGreatDoor
namespace Go.Proofs.YtgnejnampofhoaaGreatDoor
section
open Go.RowKit Kl
theorem AdA(n:Nat)(hn:n<=200000)(c:Int)(hc:c=(n:Int))(W:World) :
  (Instr.makeSlice 33 (.int .i64 c) (.int .i64 c)).run Tryz.prog W=.ok (.slice (some ⟨W.heap.size,0,none⟩) n n) (W.alloc (.cells (madeCells #[S []] n) 9)):=by
 subst hc;obtain⟨i0,hi,hz0,hz1,hz2⟩:=info_parts Tryz.infoStr;have h:=run_make (P:=Tryz.prog) W 33 9 i0 (S []) Tryz.underlying33 hi hz0 .i64 .i64 n n (by omega) (by omega) (by rw [hz2];omega) (by omega);rw [hz1,Nat.mul_one]at h;simp only [Int.toNat_natCast]at h;exact h
theorem Ae1(W:World)(base n:Nat)(hb:base<=W.heap.size)(hn:n<=200000) :
  (W.alloc (.cells (madeCells #[S []] n) 9)).ownsRow base 9 1 (.slice (some ⟨W.heap.size,0,none⟩) n n) n ((List.replicate n []).map S):=by
 have h:=World.ownsRow_lit (w:=W) (base:=base) (e:=9) (size:=1) (madeCells #[S []] n) n hb (by unfold maxLen;omega) (by rw [size_madeCells];omega);rw [toList_madeCells_one]at h
 simpa using h
end
end Go.Proofs.YtgnejnampofhoaaGreatDoor
