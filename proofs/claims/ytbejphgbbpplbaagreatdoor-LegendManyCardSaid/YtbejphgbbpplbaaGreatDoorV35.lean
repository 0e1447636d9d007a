/- V35: D8 S8. -/
import Derived.Test.YtbejphgbbpplbaaGreatDoorV34
import Derived.Deep.CutBlock
set_option maxRecDepth 100000
set_option maxHeartbeats 16000000
namespace Go.Proofs.YtbejphgbbpplbaaGreatDoor
open Go.RowKit Kl
open Go.ChangeMaps (setBlock)
theorem Tryz.infoBo:(Tryz.prog.info? 4).map (fun i=>(i.zero,i.size,i.bytes))=some (some (.bool false),1,1):=by kernel_rfl
theorem AgF(n:Nat)(hn:n<=200000)(c:Int)(hc:c=(n:Int))(W:World) :
  (Instr.makeSlice 213 (.int .i64 c) (.int .i64 c)).run Tryz.prog W=.ok (.slice (some ⟨W.heap.size,0,none⟩) n n) (W.alloc (.cells (madeCells #[.bool false] n) 4)):=by
 subst hc;obtain⟨i0,hi,hz0,hz1,hz2⟩:=info_parts Tryz.infoBo;have h:=run_make (P:=Tryz.prog) W 213 4 i0 (.bool false) Tryz.underlying213 hi hz0 .i64 .i64 n n (by omega) (by omega) (by rw [hz2];omega) (by omega);rw [hz1,Nat.mul_one]at h;simp only [Int.toNat_natCast]at h;exact h
theorem AhE(W:World)(base n:Nat)(hb:base<=W.heap.size)(hn:n<=200000) :
  (W.alloc (.cells (madeCells #[.bool false] n) 4)).ownsRow base 4 1 (.slice (some ⟨W.heap.size,0,none⟩) n n) n (GG (List.replicate n false)):=by
 have h:=World.ownsRow_lit (w:=W) (base:=base) (e:=4) (size:=1) (madeCells #[.bool false] n) n hb (by unfold maxLen;omega) (by rw [size_madeCells];omega);rw [toList_madeCells_one]at h
 simpa [GG]using h
theorem Aao(l:List Bool)(k:Nat)(b:Bool):(GG l).set k (.bool b)=GG (l.set k b):=by simp [GG]
theorem Ai7{w:World}{A:Option Addr}{l:List Int}(hr:Ae w A (l.map (Value.int .i64))){j:Nat}(h:j<l.length):∃b o,A=some ⟨b,o,none⟩/\w.cell? ⟨b,o+j,none⟩=some (.int .i64 l[j]):=by
 obtain⟨b,o,e,hc⟩:=hr.ad (by simp;omega);refine⟨b,o,e,?_⟩;rw [hc j (by simpa using h)];simp
theorem Wm{s:Sg}{L:List (Sg×Int)}(h:s∈L.map (·.1)):∃e∈L,AI s L=e.2:=by
 unfold AI;rw [List.mem_map]at h;obtain⟨x,hx,rfl⟩:=h
 cases hf:L.find? (fun e=>AK x.1 e.1)with
 | none=>
  rw [List.find?_eq_none]at hf;exact absurd (Iq.2 rfl) (hf x hx)
 | some e=>exact⟨e,List.mem_of_find?_eq_some hf,rfl⟩
structure F6(V wr:World)(B bm bs nf:Nat)(st:D2):Prop where
 face:FB wr bm st.face
 seen:wr.ownsRow B 4 1 (.slice (some ⟨bs,0,none⟩) nf nf) nf (GG st.seen)
 but:Au (fun j=>j=bm∨j=bs) V wr
theorem F6.ext{V wr w':World}{B bm bs nf:Nat}{st:D2}(h:F6 V wr B bm bs nf st)(hx:Aa wr w'):F6 V w' B bm bs nf st:=
 ⟨(hx.block _ (AmV h.face)).trans h.face,AH h.seen hx,h.but.ext hx⟩
theorem F6.put{V wr:World}{B bm bs nf:Nat}{st:D2}(h:F6 V wr B bm bs nf st)(hne:bm≠bs)(r z:Int)(hno:C0 r st.face=none) :
  ∃W',(Instr.mapUpdate 212 (.map (some bm)) (.int .i64 r) (.int .i64 z)).run Tryz.prog wr=.ok () W'/\F6 V W' B bm bs nf {st with face:=st.face ++ [(r,z)]}:=by
 obtain⟨W',h1,h2,h3,-⟩:=h.face.put r z hno;refine⟨W',h1,h2,iu h.seen h3 (by simp only [Value.ownBlock,ne_eq,Anb];exact fun e=>hne e.symm),h.but.grown h3 (fun k e=>by cases e;exact .inl (.inl rfl))⟩
theorem F6.set{V wr:World}{B bm bs nf:Nat}{st:D2}(h:F6 V wr B bm bs nf st)(hne:bm≠bs)(k:Nat) :
  F6 V (wr.setCell ⟨bs,k,none⟩ (.bool true)) B bm bs nf {st with seen:=st.seen.set k true}:=by
 have h1:=h.seen.stored k (.bool true);rw [Aao]at h1;refine⟨?_,h1.1,h.but.grown h1.2 (fun q e=>by cases e;exact .inl (.inr rfl))⟩;exact(h1.2.block bm (AmV h.face) (by simp only [ne_eq,Anb];exact hne)).trans h.face
theorem mE{w0 w:World}(hw:An w0)(hx:Aa w0 w){r b1 b2:Nat}{L:List (Sg×Int)}{E:List (Pt×Value×Nat)}{R0:List (Pt×List Pt)}(h:Bo w0.heap.size w r b1 b2 L E R0){W:List Sg}(K2:W=L.map (·.1))(hN:EH W R0)(hW:OD W)(hgr:∀s∈W,Ju s)
  (hlen:L.length<=100000) (hrl:∀e∈R0,e.2.length<100000) (nf:Nat) (P2:nf<=100000) (NL:∀x∈L,-1<=x.2/\x.2<(nf:Int)) {R1:List (Pt×List Pt)} (hR1:R1=R0.map (fun e=>(e.1,DO e.1 e.2))) {C:List (List Sg)} (hC:C=Hu W R1) {rg:List Int} (hrg:rg=JS W C) :
  Calls Tryz.prog 84 #[.pointer (some ⟨r,0,none⟩),.int .i64 (nf:Nat)] w fun e w'=>e=.returned (.tuple #[.bool (LK L nf C rg),.bool (Ko L nf C rg).op])/\Aa w0 w'/\Bo w0.heap.size w' r b1 b2 L E R1:=by
 have hmm:=@run_makeMap Tryz.prog;have so:=sort_c hw hx h (AiO hW hN hrl);rw [←hR1]at so;have Gm:EH W R1:=by rw [hR1];exact hN.sorted
 have yE:∀e∈R1,e.2.length<100000:=by intro e he;rw [hR1,List.mem_map]at he;obtain⟨x,hx,rfl⟩:=he;have:=hrl x hx;rw [show (DO x.1 x.2).length=x.2.length from(WZ x.1 x.2).length_eq];exact this
 obtain⟨U,Aj,hall⟩:=Ab6 Gm;have hG:Qy W U C:=⟨by rw [hC];exact Aj,hall,hW.x.good,hgr,by rw [K2];simpa using hlen⟩
 have rZ:C.length<=100000:=by have h1:=Wk hG.ok.ne;rw [hG.ok.flat]at h1;have h2:=JJ hG.ok.nd hG.ok.sub;have:=hG.len;omega
 have yF:rg.length=C.length:=(by rw [hrg];simp [JS]);have cy:=fun (w1:World) (h1:Aa w0 w1) (k:Bo w0.heap.size w1 r b1 b2 L E R1)=>Ab7 hw h1 k (by rw [←K2];exact Gm) (by rw [←K2];exact hW) hlen yE;rw [←K2,←hC]at cy;have rc:=fun (w1:World) (hw1:An w1) (k:Bo w0.heap.size w1 r b1 b2 L E R1) (A:Option Addr) (cap:Nat) (hA:L8 w1 A cap C)=>AiH hw1 k K2 hG hA;rw [←hrg]at rc
 have hcw:∀i (hi:i<C.length),∀s∈C[i],-1<=AI s L/\AI s L<(nf:Int):=by intro i hi s hs;have h1:s∈W:=hG.ok.sub s (by rw [←hG.ok.flat];exact List.mem_flatten.2 ⟨_,AmY hi,hs⟩);rw [K2]at h1;obtain⟨e,he,h2⟩:=Wm h1;rw [h2];exact NL e he
 have sr:=AmU hcw;clear hcw NL hR1 hrl yE Aj hall hC hrg hN hW hgr K2 hx h Gm hG;have HA:=AmU (show LK L nf C rg=((GF L (C.zip rg) (Ho nf)).ok && !((GF L (C.zip rg) (Ho nf)).seen.contains false))from rfl);have HO:=AmU (show (Ko L nf C rg).op=(GF L (C.zip rg) (Ho nf)).op from rfl);generalize LK L nf C rg=vA at *;generalize (Ko L nf C rg).op=vO at *;go_enter Tryz.func84,Tryz.ntmps84;(go_wp2_with fail);(with_reducible refine so.mono ?_);rintro e w1 ⟨rfl,hx1,-,P1⟩;(go_wp2_with fail);(with_reducible refine(cy _ hx1 P1).mono ?_);rintro e w2 ⟨A,cap,rfl,Dl,hx2⟩;have Dc:=P1.ext hx2;have JG:=hx1.trans hx2;(go_wp2_with fail);(with_reducible refine(rc _ (hw.ext JG) Dc A cap Dl).mono ?_);rintro e w3 ⟨A',rfl,AO,hx3⟩;have KQ:=Dc.ext hx3;have vH:=Dl.ext hx3;have NX:=JG.trans hx3;clear so cy rc P1 Dc hx1 hx2 hx3 Dl JG;have ET:=(Aa.refl w3).alloc (.map #[] 0);have Hw:FB (w3.alloc (.map #[] 0)) w3.heap.size []:=AmW w3 (.map #[] 0);obtain⟨W4,hput,Dj,hg4,JE⟩:=Hw.put (-1) (-1) rfl;have hmk:=AgF nf (by omega) (nf:Int) rfl W4;have Fw:Au (fun j=>j=w3.heap.size) w3 W4:=((Au.refl _ w3).ext ET).grown hg4 (fun k e=>by cases e;exact .inl rfl);have FH:Aa w3 W4:=Fw.toExt (Aa.refl w3) (fun k e=>by subst e;exact AmX _);have OT:=(Aa.refl W4).alloc (.cells (madeCells #[.bool false] nf) 4);have own:=AhE W4 w0.heap.size nf (Ani NX.size FH.size) (by omega);have sN:FB (W4.alloc (.cells (madeCells #[.bool false] nf) 4)) w3.heap.size [(-1,-1)]:=(OT.block _ (AmV Dj)).trans Dj;have yI:W4.heap.size=w3.heap.size+1:=(by rw [JE];simp);rw [yI]at own;have sH:=FH.trans OT;have Rs:F6 (W4.alloc (.cells (madeCells #[.bool false] nf) 4)) (W4.alloc (.cells (madeCells #[.bool false] nf) 4)) w0.heap.size w3.heap.size (w3.heap.size+1) nf (Ho nf):=⟨sN,own,Au.refl _ _⟩
 go_upto_region 6 with fail
 clear hmk own sN Dj hg4 hput Hw ET Fw OT FH JE yI hmm;generalize W4.alloc (.cells (madeCells #[.bool false] nf) 4)=V at *;obtain⟨bm,Dk⟩:=AmT w3.heap.size;rw [←Dk]at Rs ⊢;have AlC:w3.heap.size<=bm:=(by omega);clear Dk W4;have hl0:(0:Int)<=(C.length:Int):=(by omega);have hne:bm≠bm+1:=(by omega);have Kd:=AmU yF;have Hg:=AmU KQ;have LE:=AmU vH;have Hh:=AmU AO;clear yF KQ vH AO
 go_upto_region 8 with fail
 go_loopw [4,5,30] (fun o p i wr=>∃(k:Nat) (st:D2),i=.int .i64 (k:Nat)/\k<=C.length/\o=.bool st.ok/\p=.bool st.op/\st=GF L ((C.zip rg).take k) (Ho nf)/\F6 V wr w0.heap.size bm (bm+1) nf st) (fun _ _ i _=>C.length-(intOf i).toNat)
 case atStart=>exact⟨0,Ho nf,rfl,by omega,rfl,rfl,rfl,Rs⟩
 case round=>
  obtain⟨k,st,rfl,hk,rfl,rfl,hst,hA⟩:=hrel;have BJ:Aa w3 wr:=hA.but.toExt sH (fun q e=>by rcases e with e|e<;>omega);have HST:=AmU hst;clear hst;by_cases hlt:k<C.length
  ·obtain⟨bA,oA,A2,c2,rfl,hcell,IU,hc1,hc2⟩:=LE.out.row k hlt;replace hcell:=BJ.cellS hcell;obtain⟨bB,oB,rfl,hrc⟩:=Ai7 (Hh.out.ext BJ) (show k<rg.length by rw [Kd.out];exact hlt);obtain⟨rr,Dy⟩:∃rr,rr=rg[k]'(by rw [Kd.out];exact hlt):=⟨_,rfl⟩;rw [←Dy]at hrc;have hk0:(0:Int)<=(k:Int):=(by omega);have Ci:(k:Int)<(C.length:Int):=(by omega);obtain⟨c,hcc⟩:=AmT (C[k]);have hz:=sr.out k hlt
   have hstep:GF L ((C.zip rg).take (k+1)) (Ho nf)=Hn L rr st c:=by rw [Ana (show k<(C.zip rg).length by rw [List.length_zip,Kd.out];omega),yx,←HST.out,List.getElem_zip,←Dy,←hcc]
   rw [←hcc]at hcell IU hc1 hz;have TQ:=AmU hstep;have HZ:=AmU hz;have hcl:(0:Int)<=(c.length:Int):=(by omega);have hc0:Hn L rr st (c.take 0)=st:=rfl;have sf:=AmU hc0;have Ec:st.seen.length=nf:=(by rw [HST.out,mD];simp [Ho]);have Iw:=AmU Ec;clear hcc Dy hstep hz hc0 Ec
   go_upto_region 11 with fail
   go_loopw [4,5,40] (fun o p i wi=>∃(j:Nat) (sj:D2),i=.int .i64 (j:Nat)/\j<=c.length/\o=.bool sj.ok/\p=.bool sj.op/\sj=Hn L rr st (c.take j)/\F6 V wi w0.heap.size bm (bm+1) nf sj) (fun _ _ i _=>c.length-(intOf i).toNat)
   case atStart=>exact⟨0,st,rfl,by omega,rfl,rfl,sf.out.symm,hA⟩
   case round=>
    obtain⟨j,sj,rfl,hj,rfl,rfl,hsj,U9⟩:=hrel;have XI:=AmU hsj;clear hsj;by_cases AV:j<c.length
    ·have UY:Aa w3 wr:=U9.but.toExt sH (fun q e=>by rcases e with e|e<;>omega);obtain⟨b',o',rfl,f1,f2,f3,f4⟩:=MO (IU.ext UY) AV;have hzs:=HZ.out c[j] (AmY AV);have Va:Hn L rr st (c.take (j+1))=De rr (AI c[j] L) sj:=(by rw [Ana AV,yw,←XI.out]);have Ec:sj.seen.length=nf:=(by rw [XI.out,mC];exact Iw.out);obtain⟨s,hs⟩:=AmT (c[j]);rw [←hs]at f1 f2 f3 f4 hzs Va;have hj0:(0:Int)<=(j:Int):=(by omega);have Ms:(j:Int)<(c.length:Int):=(by omega);have Ay:=AmW wr (.cells #[S (R s.a.x),S (R s.a.y),S (R s.b.x),S (R s.b.y)] 155);have E6:=(Aa.refl wr).alloc (.cells #[S (R s.a.x),S (R s.a.y),S (R s.b.x),S (R s.b.y)] 155);have Zh:=U9.ext E6;have VF:=Hg.out.ext (UY.trans E6);clear hs U9 hA BJ
     go_upto_region 13 with fail
     unfold S at Ay Zh VF;generalize (wr.alloc (.cells #[.string ⟨(R s.a.x).toArray⟩,.string ⟨(R s.a.y).toArray⟩,.string ⟨(R s.b.x).toArray⟩,.string ⟨(R s.b.y).toArray⟩] 155))=W6 at *;obtain⟨bx,Mn⟩:=AmT wr.heap.size;rw [←Mn]at Ay ⊢;clear Mn f1 f2 f3 f4 E6;have q1:∀q:Af W6,q.w.cell? ⟨r,0,none⟩=some (.map (some b1)):=Af.cell (Ab VF.cell rfl);have q2:∀q:Af W6,q.w.cell? ⟨bx,0,none⟩=some (S (R s.a.x)):=Af.cell (Ab Ay rfl);have q3:∀q:Af W6,q.w.cell? ⟨bx,1,none⟩=some (S (R s.a.y)):=Af.cell (Ab Ay rfl);have q4:∀q:Af W6,q.w.cell? ⟨bx,2,none⟩=some (S (R s.b.x)):=Af.cell (Ab Ay rfl);have q5:∀q:Af W6,q.w.cell? ⟨bx,3,none⟩=some (S (R s.b.y)):=Af.cell (Ab Ay rfl);have q6:=fun (q:Af W6)=>Qi s L (VF.ext q.h).left;obtain⟨z,hz⟩:=AmT (AI s L);rw [←hz]at q6 hzs Va;unfold As at q6;have HN:=AmU Va;clear hz Va Ay VF;refine F3 (by kernel_rfl) (by kernel_rfl) ?_
     repeat (go_big_quiet_step (fail))
     refine wpQuiet_nil ?_;rintro W7 ⟨q,hq⟩;have AG:Aa W6 W7:=hq▸q.h;clear hq q;have I8:=Zh.ext AG;have lk:=iL rr sj.face I8.face;clear q1 q2 q3 q4 q5 q6 Zh AG
     cases hl:C0 rr sj.face with
     | some old=>
      rw [hl]at lk;simp only [Option.getD_some,Option.isSome_some]at lk;have he:De rr z sj=⟨sj.ok&&decide (old=z),sj.op,sj.face,sj.seen⟩:=(by unfold De;rw [hl]);have GK:F6 V W7 w0.heap.size bm (bm+1) nf (De rr z sj):=(by rw [he];exact⟨I8.face,I8.seen,I8.but⟩);have HE:=AmU he;clear he I8
      cases Aj:sj.ok
      ·have Fi:=AmU Aj;go_wp2;go_roundw
       case rel=>exact⟨j+1,De rr z sj,by go_num,AV,by rw [HE.out,Fi.out];rfl,by rw [HE.out],HN.out.symm,GK⟩
       case measure=>simp [intOf];omega
      ·have Fi:=AmU Aj;by_cases VL:old=z
       ·have HD:=AmU (decide_eq_true VL);subst VL;go_wp2;go_roundw
        case rel=>exact⟨j+1,De rr old sj,by go_num,AV,by rw [HE.out,Fi.out,HD.out];rfl,by rw [HE.out],HN.out.symm,GK⟩
        case measure=>simp [intOf];omega
       ·have HD:=AmU (decide_eq_false VL);have hb:(old == z)=false:=beq_false_of_ne VL;go_wp2;go_roundw
        case rel=>exact⟨j+1,De rr z sj,by go_num,AV,by rw [HE.out,Fi.out,HD.out];rfl,by rw [HE.out],HN.out.symm,GK⟩
        case measure=>simp [intOf];omega
     | none=>
      rw [hl]at lk;simp only [Option.getD_none,Option.isSome_none]at lk;by_cases hz0:z<0
      ·have he:De rr z sj=⟨false,true,sj.face ++ [(rr,z)],sj.seen⟩:=(by unfold De;rw [hl];simp only;rw [if_pos hz0]);obtain⟨W8,hput,GK⟩:=I8.put hne rr z hl;have Rt:F6 V W8 w0.heap.size bm (bm+1) nf (De rr z sj):=(by rw [he];exact⟨GK.face,GK.seen,GK.but⟩);have HE:=AmU he;clear he I8 GK;go_wp2;go_roundw
       case rel=>exact⟨j+1,De rr z sj,by go_num,AV,by rw [HE.out],by rw [HE.out],HN.out.symm,Rt⟩
       case measure=>simp [intOf];omega
      ·obtain⟨m,rfl⟩:∃m:Nat,z=(m:Int):=⟨z.toNat,by omega⟩;have hm:m<nf:=(by omega);obtain⟨sv,dC⟩:=AmT (sj.seen.getD m false)
       have he:De rr (m:Int) sj=⟨sj.ok && !sv,sj.op,sj.face ++ [(rr,(m:Int))],sj.seen.set m true⟩:=by unfold De;rw [hl];simp only;rw [if_neg hz0,dC];rfl
       have hce:W7.cell? ⟨bm+1,m,none⟩=some (.bool sv):=by
        rw [I8.seen.cellAt m (by omega),dC];unfold GG;rw [List.getElem?_map,List.getD_eq_getElem?_getD,Anc (by omega)]
        rfl
       have Vr:=I8.seen.frozenAt m;obtain⟨W8,hput,GK⟩:=(I8.set hne m).put hne rr (m:Int) hl;have Rt:F6 V W8 w0.heap.size bm (bm+1) nf (De rr (m:Int) sj):=(by rw [he];exact⟨GK.face,GK.seen,GK.but⟩);have HE:=AmU he;have hm0:(0:Int)<=(m:Int):=(by omega);have hm1:(m:Int)<(nf:Int):=(by omega);clear he I8 GK dC
       cases Aj:sj.ok
       ·have Fi:=AmU Aj;go_wp2;go_roundw
        case rel=>exact⟨j+1,De rr (m:Int) sj,by go_num,AV,by rw [HE.out,Fi.out];rfl,by rw [HE.out],HN.out.symm,Rt⟩
        case measure=>simp [intOf];omega
       ·have Fi:=AmU Aj
        cases sv
        ·go_wp2;go_roundw
         case rel=>exact⟨j+1,De rr (m:Int) sj,by go_num,AV,by rw [HE.out,Fi.out];rfl,by rw [HE.out],HN.out.symm,Rt⟩
         case measure=>simp [intOf];omega
        ·go_wp2;go_roundw
         case rel=>exact⟨j+1,De rr (m:Int) sj,by go_num,AV,by rw [HE.out,Fi.out];rfl,by rw [HE.out],HN.out.symm,Rt⟩
         case measure=>simp [intOf];omega
    ·have JB:j=c.length:=(by omega);subst JB;have AX:sj=GF L ((C.zip rg).take (k+1)) (Ho nf):=(by rw [TQ.out,XI.out,List.take_length]);have HF:=AmU AX;clear AX;have bK:(c.length:Int)<=(c.length:Int):=(by omega);go_wp2;go_roundw
     case rel=>exact⟨k+1,sj,by go_num,hlt,rfl,rfl,HF.out,U9⟩
     case measure=>simp [intOf];omega
  ·have B6:k=C.length:=(by omega);subst B6;have AX:st=GF L (C.zip rg) (Ho nf):=(by rw [HST.out,Ang (by rw [List.length_zip];omega)]);have HF:=AmU AX;obtain⟨A3,Alk,J9,yB,rQ,rR⟩:=Ae.of_own' (by omega) hA.seen;simp only [Value.slice.injEq,true_and]at J9;obtain⟨rfl,rfl⟩:=J9;have Ec:st.seen.length=nf:=(by rw [HST.out,mD];simp [Ho]);have cb:=Ab0 st.seen false (some ⟨bm+1,0,none⟩) nf wr yB (by omega) rR;rw [Ec]at cb;have hv:vA=(st.ok && !(st.seen.contains false)):=(by rw [HA.out,←HF.out]);have ho:vO=st.op:=(by rw [HO.out,←HF.out]);have HV:=AmU hv;subst ho;obtain⟨cv,hcv⟩:=AmT (st.seen.contains false);rw [←hcv]at cb;have si:=AmU hcv;have tM:=NX.trans BJ;clear AX Ec hv hcv hA yB
   cases Aj:st.ok
   ·have Fi:=AmU Aj;obtain rfl:vA=false:=(by rw [HV.out,Fi.out];rfl);go_wp2;go_ret2;exact⟨rfl,tM,Hg.out.ext BJ⟩
   ·have Fi:=AmU Aj;obtain rfl:vA = !cv:=(by rw [HV.out,Fi.out,←si.out];rfl);(go_wp2_with fail);(with_reducible refine cb.mono ?_);rintro e w9 ⟨rfl,Cl⟩;go_wp2;go_ret2;exact⟨rfl,tM.trans Cl,Hg.out.ext (BJ.trans Cl)⟩
theorem y7{w0 w:World}(hw:An w0)(hx:Aa w0 w){r b1 b2:Nat}{L:List (Sg×Int)}{E:List (Pt×Value×Nat)}{R0:List (Pt×List Pt)}(h:Bo w0.heap.size w r b1 b2 L E R0){W:List Sg}(K2:W=L.map (·.1))(hN:EH W R0)(hW:OD W)(hgr:∀s∈W,Ju s)
  (hlen:L.length<=100000) (hrl:∀e∈R0,e.2.length<100000) (nf:Nat) (P2:nf<=100000) (NL:∀x∈L,-1<=x.2/\x.2<(nf:Int)) {R1:List (Pt×List Pt)} (hR1:R1=R0.map (fun e=>(e.1,DO e.1 e.2))) {C:List (List Sg)} (hC:C=Hu W R1) {rg:List Int} (hrg:rg=JS W C) :
  Calls Tryz.prog 84 #[.pointer (some ⟨r,0,none⟩),.int .i64 (nf:Nat)] w fun e w'=>e=.returned (.tuple #[.bool (LK L nf C rg),.bool (Ko L nf C rg).op])/\Aa w0 w':=(mE hw hx h K2 hN hW hgr hlen hrl nf P2 NL hR1 hC hrg).mono fun _ _ k=>⟨k.1,k.2.1⟩
end Go.Proofs.YtbejphgbbpplbaaGreatDoor
namespace Go.Proofs.YtbejphgbbpplbaaGreatDoor
open Go.RowKit Kl
theorem Ac9(l:List (Bs×Bs))(i:Nat):flat (l.take i)=(flat l).take (i*2):=by
 induction l generalizing i with
 | nil=>simp [flat]
 | cons e l ih=>
  cases i with
  | zero=>simp [flat]
  | succ i=>have e0:∀l,flat (e::l)=S e.1::S e.2::flat l:=fun _=>rfl;rw [List.take_succ_cons,e0,e0,ih];have e1:(i+1)*2=i*2+1+1:=(by omega);rw [e1];simp
theorem Aii(l:List Pt)(i:Nat):Ao (l.take i)=(Ao l).take i:=by unfold Ao;rw [List.map_take]
theorem Ab2(l:List Pt)(i:Nat)(hi:i<=l.length)(p:Pt)(A:Option Addr)(c:Nat)(w:World)(hr:Ae w A (flat (Ao l)))(hc:l.length<=c)(hcm:c<=9223372036854775807) :
  Calls Tryz.prog 78 #[.slice A i c,Ak p] w (BC ((l.take i).any (Ap p)) w):=by
 have:=contains_c (l.take i) p A c w (by rw [Aii,Ac9];exact hr.take _) (by rw [List.length_take];omega) hcm;rw [List.length_take,Nat.min_eq_left hi]at this;exact this
def eZ(m:Cm):List Sg:=(AL m.pts m.eds).map (·.1)
def eY(m:Cm):List (Pt×List Pt):=(C3 m.pts m.eds).map (fun e=>(e.1,DO e.1 e.2))
def Oa(m:Cm):List (List Sg):=Hu (eZ m) (eY m)
def PQ(m:Cm):List Int:=JS (eZ m) (Oa m)
def YD(m:Cm):Int:=if Rl (C3 m.pts m.eds) m.pts=true then 25 else if LK (AL m.pts m.eds) m.nf (Oa m) (PQ m)=true then 0 else 14
theorem AhP(m:Cm)(hgr:∀p∈m.pts,D4 p){k:Nat}(hk:0<k)(hk2:k<=200)(hz:∀p∈m.pts,Ar k p)(A B F:Option Addr)(c d g:Nat)(B8:Jm m c d g)(w:World)(hw:An w)(hA:Ae w A (flat (Ao m.pts)))(hB:Ae w B (Bt m.eds))(r:Int)
  (h0:LP m=true→r=4) (h1:LP m=false→CH [] m.pts≠0→r=CH [] m.pts)
  (h2:LP m=false→CH [] m.pts=0→CW m.pts.length m.nf [] m.eds≠0→r=CW m.pts.length m.nf [] m.eds) (h3:LP m=false→CH [] m.pts=0→CW m.pts.length m.nf [] m.eds=0→D8 m.pts [] m.eds≠0→r=26)
  (h4:LP m=false→CH [] m.pts=0→CW m.pts.length m.nf [] m.eds=0→D8 m.pts [] m.eds=0→r=YD m) :
  Calls Tryz.prog 33 #[C2 A B F m c d g] w (AA r w):=by
 have HA:=AmU hA;have HB:=AmU hB;have HZ:=AmU hz;have H0:=AmU h0;have H1:=AmU h1;have H2:=AmU h2;have H3:=AmU h3;have H4:=AmU h4;have kM:=AmU hgr;have HC:=AmU B8;obtain⟨c1,c2,d1,d2,g1,g2⟩:=B8;have HL:=AmU (show LP m=(decide (400<m.pts.length)||(decide (1200<m.eds.length)||decide (800<m.nf)))from rfl);have hM:=AmW w (.cells #[.slice A m.pts.length c,.slice B m.eds.length d,.slice F m.nf g] 36);have hE:=(Aa.refl w).alloc (.cells #[.slice A m.pts.length c,.slice B m.eds.length d,.slice F m.nf g] 36);unfold C2;clear hA hB hz h0 h1 h2 h3 h4 hgr;go_enter Tryz.func33,Tryz.ntmps33
 go_upto_region 1 with fail
 generalize w.alloc (.cells #[.slice A m.pts.length c,.slice B m.eds.length d,.slice F m.nf g] 36)=V at *;obtain⟨bm,Dk⟩:=AmT w.heap.size;rw [←Dk]at hM ⊢;have hle:w.heap.size<=bm:=(by omega);clear Dk;have m1:=Ab (o:=0) hM rfl;have m2:=Ab (o:=1) hM rfl;have m3:=Ab (o:=2) hM rfl;by_cases n1:(400:Int)<(m.pts.length:Int)
 ·have dd:decide ((400:Int)<(m.pts.length:Int))=true:=decide_eq_true n1;have HH:=AmU (show r=4 from H0.out (by rw [HL.out,decide_eq_true (by omega)];rfl));go_wp2;go_ret;exact⟨by rw [HH.out];rfl,hE⟩
 have pJ:decide ((400:Int)<(m.pts.length:Int))=false:=decide_eq_false n1;by_cases n2:(1200:Int)<(m.eds.length:Int)
 ·have dd:decide ((1200:Int)<(m.eds.length:Int))=true:=decide_eq_true n2;have HH:=AmU (show r=4 from H0.out (by rw [HL.out,decide_eq_true (p:=1200<m.eds.length) (by omega)];simp));clear n1;go_wp2;go_ret;exact⟨by rw [HH.out];rfl,hE⟩
 have YM:decide ((1200:Int)<(m.eds.length:Int))=false:=decide_eq_false n2;by_cases n3:(800:Int)<(m.nf:Int)
 ·have dd:decide ((800:Int)<(m.nf:Int))=true:=decide_eq_true n3;have HH:=AmU (show r=4 from H0.out (by rw [HL.out,decide_eq_true (p:=800<m.nf) (by omega)];simp));clear n1 n2;go_wp2;go_ret;exact⟨by rw [HH.out];rfl,hE⟩
 have pK:decide ((800:Int)<(m.nf:Int))=false:=decide_eq_false n3;have HN:=AmU (show LP m=false by rw [HL.out,decide_eq_false (by omega),decide_eq_false (by omega),decide_eq_false (by omega)];rfl);have Amk:m.pts.length<=400:=(by omega);have AdQ:m.eds.length<=1200:=(by omega);have AlM:m.nf<=800:=(by omega);clear n1 n2 n3 HL H0
 go_upto_block 0 with fail
 clear pJ YM pK m1 m2 m3
 go_cut [] (fun wx=>CH [] m.pts=0/\Aa V wx)
 case first=>
  (go_wp2_with fail)
  go_loopw [33] (fun i wr=>∃j:Nat,i=.int .i64 (j:Nat)/\j<=m.pts.length/\CH (m.pts.take j) (m.pts.drop j)=CH [] m.pts/\Aa V wr) (fun i _=>m.pts.length-(intOf i).toNat)
  case atStart=>exact⟨0,rfl,by omega,by simp,Aa.refl _⟩
  case round=>
   obtain⟨j,rfl,hj,Aj,Ac⟩:=hrel;have HO:=AmU Aj;clear Aj;by_cases hlt:j<m.pts.length
   ·obtain⟨b,o,rfl,hg1,hg2⟩:=Cy ((HA.out.ext hE).ext Ac) hlt;have hz:=HZ.out m.pts[j] (AmY hlt);obtain⟨p,hp⟩:=AmT (m.pts[j]);have HP:=AmU hp;have HS:=AmU (AaO hlt);rw [←hp]at hg1 hg2 hz;have hj0:(0:Int)<=(j:Int):=(by omega);have AV:(j:Int)<(m.pts.length:Int):=(by omega);have Vx:(j:Int)<=(c:Int):=(by omega);have Bu:=AmW wr (.cells #[S (R p.x),S (R p.y)] 94);have hx1:=Ac.alloc (.cells #[S (R p.x),S (R p.y)] 94);have ck:=nQ (R p.x) (R p.y) true (by simp only [true_iff];exact⟨WC hz.x hk hk2,WC hz.y hk hk2⟩) (Xc hz.x hk (by omega)) (Xc hz.y hk (by omega));rw [Kr]at ck;clear hp hz
    go_upto_region 6 with fail
    generalize wr.alloc (.cells #[S (R p.x),S (R p.y)] 94)=V1 at *;obtain⟨bp,RQ⟩:=AmT wr.heap.size;rw [←RQ]at Bu ⊢;clear RQ hg1 hg2;have k1:=Ab (o:=0) Bu rfl;have k2:=Ab (o:=1) Bu rfl;(go_wp2_with fail);(with_reducible refine(ck _ (hw.ext (hE.trans hx1))).mono ?_);rintro e w2 ⟨rfl,hx2⟩;have H7:=(hx2.block _ (AmV Bu)).trans Bu;replace hx2:=hx1.trans hx2;have hw2:=hw.ext (hE.trans hx2);have Hx:=(hx2.block _ (AmV hM)).trans hM;have f1:∀q:Af w2,q.w.cell? ⟨bp,0,none⟩=some (S (R p.x)):=Af.cell (Ab H7 rfl);have f2:∀q:Af w2,q.w.cell? ⟨bp,1,none⟩=some (S (R p.y)):=Af.cell (Ab H7 rfl);have f3:∀q:Af w2,q.w.cell? ⟨bm,0,none⟩=some (.slice (some ⟨b,o,none⟩) m.pts.length c):=Af.cell (Ab Hx rfl);have ct:=fun q:Af w2=>Ab2 m.pts j hj p (some ⟨b,o,none⟩) c q.w ((HA.out.ext (hE.trans hx2)).ext q.h) c1 c2;unfold Ak at ct;obtain⟨du,J8⟩:=AmT ((m.pts.take j).any (Ap p));rw [←J8]at ct;have HD:=AmU J8;clear J8 k1 k2 ck Bu H7 Hx hx1 Ac;(go_wp2_with fail);refine F3 (by kernel_rfl) (by kernel_rfl) ?_
    repeat (go_big_quiet_step (with_reducible refine qM (ct _)))
    refine wpQuiet_nil ?_;rintro _ ⟨q,rfl⟩;have hxq:=hx2.trans q.h;have HQ:=AmU hxq
    cases du
    ·have HH:=AmU (show CH (m.pts.take (j+1)) (m.pts.drop (j+1))=CH [] m.pts by
      rw [←HO.out,HS.out,←HP.out,←HD.out];rfl)
     go_wp2;go_roundw
     case rel=>exact⟨j+1,by go_num,hlt,HH.out,HQ.out⟩
     case measure=>simp [intOf];omega
    ·have HH:=AmU (show CH [] m.pts=9 by rw [←HO.out,HS.out,←HP.out,←HD.out];rfl);have HR:=AmU (show r=9 by rw [←HH.out];exact H1.out HN.out (by rw [HH.out];omega));go_wp2;go_ret;exact⟨by rw [HR.out];rfl,hE.trans HQ.out⟩
   ·have hle:(m.pts.length:Int)<=(j:Int):=(by omega);have HH:=AmU (show CH [] m.pts=0 by rw [←HO.out,List.drop_eq_nil_of_le (by omega)];unfold CH;rfl);go_wp2;go_meet;exact⟨HH.out,Ac⟩
 case rest=>
  obtain⟨hc1,hx1⟩:=hcut;have jW:=AmU (fun h=>H2.out HN.out hc1 h);have Xr:=AmU hc1;have TS:=AmU hx1;have K1:=(hx1.block _ (AmV hM)).trans hM;have m1:=Ab (o:=1) K1 rfl;clear hc1 H1 hx1
  go_upto_block 3 with fail
  clear m1
  go_cut [] (fun wx=>CW m.pts.length m.nf [] m.eds=0/\Aa V wx)
  case first=>
   (go_wp2_with fail)
   go_loopw [53] (fun i wr=>∃j:Nat,i=.int .i64 (j:Nat)/\j<=m.eds.length/\CW m.pts.length m.nf (m.eds.take j) (m.eds.drop j)=CW m.pts.length m.nf [] m.eds/\Aa V wr) (fun i _=>m.eds.length-(intOf i).toNat)
   case atStart=>exact⟨0,rfl,by omega,by simp,TS.out⟩
   case round=>
    obtain⟨j,rfl,hj,Aj,Ac⟩:=hrel;have HO:=AmU Aj;clear Aj;by_cases hlt:j<m.eds.length
    ·have hj0:(0:Int)<=(j:Int):=(by omega);have AV:(j:Int)<(m.eds.length:Int):=(by omega);have HS:=AmU (AaQ (np:=m.pts.length) (nf:=m.nf) hlt);have ce:=AaI m A B F c d g HC.out j hlt wr (HB.out.ext (hE.trans Ac));obtain⟨z,hz⟩:=AmT (J1 m.pts.length m.nf (m.eds.take j) m.eds[j]);rw [←hz]at ce;have lF:=AmU hz;unfold C2 at ce;have Ep:=(Ac.block _ (AmV hM)).trans hM;have m1:=Ab (o:=0) Ep rfl;have m2:=Ab (o:=1) Ep rfl;have m3:=Ab (o:=2) Ep rfl;clear hz Ep;(go_wp2_with fail);(with_reducible refine ce.mono ?_);rintro e w2 ⟨rfl,hx2⟩;have HX:=AmU (Ac.trans hx2);clear m1 m2 m3 hx2 ce;by_cases hz0:z=0
     ·have HH:=AmU (show CW m.pts.length m.nf (m.eds.take (j+1)) (m.eds.drop (j+1))=CW m.pts.length m.nf [] m.eds by
       rw [←HO.out,HS.out,←lF.out,if_neg (by omega)])
      subst hz0;go_wp2;go_roundw
      case rel=>exact⟨j+1,by go_num,hlt,HH.out,HX.out⟩
      case measure=>simp [intOf];omega
     ·have HH:=AmU (show CW m.pts.length m.nf [] m.eds=z by rw [←HO.out,HS.out,←lF.out,if_pos (by omega)]);have HR:=AmU (show r=z by rw [←HH.out];exact jW.out (by rw [HH.out];exact hz0));have dd:(z == 0)=false:=(by rw [beq_eq_false_iff_ne];exact hz0);have YM:(z != 0)=true:=(by rw [bne_iff_ne];exact hz0);clear hz0;go_wp2;go_ret;exact⟨by rw [HR.out];rfl,hE.trans HX.out⟩
    ·have hle:(m.eds.length:Int)<=(j:Int):=(by omega);have HH:=AmU (show CW m.pts.length m.nf [] m.eds=0 by rw [←HO.out,List.drop_eq_nil_of_le (by omega)];unfold CW;rfl);go_wp2;go_meet;exact⟨HH.out,Ac⟩
  case rest=>
   obtain⟨hc2,hx1⟩:=hcut;have jX:=AmU (fun h=>H3.out HN.out Xr.out hc2 h);have EF:=AmU hc2;have O3:=AmU hx1;have K1:=(hx1.block _ (AmV hM)).trans hM;have m1:=Ab (o:=1) K1 rfl;clear hc2 jW TS hx1
   go_upto_region 18 with fail
   go_upto_block 5 with fail
   go_cut [] (fun wx=>D8 m.pts [] m.eds=0/\Aa V wx)
   case first=>
    (go_wp2_with fail)
    go_loopw [66] (fun i wr=>∃j:Nat,i=.int .i64 (j:Nat)/\j<=m.eds.length/\D8 m.pts (m.eds.take j) (m.eds.drop j)=D8 m.pts [] m.eds/\Aa V wr) (fun i _=>m.eds.length-(intOf i).toNat)
    case atStart=>exact⟨0,rfl,by omega,by simp,O3.out⟩
    case round=>
     obtain⟨j,rfl,hj,Aj,Ac⟩:=hrel;have HO:=AmU Aj;clear Aj;by_cases hlt:j<m.eds.length
     ·have hj0:(0:Int)<=(j:Int):=(by omega);have AV:(j:Int)<(m.eds.length:Int):=(by omega);have hjd:(j:Int)<=(d:Int):=(by omega);have HS:=AmU (AaS (pts:=m.pts) hlt);obtain⟨b,o,rfl,hg1,hg2,hg3,hg4⟩:=To ((HB.out.ext hE).ext Ac) hlt;have hck:=Us (QQ (l:=m.eds) EF.out j hlt);obtain⟨e,he⟩:=AmT (m.eds[j]);rw [←he]at hg1 hg2 hg3 hg4 hck;have kG:=AmU he;obtain⟨ef,NC⟩:∃n:Nat,e.f=(n:Int):=⟨e.f.toNat,by omega⟩;obtain⟨et,ND⟩:∃n:Nat,e.t=(n:Int):=⟨e.t.toNat,by omega⟩;have Pm:ef<m.pts.length:=(by omega);have Pn:et<m.pts.length:=(by omega);have kF:=AmU (And.intro NC ND);rw [NC]at hg1;rw [ND]at hg2;obtain⟨ba,oa,rfl,ha1,ha2⟩:=Cy ((HA.out.ext hE).ext Ac) Pm;obtain⟨b2,o2,H9,hb1,hb2⟩:=Cy ((HA.out.ext hE).ext Ac) Pn;obtain⟨rfl,rfl⟩:ba=b2/\oa=o2:=(by simpa using H9);have PC:=HZ.out m.pts[ef] (AmY Pm);have hzb:=HZ.out m.pts[et] (AmY Pn);obtain⟨pa,DK⟩:=AmT (m.pts[ef]);obtain⟨pb,IR⟩:=AmT (m.pts[et]);rw [←DK]at ha1 ha2 PC;rw [←IR]at hb1 hb2 hzb;have TL:=AmU (And.intro DK IR);have f0:(0:Int)<=(ef:Int):=(by omega);have f1:(ef:Int)<(m.pts.length:Int):=(by omega);have f2:(0:Int)<=(et:Int):=(by omega);have f3:(et:Int)<(m.pts.length:Int):=(by omega);have Ep:=(Ac.block _ (AmV hM)).trans hM;have m1:=Ab (o:=1) Ep rfl;have Bu:=AmW wr (.cells #[.int .i64 (ef:Nat),.int .i64 (et:Nat),.int .i64 e.l,.int .i64 e.r] 126);have hx1:=Ac.alloc (.cells #[.int .i64 (ef:Nat),.int .i64 (et:Nat),.int .i64 e.l,.int .i64 e.r] 126);have hx0:=(Aa.refl wr).alloc (.cells #[.int .i64 (ef:Nat),.int .i64 (et:Nat),.int .i64 e.l,.int .i64 e.r] 126);replace ha1:=hx0.cellS ha1;replace ha2:=hx0.cellS ha2;replace hb1:=hx0.cellS hb1;replace hb2:=hx0.cellS hb2;clear hck he NC ND H9 DK IR
      go_upto_region 21 with fail
      generalize wr.alloc (.cells #[.int .i64 (ef:Nat),.int .i64 (et:Nat),.int .i64 e.l,.int .i64 e.r] 126)=V1 at *;obtain⟨bp,RQ⟩:=AmT wr.heap.size;rw [←RQ]at Bu ⊢;clear RQ hg1 hg2 hg3 hg4 Ac Ep m1 hx0;have EU:=(hx1.block _ (AmV hM)).trans hM;have m1:=Ab (o:=1) EU rfl
      go_upto_region 22 with fail
      clear m1
      go_loopw [76] (fun i wr=>∃jj:Nat,i=.int .i64 (jj:Nat)/\jj<=j/\(∀f∈m.eds.take jj,OL m.pts e f=false)/\Aa V1 wr) (fun i _=>j-(intOf i).toNat)
      case atStart=>exact⟨0,rfl,by omega,by simp,Aa.refl _⟩
      case round=>
       obtain⟨jj,rfl,JB,Aj,Ac⟩:=hrel;have O0:=AmU Aj;clear Aj;by_cases hlt2:jj<j
       ·have jj0:(0:Int)<=(jj:Int):=(by omega);have jjl:(jj:Int)<(j:Int):=(by omega);have NI:jj<m.eds.length:=(by omega);obtain⟨b',o',Bl,hg1,hg2,hg3,hg4⟩:=To (((HB.out.ext hE).ext hx1).ext Ac) NI;obtain⟨rfl,rfl⟩:b=b'/\o=o':=(by simpa using Bl);have hck:=Us (QQ (l:=m.eds) EF.out jj NI);obtain⟨f,hf⟩:=AmT (m.eds[jj]);rw [←hf]at hg1 hg2 hg3 hg4 hck;have kJ:=AmU hf;obtain⟨ff,aQ⟩:∃n:Nat,f.f=(n:Int):=⟨f.f.toNat,by omega⟩;obtain⟨ft,aV⟩:∃n:Nat,f.t=(n:Int):=⟨f.t.toNat,by omega⟩;have aR:ff<m.pts.length:=(by omega);have aW:ft<m.pts.length:=(by omega);have kH:=AmU (And.intro aQ aV);rw [aQ]at hg1;rw [aV]at hg2;obtain⟨b3,o3,J9,hc1,hc2⟩:=Cy ((HA.out.ext hE).ext hx1) aR;obtain⟨b4,o4,vQ,Vn,Et⟩:=Cy ((HA.out.ext hE).ext hx1) aW;obtain⟨rfl,rfl⟩:ba=b3/\oa=o3:=(by simpa using J9);obtain⟨rfl,rfl⟩:ba=b4/\oa=o4:=(by simpa using vQ);have dU:=HZ.out m.pts[ff] (AmY aR);have hzd:=HZ.out m.pts[ft] (AmY aW);obtain⟨pc,cP⟩:=AmT (m.pts[ff]);obtain⟨pd,cQ⟩:=AmT (m.pts[ft]);rw [←cP]at hc1 hc2 dU;rw [←cQ]at Vn Et hzd;have kW:=AmU (And.intro cP cQ);have f4:(0:Int)<=(ff:Int):=(by omega);have f5:(ff:Int)<(m.pts.length:Int):=(by omega);have f6:(0:Int)<=(ft:Int):=(by omega);have f7:(ft:Int)<(m.pts.length:Int):=(by omega);have H7:=AmW wr (.cells #[.int .i64 (ff:Nat),.int .i64 (ft:Nat),.int .i64 f.l,.int .i64 f.r] 126);have hx2:=Ac.alloc (.cells #[.int .i64 (ff:Nat),.int .i64 (ft:Nat),.int .i64 f.l,.int .i64 f.r] 126);clear hck hf aQ aV J9 vQ cP cQ Bl
        go_upto_region 24 with fail
        generalize wr.alloc (.cells #[.int .i64 (ff:Nat),.int .i64 (ft:Nat),.int .i64 f.l,.int .i64 f.r] 126)=V2 at *;obtain⟨bq,uS⟩:=AmT wr.heap.size;rw [←uS]at H7 ⊢;have hx3:=hx1.trans hx2;have Hx:=(hx2.block _ (AmV EU)).trans EU;have ZZ:=(hx2.block _ (AmV Bu)).trans Bu;have SC:=hw.ext (hE.trans hx3);have q1:∀q:Af V2,q.w.cell? ⟨bm,0,none⟩=some (.slice (some ⟨ba,oa,none⟩) m.pts.length c):=Af.cell (Ab Hx rfl);have q2:∀q:Af V2,q.w.cell? ⟨bp,0,none⟩=some (.int .i64 (ef:Nat)):=Af.cell (Ab ZZ rfl);have q3:∀q:Af V2,q.w.cell? ⟨bp,1,none⟩=some (.int .i64 (et:Nat)):=Af.cell (Ab ZZ rfl);have q4:∀q:Af V2,q.w.cell? ⟨bq,0,none⟩=some (.int .i64 (ff:Nat)):=Af.cell (Ab H7 rfl);have q5:∀q:Af V2,q.w.cell? ⟨bq,1,none⟩=some (.int .i64 (ft:Nat)):=Af.cell (Ab H7 rfl);have a1:∀q:Af V2,q.w.cell? ⟨ba,oa+ef*2,none⟩=some (S (R pa.x)):=Af.cell (hx2.cellS ha1);have a2:∀q:Af V2,q.w.cell? ⟨ba,oa+ef*2+1,none⟩=some (S (R pa.y)):=Af.cell (hx2.cellS ha2);have a3:∀q:Af V2,q.w.cell? ⟨ba,oa+et*2,none⟩=some (S (R pb.x)):=Af.cell (hx2.cellS hb1);have a4:∀q:Af V2,q.w.cell? ⟨ba,oa+et*2+1,none⟩=some (S (R pb.y)):=Af.cell (hx2.cellS hb2);have a5:∀q:Af V2,q.w.cell? ⟨ba,oa+ff*2,none⟩=some (S (R pc.x)):=Af.cell (hx2.cellS hc1);have a6:∀q:Af V2,q.w.cell? ⟨ba,oa+ff*2+1,none⟩=some (S (R pc.y)):=Af.cell (hx2.cellS hc2);have a7:∀q:Af V2,q.w.cell? ⟨ba,oa+ft*2,none⟩=some (S (R pd.x)):=Af.cell (hx2.cellS Vn);have a8:∀q:Af V2,q.w.cell? ⟨ba,oa+ft*2+1,none⟩=some (S (R pd.y)):=Af.cell (hx2.cellS Et);have cr:=fun q:Af V2=>AhQ pa pb pc pd PC hzb dU hzd hk (by omega) q.w (SC.ext q.h);obtain⟨cx,Vl⟩:=AmT (ML pa pb pc pd);rw [←Vl]at cr
        have hce:OL m.pts e f=cx:=by unfold OL Fe;rw [kF.out.1,kF.out.2,kH.out.1,kH.out.2,Vl,TL.out.1,TL.out.2,kW.out.1,kW.out.2];simp [Pm,Pn,aR,aW]
        have LD:=AmU hce;unfold Ak at cr;clear uS Hx ZZ H7 ha1 ha2 hb1 hb2 hc1 hc2 Vn Et PC hzb dU hzd Vl hce hg1 hg2 hg3 hg4 EU Bu;refine F3 (by kernel_rfl) (by kernel_rfl) ?_
        repeat (go_big_quiet_step (with_reducible refine qM (cr _)))
        refine wpQuiet_nil ?_;rintro _ ⟨q,rfl⟩;have Q5:=AmU (hx2.trans q.h);have xk:=AmU (hE.trans (hx3.trans q.h));clear q1 q2 q3 q4 q5 a1 a2 a3 a4 a5 a6 a7 a8 cr hx2 hx3
        cases cx
        ·go_wp2;go_roundw
         case rel=>
          refine⟨jj+1,by go_num,by omega,?_,Q5.out⟩;intro x hx;rw [Ana NI,←kJ.out]at hx
          rcases List.mem_append.1 hx with h|h
          ·exact O0.out x h
          ·simp only [Ank]at h;rw [h];exact LD.out
         case measure=>simp [intOf];omega
        ·have HH:=AmU (show D8 m.pts [] m.eds=26 by
          rw [←HO.out,HS.out,if_pos];rw [←kG.out,List.any_eq_true]
          exact⟨f,by rw [kJ.out,List.mem_take_iff_getElem];exact⟨jj,by omega,rfl⟩,LD.out⟩)
         have HR:=AmU (show r=26 from jX.out (by rw [HH.out];omega));go_wp2;go_ret;exact⟨by rw [HR.out];rfl,xk.out⟩
       ·have bK:(j:Int)<=(jj:Int):=(by omega);obtain rfl:jj=j:=by omega
        have HH:=AmU (show D8 m.pts (m.eds.take (jj+1)) (m.eds.drop (jj+1))=D8 m.pts [] m.eds by
         rw [←HO.out,HS.out,if_neg];rw [←kG.out,Bool.not_eq_true,List.any_eq_false]
         intro x hx;rw [O0.out x hx];simp)
        have HX:=AmU (hx1.trans Ac);go_wp2;go_roundw
        case rel=>exact⟨jj+1,by go_num,hlt,HH.out,HX.out⟩
        case measure=>simp [intOf];omega
     ·have hle:(m.eds.length:Int)<=(j:Int):=(by omega);have HH:=AmU (show D8 m.pts [] m.eds=0 by rw [←HO.out,List.drop_eq_nil_of_le (by omega)];unfold D8;rfl);go_wp2;go_meet;exact⟨HH.out,Ac⟩
   case rest=>
    obtain⟨hc3,hx1⟩:=hcut;obtain⟨wx,rfl⟩:=named hx1;have uh:=AmU (H4.out HN.out Xr.out EF.out hc3);have RX:=qA Xr.out EF.out;have K1:=(hx1.block _ (AmV hM)).trans hM;have x0:=Ab (o:=0) K1 rfl;have x1:=Ab (o:=1) K1 rfl;have x2:=Ab (o:=2) K1 rfl;have BQ:=hE.trans hx1;have B8:Jm m c d g:=HC.out;have oc:=Ahg m A B F c d g B8 RX AdQ wx (HA.out.ext BQ) (HB.out.ext BQ);have Ae3:=hw.ext BQ;unfold C2 at oc;have ag:=fun (w2:World) (h2:Aa wx w2) (rn b1 b2:Nat) (E:List (Pt×Value×Nat)) (hn:Bo wx.heap.size w2 rn b1 b2 (AL m.pts m.eds) E (C3 m.pts m.eds))=>y7 Ae3 h2 hn rfl (ew m.pts m.eds) (fh RX kM.out hc3) (fC RX kM.out) (by rw [fD];omega) (fun e he=>by have:=SZ m.pts m.eds e he;omega) m.nf (by omega) (fg EF.out) (R1:=eY m) rfl (C:=Oa m) rfl (rg:=PQ m) rfl;have xB:∀(fn:Fn) (first cap:Array Value) (w:World),(Instr.makeFunc fn first cap).run Tryz.prog w=.ok (.func fn first cap) w:=fun _ _ _ _=>rfl;have kT:=AmU K1;obtain⟨fw,hfw⟩:=AmT (Rl (C3 m.pts m.eds) m.pts);obtain⟨ab,hab⟩:=AmT (LK (AL m.pts m.eds) m.nf (Oa m) (PQ m))
    have hr:r=if fw=true then 25 else if ab=true then 0 else 14:=by rw [uh.out,hfw,hab];rfl
    have uf:=AmU hfw;have HR:=AmU hr;rw [←hab]at ag;generalize (Ko (AL m.pts m.eds) m.nf (Oa m) (PQ m)).op=ao at *;clear K1 hx1 RX hc3 hfw hab hr H2 H3 jX
    go_upto_region 28 with fail
    (go_wp2_with fail);(with_reducible refine oc.mono ?_);rintro e w2 ⟨rn,b1,b2,E,rfl,hx2,Dc⟩;have ET:=(Aa.refl w2).alloc (.cells #[.pointer (some ⟨rn,0,none⟩)] 128);have BR:=AmW w2 (.cells #[.pointer (some ⟨rn,0,none⟩)] 128);have KQ:=Dc.ext ET;have hx3:=hx2.trans ET;have GL:=(hx3.block _ (AmV kT.out)).trans kT.out;have y0:=Ab (o:=0) GL rfl;clear x0 x1 x2 oc Dc
    go_upto_region 29 with fail
    generalize w2.alloc (.cells #[.pointer (some ⟨rn,0,none⟩)] 128)=w3 at *;obtain⟨bn,RP⟩:=AmT w2.heap.size;rw [←RP]at BR ⊢;clear RP;have af:=ze KQ bn (Ab BR rfl) m.pts A c (HA.out.ext (BQ.trans hx3)) (by assumption) (by assumption);rw [←uf.out]at af;(go_wp2_with fail);(with_reducible refine af.mono ?_);rintro e w4 ⟨rfl,Ai⟩;have zD:=hx3.trans Ai;have OW:=(Ai.block _ (AmV GL)).trans GL;have uQ:=(Ai.block _ (AmV BR)).trans BR;have z2:=Ab (o:=2) OW rfl;have z3:=Ab (o:=0) uQ rfl;have yv:=ag w4 zD rn b1 b2 E (KQ.ext Ai);clear ag af GL BR OW uQ y0 KQ hx2 hx3 ET Ai
    cases fw
    ·have MZ:=AmU (show r=if ab=true then 0 else 14 from HR.out);(go_wp2_with fail);(with_reducible refine yv.mono ?_);rintro e w5 ⟨rfl,Ad⟩
     cases ab
     ·obtain rfl:r=14:=MZ.out;go_wp2;go_ret;exact⟨rfl,BQ.trans Ad⟩
     ·obtain rfl:r=0:=MZ.out;go_wp2;go_ret;exact⟨rfl,BQ.trans Ad⟩
    ·obtain rfl:r=25:=HR.out;go_wp2;go_ret;exact⟨rfl,BQ.trans zD⟩
def Hr(m:Cm):Int:=
 if LP m=true then 4 else if CH [] m.pts≠0 then CH [] m.pts else if CW m.pts.length m.nf [] m.eds≠0 then CW m.pts.length m.nf [] m.eds else if D8 m.pts [] m.eds≠0 then 26 else YD m
theorem ji(m:Cm)(hgr:∀p∈m.pts,D4 p)(A B F:Option Addr)(c d g:Nat)(B8:Jm m c d g)(w:World)(hw:An w)(hA:Ae w A (flat (Ao m.pts)))(hB:Ae w B (Bt m.eds)) :
  Calls Tryz.prog 33 #[C2 A B F m c d g] w (AA (Hr m) w):=by
 refine AhP m hgr (k:=200) (by omega) (by omega) (fun p hp=>(hgr p hp).sz (by omega)) A B F c d g B8 w hw hA hB (Hr m) ?_ ?_ ?_ ?_ ?_
 ·intro h;unfold Hr;rw [if_pos h]
 ·intro h h1;unfold Hr;rw [if_neg (by rw [h];simp),if_pos h1]
 ·intro h h1 h2;unfold Hr;rw [if_neg (by rw [h];simp),if_neg (by omega),if_pos h2]
 ·intro h h1 h2 h3;unfold Hr;rw [if_neg (by rw [h];simp),if_neg (by omega),if_neg (by omega),if_pos h3]
 ·intro h h1 h2 h3;unfold Hr;rw [if_neg (by rw [h];simp),if_neg (by omega),if_neg (by omega),if_neg (by omega)]
end Go.Proofs.YtbejphgbbpplbaaGreatDoor
