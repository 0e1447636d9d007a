/- X40: D8 S8. -/
import Derived.Test.YtjalkoacphhgdaaGreatDoorX39
import Derived.Deep.CutBlock
set_option maxRecDepth 100000
set_option maxHeartbeats 16000000
namespace Go.Proofs.YtjalkoacphhgdaaGreatDoor
open Go.RowKit Kl
open Go.ChangeMaps (setBlock)
theorem Tryz.infoBo:(Tryz.prog.info? 4).map (fun i=>(i.zero,i.size,i.bytes))=some (some (.bool false),1,1):=by kernel_rfl
theorem AjO(n:Nat)(hn:n<=200000)(c:Int)(hc:c=(n:Int))(W:World) :
  (Instr.makeSlice 213 (.int .i64 c) (.int .i64 c)).run Tryz.prog W=.ok (.slice (some ⟨W.heap.size,0,none⟩) n n) (W.alloc (.cells (madeCells #[.bool false] n) 4)):=by
 subst hc;obtain⟨i0,hi,hz0,hz1,hz2⟩:=info_parts Tryz.infoBo;have h:=run_make (P:=Tryz.prog) W 213 4 i0 (.bool false) Tryz.underlying213 hi hz0 .i64 .i64 n n (by omega) (by omega) (by rw [hz2];omega) (by omega);rw [hz1,Nat.mul_one]at h;simp only [Int.toNat_natCast]at h;exact h
theorem AkV(W:World)(base n:Nat)(hb:base<=W.heap.size)(hn:n<=200000) :
  (W.alloc (.cells (madeCells #[.bool false] n) 4)).ownsRow base 4 1 (.slice (some ⟨W.heap.size,0,none⟩) n n) n (Hi (List.replicate n false)):=by
 have h:=World.ownsRow_lit (w:=W) (base:=base) (e:=4) (size:=1) (madeCells #[.bool false] n) n hb (by unfold maxLen;omega) (by rw [size_madeCells];omega);rw [toList_madeCells_one]at h
 simpa [Hi]using h
theorem AcA(l:List Bool)(k:Nat)(b:Bool):(Hi l).set k (.bool b)=Hi (l.set k b):=by simp [Hi]
theorem AlY{w:World}{A:Option Addr}{l:List Int}(hr:Ad w A (l.map (Value.int .i64))){j:Nat}(h:j<l.length):∃b o,A=some ⟨b,o,none⟩/\w.cell? ⟨b,o+j,none⟩=some (.int .i64 l[j]):=by
 obtain⟨b,o,e,hc⟩:=hr.ad (by simp;omega);refine⟨b,o,e,?_⟩;rw [hc j (by simpa using h)];simp
theorem Xy{s:Sg}{L:List (Sg×Int)}(h:s∈L.map (·.1)):∃e∈L,AI s L=e.2:=by
 unfold AI;rw [List.mem_map]at h;obtain⟨x,hx,rfl⟩:=h
 cases hf:L.find? (fun e=>AL x.1 e.1)with
 | none=>
  rw [List.find?_eq_none]at hf;exact absurd (II.2 rfl) (hf x hx)
 | some e=>exact⟨e,List.mem_of_find?_eq_some hf,rfl⟩
structure FT(V wr:World)(B bm bs nf:Nat)(st:DL):Prop where
 face:FX wr bm st.face
 seen:wr.ownsRow B 4 1 (.slice (some ⟨bs,0,none⟩) nf nf) nf (Hi st.seen)
 but:Au (fun j=>j=bm∨j=bs) V wr
theorem FT.ext{V wr w':World}{B bm bs nf:Nat}{st:DL}(h:FT V wr B bm bs nf st)(hx:Aa wr w'):FT V w' B bm bs nf st:=
 ⟨(hx.block _ (AqI h.face)).trans h.face,AC h.seen hx,h.but.ext hx⟩
theorem FT.put{V wr:World}{B bm bs nf:Nat}{st:DL}(h:FT V wr B bm bs nf st)(hne:bm≠bs)(r z:Int)(hno:C6 r st.face=none) :
  ∃W',(Instr.mapUpdate 212 (.map (some bm)) (.int .i64 r) (.int .i64 z)).run Tryz.prog wr=.ok () W'/\FT V W' B bm bs nf {st with face:=st.face ++ [(r,z)]}:=by
 obtain⟨W',h1,h2,h3,-⟩:=h.face.put r z hno;refine⟨W',h1,h2,rj h.seen h3 (by simp only [Value.ownBlock,ne_eq,AqO];exact fun e=>hne e.symm),h.but.grown h3 (fun k e=>by cases e;exact .inl (.inl rfl))⟩
theorem FT.set{V wr:World}{B bm bs nf:Nat}{st:DL}(h:FT V wr B bm bs nf st)(hne:bm≠bs)(k:Nat) :
  FT V (wr.setCell ⟨bs,k,none⟩ (.bool true)) B bm bs nf {st with seen:=st.seen.set k true}:=by
 have h1:=h.seen.stored k (.bool true);rw [AcA]at h1;refine⟨?_,h1.1,h.but.grown h1.2 (fun q e=>by cases e;exact .inl (.inr rfl))⟩;exact(h1.2.block bm (AqI h.face) (by simp only [ne_eq,AqO];exact hne)).trans h.face
theorem qL{w0 w:World}(hw:Am w0)(hx:Aa w0 w){r b1 b2:Nat}{L:List (Sg×Int)}{E:List (Pt×Value×Nat)}{R0:List (Pt×List Pt)}(h:Bw w0.heap.size w r b1 b2 L E R0){W:List Sg}(Li:W=L.map (·.1))(hN:EW W R0)(hW:Px W)(hgr:∀s∈W,JL s)
  (hlen:L.length<=100000) (hrl:∀e∈R0,e.2.length<100000) (nf:Nat) (Qm:nf<=100000) (O7:∀x∈L,-1<=x.2/\x.2<(nf:Int)) {R1:List (Pt×List Pt)} (hR1:R1=R0.map (fun e=>(e.1,Ea e.1 e.2))) {C:List (List Sg)} (hC:C=Is W R1) {rg:List Int} (hrg:rg=Kv W C) :
  Calls Tryz.prog 84 #[.pointer (some ⟨r,0,none⟩),.int .i64 (nf:Nat)] w fun e w'=>e=.returned (.tuple #[.bool (Mx L nf C rg),.bool (KR L nf C rg).op])/\Aa w0 w'/\Bw w0.heap.size w' r b1 b2 L E R1:=by
 have hmm:=@run_makeMap Tryz.prog;have so:=sort_c hw hx h (Amx hW hN hrl);rw [←hR1]at so;have Hp:EW W R1:=by rw [hR1];exact hN.sorted
 have il:∀e∈R1,e.2.length<100000:=by intro e he;rw [hR1,List.mem_map]at he;obtain⟨x,hx,rfl⟩:=he;have:=hrl x hx;rw [show (Ea x.1 x.2).length=x.2.length from(Yt x.1 x.2).length_eq];exact this
 obtain⟨U,Aj,hall⟩:=Aee Hp;have hG:Rj W U C:=⟨by rw [hC];exact Aj,hall,hW.x.good,hgr,by rw [Li];simpa using hlen⟩
 have wL:C.length<=100000:=by have h1:=Xv hG.ok.ne;rw [hG.ok.flat]at h1;have h2:=Kn hG.ok.nd hG.ok.sub;have:=hG.len;omega
 have io:rg.length=C.length:=(by rw [hrg];simp [Kv]);have cy:=fun (w1:World) (h1:Aa w0 w1) (k:Bw w0.heap.size w1 r b1 b2 L E R1)=>Aef hw h1 k (by rw [←Li];exact Hp) (by rw [←Li];exact hW) hlen il;rw [←Li,←hC]at cy;have rc:=fun (w1:World) (hw1:Am w1) (k:Bw w0.heap.size w1 r b1 b2 L E R1) (A:Option Addr) (cap:Nat) (hA:Mi w1 A cap C)=>Aml hw1 k Li hG hA;rw [←hrg]at rc
 have hcw:∀i (hi:i<C.length),∀s∈C[i],-1<=AI s L/\AI s L<(nf:Int):=by intro i hi s hs;have h1:s∈W:=hG.ok.sub s (by rw [←hG.ok.flat];exact List.mem_flatten.2 ⟨_,AqL hi,hs⟩);rw [Li]at h1;obtain⟨e,he,h2⟩:=Xy h1;rw [h2];exact O7 e he
 have HCW:=AqH hcw;clear hcw O7 hR1 hrl il Aj hall hC hrg hN hW hgr Li hx h Hp hG;have HA:=AqH (show Mx L nf C rg=((Hh L (C.zip rg) (Ip nf)).ok && !((Hh L (C.zip rg) (Ip nf)).seen.contains false))from rfl);have HO:=AqH (show (KR L nf C rg).op=(Hh L (C.zip rg) (Ip nf)).op from rfl);generalize Mx L nf C rg=vA at *;generalize (KR L nf C rg).op=vO at *;go_enter Tryz.func84,Tryz.ntmps84;(go_wp2_with fail);(with_reducible refine so.mono ?_);rintro e w1 ⟨rfl,hx1,-,Nj⟩;(go_wp2_with fail);(with_reducible refine(cy _ hx1 Nj).mono ?_);rintro e w2 ⟨A,cap,rfl,Dw,hx2⟩;have Da:=Nj.ext hx2;have Qt:=hx1.trans hx2;(go_wp2_with fail);(with_reducible refine(rc _ (hw.ext Qt) Da A cap Dw).mono ?_);rintro e w3 ⟨A',rfl,AN,hx3⟩;have Lz:=Da.ext hx3;have zP:=Dw.ext hx3;have js:=Qt.trans hx3;clear so cy rc Nj Da hx1 hx2 hx3 Dw Qt;have Fc:=(Aa.refl w3).alloc (.map #[] 0);have Iw:FX (w3.alloc (.map #[] 0)) w3.heap.size []:=AqJ w3 (.map #[] 0);obtain⟨W4,hput,Dt,hg4,Kj⟩:=Iw.put (-1) (-1) rfl;have hmk:=AjO nf (by omega) (nf:Int) rfl W4;have Iy:Au (fun j=>j=w3.heap.size) w3 W4:=((Au.refl _ w3).ext Fc).grown hg4 (fun k e=>by cases e;exact .inl rfl);have Gc:Aa w3 W4:=Iy.toExt (Aa.refl w3) (fun k e=>by subst e;exact AqK _);have PH:=(Aa.refl W4).alloc (.cells (madeCells #[.bool false] nf) 4);have own:=AkV W4 w0.heap.size nf (AqU js.size Gc.size) (by omega);have wT:FX (W4.alloc (.cells (madeCells #[.bool false] nf) 4)) w3.heap.size [(-1,-1)]:=(PH.block _ (AqI Dt)).trans Dt;have ir:W4.heap.size=w3.heap.size+1:=(by rw [Kj];simp);rw [ir]at own;have wP:=Gc.trans PH;have Sv:FT (W4.alloc (.cells (madeCells #[.bool false] nf) 4)) (W4.alloc (.cells (madeCells #[.bool false] nf) 4)) w0.heap.size w3.heap.size (w3.heap.size+1) nf (Ip nf):=⟨wT,own,Au.refl _ _⟩
 go_upto_region 6 with fail
 clear hmk own wT Dt hg4 hput Iw Fc Iy PH Gc Kj ir hmm;generalize W4.alloc (.cells (madeCells #[.bool false] nf) 4)=V at *;obtain⟨bm,Dv⟩:=AqG w3.heap.size;rw [←Dv]at Sv ⊢;have Apv:w3.heap.size<=bm:=(by omega);clear Dv W4;have hl0:(0:Int)<=(C.length:Int):=(by omega);have hne:bm≠bm+1:=(by omega);have KD:=AqH io;have Ig:=AqH Lz;have Mm:=AqH zP;have FA:=AqH AN;clear io Lz zP AN
 go_upto_region 8 with fail
 go_loopw [4,5,30] (fun o p i wr=>∃(k:Nat) (st:DL),i=.int .i64 (k:Nat)/\k<=C.length/\o=.bool st.ok/\p=.bool st.op/\st=Hh L ((C.zip rg).take k) (Ip nf)/\FT V wr w0.heap.size bm (bm+1) nf st) (fun _ _ i _=>C.length-(intOf i).toNat)
 case atStart=>exact⟨0,Ip nf,rfl,by omega,rfl,rfl,rfl,Sv⟩
 case round=>
  obtain⟨k,st,rfl,hk,rfl,rfl,hst,hA⟩:=hrel;have BL:Aa w3 wr:=hA.but.toExt wP (fun q e=>by rcases e with e|e<;>omega);have HST:=AqH hst;clear hst;by_cases hlt:k<C.length
  ·obtain⟨bA,oA,A2,c2,rfl,hcell,Jq,hc1,hc2⟩:=Mm.out.row k hlt;replace hcell:=BL.cellS hcell;obtain⟨bB,oB,rfl,WY⟩:=AlY (FA.out.ext BL) (show k<rg.length by rw [KD.out];exact hlt);obtain⟨rr,DI⟩:∃rr,rr=rg[k]'(by rw [KD.out];exact hlt):=⟨_,rfl⟩;rw [←DI]at WY;have hk0:(0:Int)<=(k:Int):=(by omega);have BH:(k:Int)<(C.length:Int):=(by omega);obtain⟨c,hcc⟩:=AqG (C[k]);have hz:=HCW.out k hlt
   have hstep:Hh L ((C.zip rg).take (k+1)) (Ip nf)=Io L rr st c:=by rw [AqN (show k<(C.zip rg).length by rw [List.length_zip,KD.out];omega),Acb,←HST.out,List.getElem_zip,←DI,←hcc]
   rw [←hcc]at hcell Jq hc1 hz;have UG:=AqH hstep;have HZ:=AqH hz;have hcl:(0:Int)<=(c.length:Int):=(by omega);have hc0:Io L rr st (c.take 0)=st:=rfl;have HC0:=AqH hc0;have CN:st.seen.length=nf:=(by rw [HST.out,qK];simp [Ip]);have He:=AqH CN;clear hcc DI hstep hz hc0 CN
   go_upto_region 11 with fail
   go_loopw [4,5,40] (fun o p i wi=>∃(j:Nat) (sj:DL),i=.int .i64 (j:Nat)/\j<=c.length/\o=.bool sj.ok/\p=.bool sj.op/\sj=Io L rr st (c.take j)/\FT V wi w0.heap.size bm (bm+1) nf sj) (fun _ _ i _=>c.length-(intOf i).toNat)
   case atStart=>exact⟨0,st,rfl,by omega,rfl,rfl,HC0.out.symm,hA⟩
   case round=>
    obtain⟨j,sj,rfl,hj,rfl,rfl,hsj,VB⟩:=hrel;have YY:=AqH hsj;clear hsj;by_cases AV:j<c.length
    ·have VY:Aa w3 wr:=VB.but.toExt wP (fun q e=>by rcases e with e|e<;>omega);obtain⟨b',o',rfl,f1,f2,f3,f4⟩:=NC (Jq.ext VY) AV;have hzs:=HZ.out c[j] (AqL AV);have Wd:Io L rr st (c.take (j+1))=Dm rr (AI c[j] L) sj:=(by rw [AqN AV,Aca,←YY.out]);have CN:sj.seen.length=nf:=(by rw [YY.out,qJ];exact He.out);obtain⟨s,hs⟩:=AqG (c[j]);rw [←hs]at f1 f2 f3 f4 hzs Wd;have hj0:(0:Int)<=(j:Int):=(by omega);have Gh:(j:Int)<(c.length:Int):=(by omega);have AA:=AqJ wr (.cells #[S (R s.a.x),S (R s.a.y),S (R s.b.x),S (R s.b.y)] 155);have E6:=(Aa.refl wr).alloc (.cells #[S (R s.a.x),S (R s.a.y),S (R s.b.x),S (R s.b.y)] 155);have bD:=VB.ext E6;have WO:=Ig.out.ext (VY.trans E6);clear hs VB hA BL
     go_upto_region 13 with fail
     unfold S at AA bD WO;generalize (wr.alloc (.cells #[.string ⟨(R s.a.x).toArray⟩,.string ⟨(R s.a.y).toArray⟩,.string ⟨(R s.b.x).toArray⟩,.string ⟨(R s.b.y).toArray⟩] 155))=W6 at *;obtain⟨bx,MX⟩:=AqG wr.heap.size;rw [←MX]at AA ⊢;clear MX f1 f2 f3 f4 E6;have q1:∀q:Af W6,q.w.cell? ⟨r,0,none⟩=some (.map (some b1)):=Af.cell (Ab WO.cell rfl);have q2:∀q:Af W6,q.w.cell? ⟨bx,0,none⟩=some (S (R s.a.x)):=Af.cell (Ab AA rfl);have q3:∀q:Af W6,q.w.cell? ⟨bx,1,none⟩=some (S (R s.a.y)):=Af.cell (Ab AA rfl);have q4:∀q:Af W6,q.w.cell? ⟨bx,2,none⟩=some (S (R s.b.x)):=Af.cell (Ab AA rfl);have q5:∀q:Af W6,q.w.cell? ⟨bx,3,none⟩=some (S (R s.b.y)):=Af.cell (Ab AA rfl);have q6:=fun (q:Af W6)=>QP s L (WO.ext q.h).left;obtain⟨z,hz⟩:=AqG (AI s L);rw [←hz]at q6 hzs Wd;unfold As at q6;have HN:=AqH Wd;clear hz Wd AA WO;refine F5 (by kernel_rfl) (by kernel_rfl) ?_
     repeat (go_big_quiet_step (fail))
     refine wpQuiet_nil ?_;rintro W7 ⟨q,hq⟩;have Aw:Aa W6 W7:=hq▸q.h;clear hq q;have IZ:=bD.ext Aw;have lk:=lT rr sj.face IZ.face;clear q1 q2 q3 q4 q5 q6 bD Aw
     cases hl:C6 rr sj.face with
     | some old=>
      rw [hl]at lk;simp only [Option.getD_some,Option.isSome_some]at lk;have he:Dm rr z sj=⟨sj.ok&&decide (old=z),sj.op,sj.face,sj.seen⟩:=(by unfold Dm;rw [hl]);have Hn:FT V W7 w0.heap.size bm (bm+1) nf (Dm rr z sj):=(by rw [he];exact⟨IZ.face,IZ.seen,IZ.but⟩);have HE:=AqH he;clear he IZ
      cases Aj:sj.ok
      ·have F8:=AqH Aj;go_wp2;go_roundw
       case rel=>exact⟨j+1,Dm rr z sj,by go_num,AV,by rw [HE.out,F8.out];rfl,by rw [HE.out],HN.out.symm,Hn⟩
       case measure=>simp [intOf];omega
      ·have F8:=AqH Aj;by_cases WW:old=z
       ·have HD:=AqH (decide_eq_true WW);subst WW;go_wp2;go_roundw
        case rel=>exact⟨j+1,Dm rr old sj,by go_num,AV,by rw [HE.out,F8.out,HD.out];rfl,by rw [HE.out],HN.out.symm,Hn⟩
        case measure=>simp [intOf];omega
       ·have HD:=AqH (decide_eq_false WW);have hb:(old == z)=false:=beq_false_of_ne WW;go_wp2;go_roundw
        case rel=>exact⟨j+1,Dm rr z sj,by go_num,AV,by rw [HE.out,F8.out,HD.out];rfl,by rw [HE.out],HN.out.symm,Hn⟩
        case measure=>simp [intOf];omega
     | none=>
      rw [hl]at lk;simp only [Option.getD_none,Option.isSome_none]at lk;by_cases hz0:z<0
      ·have he:Dm rr z sj=⟨false,true,sj.face ++ [(rr,z)],sj.seen⟩:=(by unfold Dm;rw [hl];simp only;rw [if_pos hz0]);obtain⟨W8,hput,Hn⟩:=IZ.put hne rr z hl;have Sw:FT V W8 w0.heap.size bm (bm+1) nf (Dm rr z sj):=(by rw [he];exact⟨Hn.face,Hn.seen,Hn.but⟩);have HE:=AqH he;clear he IZ Hn;go_wp2;go_roundw
       case rel=>exact⟨j+1,Dm rr z sj,by go_num,AV,by rw [HE.out],by rw [HE.out],HN.out.symm,Sw⟩
       case measure=>simp [intOf];omega
      ·obtain⟨m,rfl⟩:∃m:Nat,z=(m:Int):=⟨z.toNat,by omega⟩;have hm:m<nf:=(by omega);obtain⟨sv,gY⟩:=AqG (sj.seen.getD m false)
       have he:Dm rr (m:Int) sj=⟨sj.ok && !sv,sj.op,sj.face ++ [(rr,(m:Int))],sj.seen.set m true⟩:=by unfold Dm;rw [hl];simp only;rw [if_neg hz0,gY];rfl
       have hce:W7.cell? ⟨bm+1,m,none⟩=some (.bool sv):=by
        rw [IZ.seen.cellAt m (by omega),gY];unfold Hi;rw [List.getElem?_map,List.getD_eq_getElem?_getD,AqP (by omega)]
        rfl
       have Qc:=IZ.seen.frozenAt m;obtain⟨W8,hput,Hn⟩:=(IZ.set hne m).put hne rr (m:Int) hl;have Sw:FT V W8 w0.heap.size bm (bm+1) nf (Dm rr (m:Int) sj):=(by rw [he];exact⟨Hn.face,Hn.seen,Hn.but⟩);have HE:=AqH he;have hm0:(0:Int)<=(m:Int):=(by omega);have hm1:(m:Int)<(nf:Int):=(by omega);clear he IZ Hn gY
       cases Aj:sj.ok
       ·have F8:=AqH Aj;go_wp2;go_roundw
        case rel=>exact⟨j+1,Dm rr (m:Int) sj,by go_num,AV,by rw [HE.out,F8.out];rfl,by rw [HE.out],HN.out.symm,Sw⟩
        case measure=>simp [intOf];omega
       ·have F8:=AqH Aj
        cases sv
        ·go_wp2;go_roundw
         case rel=>exact⟨j+1,Dm rr (m:Int) sj,by go_num,AV,by rw [HE.out,F8.out];rfl,by rw [HE.out],HN.out.symm,Sw⟩
         case measure=>simp [intOf];omega
        ·go_wp2;go_roundw
         case rel=>exact⟨j+1,Dm rr (m:Int) sj,by go_num,AV,by rw [HE.out,F8.out];rfl,by rw [HE.out],HN.out.symm,Sw⟩
         case measure=>simp [intOf];omega
    ·have Kf:j=c.length:=(by omega);subst Kf;have AS:sj=Hh L ((C.zip rg).take (k+1)) (Ip nf):=(by rw [UG.out,YY.out,List.take_length]);have HF:=AqH AS;clear AS;have fG:(c.length:Int)<=(c.length:Int):=(by omega);go_wp2;go_roundw
     case rel=>exact⟨k+1,sj,by go_num,hlt,rfl,rfl,HF.out,VB⟩
     case measure=>simp [intOf];omega
  ·have Bt:k=C.length:=(by omega);subst Bt;have AS:st=Hh L (C.zip rg) (Ip nf):=(by rw [HST.out,AqS (by rw [List.length_zip];omega)]);have HF:=AqH AS;obtain⟨A3,AoS,Hw,ig,V8,V9⟩:=Ad.of_own' (by omega) hA.seen;simp only [Value.slice.injEq,true_and]at Hw;obtain⟨rfl,rfl⟩:=Hw;have CN:st.seen.length=nf:=(by rw [HST.out,qK];simp [Ip]);have cb:=AdU st.seen false (some ⟨bm+1,0,none⟩) nf wr ig (by omega) V9;rw [CN]at cb;have hv:vA=(st.ok && !(st.seen.contains false)):=(by rw [HA.out,←HF.out]);have ho:vO=st.op:=(by rw [HO.out,←HF.out]);have HV:=AqH hv;subst ho;obtain⟨cv,hcv⟩:=AqG (st.seen.contains false);rw [←hcv]at cb;have HCV:=AqH hcv;have xU:=js.trans BL;clear AS CN hv hcv hA ig
   cases Aj:st.ok
   ·have F8:=AqH Aj;obtain rfl:vA=false:=(by rw [HV.out,F8.out];rfl);go_wp2;go_ret2;exact⟨rfl,xU,Ig.out.ext BL⟩
   ·have F8:=AqH Aj;obtain rfl:vA = !cv:=(by rw [HV.out,F8.out,←HCV.out];rfl);(go_wp2_with fail);(with_reducible refine cb.mono ?_);rintro e w9 ⟨rfl,BM⟩;go_wp2;go_ret2;exact⟨rfl,xU.trans BM,Ig.out.ext (BL.trans BM)⟩
theorem Ace{w0 w:World}(hw:Am w0)(hx:Aa w0 w){r b1 b2:Nat}{L:List (Sg×Int)}{E:List (Pt×Value×Nat)}{R0:List (Pt×List Pt)}(h:Bw w0.heap.size w r b1 b2 L E R0){W:List Sg}(Li:W=L.map (·.1))(hN:EW W R0)(hW:Px W)(hgr:∀s∈W,JL s)
  (hlen:L.length<=100000) (hrl:∀e∈R0,e.2.length<100000) (nf:Nat) (Qm:nf<=100000) (O7:∀x∈L,-1<=x.2/\x.2<(nf:Int)) {R1:List (Pt×List Pt)} (hR1:R1=R0.map (fun e=>(e.1,Ea e.1 e.2))) {C:List (List Sg)} (hC:C=Is W R1) {rg:List Int} (hrg:rg=Kv W C) :
  Calls Tryz.prog 84 #[.pointer (some ⟨r,0,none⟩),.int .i64 (nf:Nat)] w fun e w'=>e=.returned (.tuple #[.bool (Mx L nf C rg),.bool (KR L nf C rg).op])/\Aa w0 w':=(qL hw hx h Li hN hW hgr hlen hrl nf Qm O7 hR1 hC hrg).mono fun _ _ k=>⟨k.1,k.2.1⟩
end Go.Proofs.YtjalkoacphhgdaaGreatDoor
namespace Go.Proofs.YtjalkoacphhgdaaGreatDoor
open Go.RowKit Kl
theorem Afr(l:List (Bs×Bs))(i:Nat):flat (l.take i)=(flat l).take (i*2):=by
 induction l generalizing i with
 | nil=>simp [flat]
 | cons e l ih=>
  cases i with
  | zero=>simp [flat]
  | succ i=>have e0:∀l,flat (e::l)=S e.1::S e.2::flat l:=fun _=>rfl;rw [List.take_succ_cons,e0,e0,ih];have e1:(i+1)*2=i*2+1+1:=(by omega);rw [e1];simp
theorem Al2(l:List Pt)(i:Nat):Ao (l.take i)=(Ao l).take i:=by unfold Ao;rw [List.map_take]
theorem AdW(l:List Pt)(i:Nat)(hi:i<=l.length)(p:Pt)(A:Option Addr)(c:Nat)(w:World)(hr:Ad w A (flat (Ao l)))(hc:l.length<=c)(hcm:c<=9223372036854775807) :
  Calls Tryz.prog 78 #[.slice A i c,Ak p] w (Bv ((l.take i).any (Ap p)) w):=by
 have:=contains_c (l.take i) p A c w (by rw [Al2,Afr];exact hr.take _) (by rw [List.length_take];omega) hcm;rw [List.length_take,Nat.min_eq_left hi]at this;exact this
def kA(m:Cw):List Sg:=(AO m.pts m.eds).map (·.1)
def jZ(m:Cw):List (Pt×List Pt):=(C7 m.pts m.eds).map (fun e=>(e.1,Ea e.1 e.2))
def OK(m:Cw):List (List Sg):=Is (kA m) (jZ m)
def Q7(m:Cw):List Int:=Kv (kA m) (OK m)
def ZQ(m:Cw):Int:=if Sp (C7 m.pts m.eds) m.pts=true then 25 else if Mx (AO m.pts m.eds) m.nf (OK m) (Q7 m)=true then 0 else 14
theorem Alh(m:Cw)(hgr:∀p∈m.pts,Ee p){k:Nat}(hk:0<k)(hk2:k<=200)(hz:∀p∈m.pts,Ar k p)(A B F:Option Addr)(c d g:Nat)(C4:K3 m c d g)(w:World)(hw:Am w)(hA:Ad w A (flat (Ao m.pts)))(hB:Ad w B (B7 m.eds))(r:Int)
  (h0:M6 m=true→r=4) (h1:M6 m=false→CV [] m.pts≠0→r=CV [] m.pts)
  (h2:M6 m=false→CV [] m.pts=0→Dg m.pts.length m.nf [] m.eds≠0→r=Dg m.pts.length m.nf [] m.eds) (h3:M6 m=false→CV [] m.pts=0→Dg m.pts.length m.nf [] m.eds=0→DU m.pts [] m.eds≠0→r=26)
  (h4:M6 m=false→CV [] m.pts=0→Dg m.pts.length m.nf [] m.eds=0→DU m.pts [] m.eds=0→r=ZQ m) :
  Calls Tryz.prog 33 #[DK A B F m c d g] w (Ax r w):=by
 have HA:=AqH hA;have HB:=AqH hB;have HZ:=AqH hz;have H0:=AqH h0;have H1:=AqH h1;have H2:=AqH h2;have H3:=AqH h3;have H4:=AqH h4;have oI:=AqH hgr;have HC:=AqH C4;obtain⟨c1,c2,d1,d2,g1,g2⟩:=C4;have HL:=AqH (show M6 m=(decide (400<m.pts.length)||(decide (1200<m.eds.length)||decide (800<m.nf)))from rfl);have hM:=AqJ w (.cells #[.slice A m.pts.length c,.slice B m.eds.length d,.slice F m.nf g] 36);have hE:=(Aa.refl w).alloc (.cells #[.slice A m.pts.length c,.slice B m.eds.length d,.slice F m.nf g] 36);unfold DK;clear hA hB hz h0 h1 h2 h3 h4 hgr;go_enter Tryz.func33,Tryz.ntmps33
 go_upto_region 1 with fail
 generalize w.alloc (.cells #[.slice A m.pts.length c,.slice B m.eds.length d,.slice F m.nf g] 36)=V at *;obtain⟨bm,Dv⟩:=AqG w.heap.size;rw [←Dv]at hM ⊢;have hle:w.heap.size<=bm:=(by omega);clear Dv;have m1:=Ab (o:=0) hM rfl;have m2:=Ab (o:=1) hM rfl;have m3:=Ab (o:=2) hM rfl;by_cases n1:(400:Int)<(m.pts.length:Int)
 ·have dd:decide ((400:Int)<(m.pts.length:Int))=true:=decide_eq_true n1;have HH:=AqH (show r=4 from H0.out (by rw [HL.out,decide_eq_true (by omega)];rfl));go_wp2;go_ret;exact⟨by rw [HH.out];rfl,hE⟩
 have tO:decide ((400:Int)<(m.pts.length:Int))=false:=decide_eq_false n1;by_cases n2:(1200:Int)<(m.eds.length:Int)
 ·have dd:decide ((1200:Int)<(m.eds.length:Int))=true:=decide_eq_true n2;have HH:=AqH (show r=4 from H0.out (by rw [HL.out,decide_eq_true (p:=1200<m.eds.length) (by omega)];simp));clear n1;go_wp2;go_ret;exact⟨by rw [HH.out];rfl,hE⟩
 have aA:decide ((1200:Int)<(m.eds.length:Int))=false:=decide_eq_false n2;by_cases n3:(800:Int)<(m.nf:Int)
 ·have dd:decide ((800:Int)<(m.nf:Int))=true:=decide_eq_true n3;have HH:=AqH (show r=4 from H0.out (by rw [HL.out,decide_eq_true (p:=800<m.nf) (by omega)];simp));clear n1 n2;go_wp2;go_ret;exact⟨by rw [HH.out];rfl,hE⟩
 have tP:decide ((800:Int)<(m.nf:Int))=false:=decide_eq_false n3;have HN:=AqH (show M6 m=false by rw [HL.out,decide_eq_false (by omega),decide_eq_false (by omega),decide_eq_false (by omega)];rfl);have ApY:m.pts.length<=400:=(by omega);have AgM:m.eds.length<=1200:=(by omega);have Ap4:m.nf<=800:=(by omega);clear n1 n2 n3 HL H0
 go_upto_block 0 with fail
 clear tO aA tP m1 m2 m3
 go_cut [] (fun wx=>CV [] m.pts=0/\Aa V wx)
 case first=>
  (go_wp2_with fail)
  go_loopw [33] (fun i wr=>∃j:Nat,i=.int .i64 (j:Nat)/\j<=m.pts.length/\CV (m.pts.take j) (m.pts.drop j)=CV [] m.pts/\Aa V wr) (fun i _=>m.pts.length-(intOf i).toNat)
  case atStart=>exact⟨0,rfl,by omega,by simp,Aa.refl _⟩
  case round=>
   obtain⟨j,rfl,hj,Aj,Ac⟩:=hrel;have HO:=AqH Aj;clear Aj;by_cases hlt:j<m.pts.length
   ·obtain⟨b,o,rfl,hg1,hg2⟩:=C2 ((HA.out.ext hE).ext Ac) hlt;have hz:=HZ.out m.pts[j] (AqL hlt);obtain⟨p,hp⟩:=AqG (m.pts[j]);have HP:=AqH hp;have HS:=AqH (Adv hlt);rw [←hp]at hg1 hg2 hz;have hj0:(0:Int)<=(j:Int):=(by omega);have AV:(j:Int)<(m.pts.length:Int):=(by omega);have WE:(j:Int)<=(c:Int):=(by omega);have AY:=AqJ wr (.cells #[S (R p.x),S (R p.y)] 92);have hx1:=Ac.alloc (.cells #[S (R p.x),S (R p.y)] 92);have ck:=sF (R p.x) (R p.y) true (by simp only [true_iff];exact⟨XR hz.x hk hk2,XR hz.y hk hk2⟩) (Yy hz.x hk (by omega)) (Yy hz.y hk (by omega));rw [KU]at ck;clear hp hz
    go_upto_region 6 with fail
    generalize wr.alloc (.cells #[S (R p.x),S (R p.y)] 92)=V1 at *;obtain⟨bp,MV⟩:=AqG wr.heap.size;rw [←MV]at AY ⊢;clear MV hg1 hg2;have k1:=Ab (o:=0) AY rfl;have k2:=Ab (o:=1) AY rfl;(go_wp2_with fail);(with_reducible refine(ck _ (hw.ext (hE.trans hx1))).mono ?_);rintro e w2 ⟨rfl,hx2⟩;have I2:=(hx2.block _ (AqI AY)).trans AY;replace hx2:=hx1.trans hx2;have hw2:=hw.ext (hE.trans hx2);have Ix:=(hx2.block _ (AqI hM)).trans hM;have f1:∀q:Af w2,q.w.cell? ⟨bp,0,none⟩=some (S (R p.x)):=Af.cell (Ab I2 rfl);have f2:∀q:Af w2,q.w.cell? ⟨bp,1,none⟩=some (S (R p.y)):=Af.cell (Ab I2 rfl);have f3:∀q:Af w2,q.w.cell? ⟨bm,0,none⟩=some (.slice (some ⟨b,o,none⟩) m.pts.length c):=Af.cell (Ab Ix rfl);have ct:=fun q:Af w2=>AdW m.pts j hj p (some ⟨b,o,none⟩) c q.w ((HA.out.ext (hE.trans hx2)).ext q.h) c1 c2;unfold Ak at ct;obtain⟨du,Kc⟩:=AqG ((m.pts.take j).any (Ap p));rw [←Kc]at ct;have HD:=AqH Kc;clear Kc k1 k2 ck AY I2 Ix hx1 Ac;(go_wp2_with fail);refine F5 (by kernel_rfl) (by kernel_rfl) ?_
    repeat (go_big_quiet_step (with_reducible refine uU (ct _)))
    refine wpQuiet_nil ?_;rintro _ ⟨q,rfl⟩;have hxq:=hx2.trans q.h;have HQ:=AqH hxq
    cases du
    ·have HH:=AqH (show CV (m.pts.take (j+1)) (m.pts.drop (j+1))=CV [] m.pts by
      rw [←HO.out,HS.out,←HP.out,←HD.out];rfl)
     go_wp2;go_roundw
     case rel=>exact⟨j+1,by go_num,hlt,HH.out,HQ.out⟩
     case measure=>simp [intOf];omega
    ·have HH:=AqH (show CV [] m.pts=9 by rw [←HO.out,HS.out,←HP.out,←HD.out];rfl);have HR:=AqH (show r=9 by rw [←HH.out];exact H1.out HN.out (by rw [HH.out];omega));go_wp2;go_ret;exact⟨by rw [HR.out];rfl,hE.trans HQ.out⟩
   ·have hle:(m.pts.length:Int)<=(j:Int):=(by omega);have HH:=AqH (show CV [] m.pts=0 by rw [←HO.out,List.drop_eq_nil_of_le (by omega)];unfold CV;rfl);go_wp2;go_meet;exact⟨HH.out,Ac⟩
 case rest=>
  obtain⟨hc1,hx1⟩:=hcut;have nJ:=AqH (fun h=>H2.out HN.out hc1 h);have YG:=AqH hc1;have UI:=AqH hx1;have Lh:=(hx1.block _ (AqI hM)).trans hM;have m1:=Ab (o:=1) Lh rfl;clear hc1 H1 hx1
  go_upto_block 3 with fail
  clear m1
  go_cut [] (fun wx=>Dg m.pts.length m.nf [] m.eds=0/\Aa V wx)
  case first=>
   (go_wp2_with fail)
   go_loopw [53] (fun i wr=>∃j:Nat,i=.int .i64 (j:Nat)/\j<=m.eds.length/\Dg m.pts.length m.nf (m.eds.take j) (m.eds.drop j)=Dg m.pts.length m.nf [] m.eds/\Aa V wr) (fun i _=>m.eds.length-(intOf i).toNat)
   case atStart=>exact⟨0,rfl,by omega,by simp,UI.out⟩
   case round=>
    obtain⟨j,rfl,hj,Aj,Ac⟩:=hrel;have HO:=AqH Aj;clear Aj;by_cases hlt:j<m.eds.length
    ·have hj0:(0:Int)<=(j:Int):=(by omega);have AV:(j:Int)<(m.eds.length:Int):=(by omega);have HS:=AqH (Adx (np:=m.pts.length) (nf:=m.nf) hlt);have ce:=Adp m A B F c d g HC.out j hlt wr (HB.out.ext (hE.trans Ac));obtain⟨z,hz⟩:=AqG (JS m.pts.length m.nf (m.eds.take j) m.eds[j]);rw [←hz]at ce;have pJ:=AqH hz;unfold DK at ce;have EE:=(Ac.block _ (AqI hM)).trans hM;have m1:=Ab (o:=0) EE rfl;have m2:=Ab (o:=1) EE rfl;have m3:=Ab (o:=2) EE rfl;clear hz EE;(go_wp2_with fail);(with_reducible refine ce.mono ?_);rintro e w2 ⟨rfl,hx2⟩;have HX:=AqH (Ac.trans hx2);clear m1 m2 m3 hx2 ce;by_cases hz0:z=0
     ·have HH:=AqH (show Dg m.pts.length m.nf (m.eds.take (j+1)) (m.eds.drop (j+1))=Dg m.pts.length m.nf [] m.eds by
       rw [←HO.out,HS.out,←pJ.out,if_neg (by omega)])
      subst hz0;go_wp2;go_roundw
      case rel=>exact⟨j+1,by go_num,hlt,HH.out,HX.out⟩
      case measure=>simp [intOf];omega
     ·have HH:=AqH (show Dg m.pts.length m.nf [] m.eds=z by rw [←HO.out,HS.out,←pJ.out,if_pos (by omega)]);have HR:=AqH (show r=z by rw [←HH.out];exact nJ.out (by rw [HH.out];exact hz0));have dd:(z == 0)=false:=(by rw [beq_eq_false_iff_ne];exact hz0);have aA:(z != 0)=true:=(by rw [bne_iff_ne];exact hz0);clear hz0;go_wp2;go_ret;exact⟨by rw [HR.out];rfl,hE.trans HX.out⟩
    ·have hle:(m.eds.length:Int)<=(j:Int):=(by omega);have HH:=AqH (show Dg m.pts.length m.nf [] m.eds=0 by rw [←HO.out,List.drop_eq_nil_of_le (by omega)];unfold Dg;rfl);go_wp2;go_meet;exact⟨HH.out,Ac⟩
  case rest=>
   obtain⟨hc2,hx1⟩:=hcut;have nK:=AqH (fun h=>H3.out HN.out YG.out hc2 h);have ET:=AqH hc2;have JG:=AqH hx1;have Lh:=(hx1.block _ (AqI hM)).trans hM;have m1:=Ab (o:=1) Lh rfl;clear hc2 nJ UI hx1
   go_upto_region 18 with fail
   go_upto_block 5 with fail
   go_cut [] (fun wx=>DU m.pts [] m.eds=0/\Aa V wx)
   case first=>
    (go_wp2_with fail)
    go_loopw [66] (fun i wr=>∃j:Nat,i=.int .i64 (j:Nat)/\j<=m.eds.length/\DU m.pts (m.eds.take j) (m.eds.drop j)=DU m.pts [] m.eds/\Aa V wr) (fun i _=>m.eds.length-(intOf i).toNat)
    case atStart=>exact⟨0,rfl,by omega,by simp,JG.out⟩
    case round=>
     obtain⟨j,rfl,hj,Aj,Ac⟩:=hrel;have HO:=AqH Aj;clear Aj;by_cases hlt:j<m.eds.length
     ·have hj0:(0:Int)<=(j:Int):=(by omega);have AV:(j:Int)<(m.eds.length:Int):=(by omega);have hjd:(j:Int)<=(d:Int):=(by omega);have HS:=AqH (Adz (pts:=m.pts) hlt);obtain⟨b,o,rfl,hg1,hg2,hg3,hg4⟩:=Ui ((HB.out.ext hE).ext Ac) hlt;have hck:=Vh (RO (l:=m.eds) ET.out j hlt);obtain⟨e,he⟩:=AqG (m.eds[j]);rw [←he]at hg1 hg2 hg3 hg4 hck;have nY:=AqH he;obtain⟨ef,Ow⟩:∃n:Nat,e.f=(n:Int):=⟨e.f.toNat,by omega⟩;obtain⟨et,MZ⟩:∃n:Nat,e.t=(n:Int):=⟨e.t.toNat,by omega⟩;have PZ:ef<m.pts.length:=(by omega);have Qa:et<m.pts.length:=(by omega);have nX:=AqH (And.intro Ow MZ);rw [Ow]at hg1;rw [MZ]at hg2;obtain⟨ba,oa,rfl,ha1,ha2⟩:=C2 ((HA.out.ext hE).ext Ac) PZ;obtain⟨b2,o2,I3,hb1,hb2⟩:=C2 ((HA.out.ext hE).ext Ac) Qa;obtain⟨rfl,rfl⟩:ba=b2/\oa=o2:=(by simpa using I3);have Qv:=HZ.out m.pts[ef] (AqL PZ);have hzb:=HZ.out m.pts[et] (AqL Qa);obtain⟨pa,DZ⟩:=AqG (m.pts[ef]);obtain⟨pb,Jn⟩:=AqG (m.pts[et]);rw [←DZ]at ha1 ha2 Qv;rw [←Jn]at hb1 hb2 hzb;have UB:=AqH (And.intro DZ Jn);have f0:(0:Int)<=(ef:Int):=(by omega);have f1:(ef:Int)<(m.pts.length:Int):=(by omega);have f2:(0:Int)<=(et:Int):=(by omega);have f3:(et:Int)<(m.pts.length:Int):=(by omega);have EE:=(Ac.block _ (AqI hM)).trans hM;have m1:=Ab (o:=1) EE rfl;have AY:=AqJ wr (.cells #[.int .i64 (ef:Nat),.int .i64 (et:Nat),.int .i64 e.l,.int .i64 e.r] 126);have hx1:=Ac.alloc (.cells #[.int .i64 (ef:Nat),.int .i64 (et:Nat),.int .i64 e.l,.int .i64 e.r] 126);have hx0:=(Aa.refl wr).alloc (.cells #[.int .i64 (ef:Nat),.int .i64 (et:Nat),.int .i64 e.l,.int .i64 e.r] 126);replace ha1:=hx0.cellS ha1;replace ha2:=hx0.cellS ha2;replace hb1:=hx0.cellS hb1;replace hb2:=hx0.cellS hb2;clear hck he Ow MZ I3 DZ Jn
      go_upto_region 21 with fail
      generalize wr.alloc (.cells #[.int .i64 (ef:Nat),.int .i64 (et:Nat),.int .i64 e.l,.int .i64 e.r] 126)=V1 at *;obtain⟨bp,MV⟩:=AqG wr.heap.size;rw [←MV]at AY ⊢;clear MV hg1 hg2 hg3 hg4 Ac EE m1 hx0;have Fe:=(hx1.block _ (AqI hM)).trans hM;have m1:=Ab (o:=1) Fe rfl
      go_upto_region 22 with fail
      clear m1
      go_loopw [76] (fun i wr=>∃jj:Nat,i=.int .i64 (jj:Nat)/\jj<=j/\(∀f∈m.eds.take jj,P7 m.pts e f=false)/\Aa V1 wr) (fun i _=>j-(intOf i).toNat)
      case atStart=>exact⟨0,rfl,by omega,by simp,Aa.refl _⟩
      case round=>
       obtain⟨jj,rfl,Kf,Aj,Ac⟩:=hrel;have Pg:=AqH Aj;clear Aj;by_cases hlt2:jj<j
       ·have jj0:(0:Int)<=(jj:Int):=(by omega);have jjl:(jj:Int)<(j:Int):=(by omega);have O3:jj<m.eds.length:=(by omega);obtain⟨b',o',Br,hg1,hg2,hg3,hg4⟩:=Ui (((HB.out.ext hE).ext hx1).ext Ac) O3;obtain⟨rfl,rfl⟩:b=b'/\o=o':=(by simpa using Br);have hck:=Vh (RO (l:=m.eds) ET.out jj O3);obtain⟨f,hf⟩:=AqG (m.eds[jj]);rw [←hf]at hg1 hg2 hg3 hg4 hck;have oC:=AqH hf;obtain⟨ff,eL⟩:∃n:Nat,f.f=(n:Int):=⟨f.f.toNat,by omega⟩;obtain⟨ft,eQ⟩:∃n:Nat,f.t=(n:Int):=⟨f.t.toNat,by omega⟩;have eM:ff<m.pts.length:=(by omega);have eR:ft<m.pts.length:=(by omega);have nZ:=AqH (And.intro eL eQ);rw [eL]at hg1;rw [eQ]at hg2;obtain⟨b3,o3,Hw,hc1,hc2⟩:=C2 ((HA.out.ext hE).ext hx1) eM;obtain⟨b4,o4,zU,Ov,BV⟩:=C2 ((HA.out.ext hE).ext hx1) eR;obtain⟨rfl,rfl⟩:ba=b3/\oa=o3:=(by simpa using Hw);obtain⟨rfl,rfl⟩:ba=b4/\oa=o4:=(by simpa using zU);have iU:=HZ.out m.pts[ff] (AqL eM);have hzd:=HZ.out m.pts[ft] (AqL eR);obtain⟨pc,Ts⟩:=AqG (m.pts[ff]);obtain⟨pd,gJ⟩:=AqG (m.pts[ft]);rw [←Ts]at hc1 hc2 iU;rw [←gJ]at Ov BV hzd;have oU:=AqH (And.intro Ts gJ);have f4:(0:Int)<=(ff:Int):=(by omega);have f5:(ff:Int)<(m.pts.length:Int):=(by omega);have f6:(0:Int)<=(ft:Int):=(by omega);have f7:(ft:Int)<(m.pts.length:Int):=(by omega);have I2:=AqJ wr (.cells #[.int .i64 (ff:Nat),.int .i64 (ft:Nat),.int .i64 f.l,.int .i64 f.r] 126);have hx2:=Ac.alloc (.cells #[.int .i64 (ff:Nat),.int .i64 (ft:Nat),.int .i64 f.l,.int .i64 f.r] 126);clear hck hf eL eQ Hw zU Ts gJ Br
        go_upto_region 24 with fail
        generalize wr.alloc (.cells #[.int .i64 (ff:Nat),.int .i64 (ft:Nat),.int .i64 f.l,.int .i64 f.r] 126)=V2 at *;obtain⟨bq,yZ⟩:=AqG wr.heap.size;rw [←yZ]at I2 ⊢;have hx3:=hx1.trans hx2;have Ix:=(hx2.block _ (AqI Fe)).trans Fe;have dT:=(hx2.block _ (AqI AY)).trans AY;have TB:=hw.ext (hE.trans hx3);have q1:∀q:Af V2,q.w.cell? ⟨bm,0,none⟩=some (.slice (some ⟨ba,oa,none⟩) m.pts.length c):=Af.cell (Ab Ix rfl);have q2:∀q:Af V2,q.w.cell? ⟨bp,0,none⟩=some (.int .i64 (ef:Nat)):=Af.cell (Ab dT rfl);have q3:∀q:Af V2,q.w.cell? ⟨bp,1,none⟩=some (.int .i64 (et:Nat)):=Af.cell (Ab dT rfl);have q4:∀q:Af V2,q.w.cell? ⟨bq,0,none⟩=some (.int .i64 (ff:Nat)):=Af.cell (Ab I2 rfl);have q5:∀q:Af V2,q.w.cell? ⟨bq,1,none⟩=some (.int .i64 (ft:Nat)):=Af.cell (Ab I2 rfl);have a1:∀q:Af V2,q.w.cell? ⟨ba,oa+ef*2,none⟩=some (S (R pa.x)):=Af.cell (hx2.cellS ha1);have a2:∀q:Af V2,q.w.cell? ⟨ba,oa+ef*2+1,none⟩=some (S (R pa.y)):=Af.cell (hx2.cellS ha2);have a3:∀q:Af V2,q.w.cell? ⟨ba,oa+et*2,none⟩=some (S (R pb.x)):=Af.cell (hx2.cellS hb1);have a4:∀q:Af V2,q.w.cell? ⟨ba,oa+et*2+1,none⟩=some (S (R pb.y)):=Af.cell (hx2.cellS hb2);have a5:∀q:Af V2,q.w.cell? ⟨ba,oa+ff*2,none⟩=some (S (R pc.x)):=Af.cell (hx2.cellS hc1);have a6:∀q:Af V2,q.w.cell? ⟨ba,oa+ff*2+1,none⟩=some (S (R pc.y)):=Af.cell (hx2.cellS hc2);have a7:∀q:Af V2,q.w.cell? ⟨ba,oa+ft*2,none⟩=some (S (R pd.x)):=Af.cell (hx2.cellS Ov);have a8:∀q:Af V2,q.w.cell? ⟨ba,oa+ft*2+1,none⟩=some (S (R pd.y)):=Af.cell (hx2.cellS BV);have cr:=fun q:Af V2=>Ali pa pb pc pd Qv hzb iU hzd hk (by omega) q.w (TB.ext q.h);obtain⟨cx,Wr⟩:=AqG (N7 pa pb pc pd);rw [←Wr]at cr
        have hce:P7 m.pts e f=cx:=by unfold P7 Fx;rw [nX.out.1,nX.out.2,nZ.out.1,nZ.out.2,Wr,UB.out.1,UB.out.2,oU.out.1,oU.out.2];simp [PZ,Qa,eM,eR]
        have Ml:=AqH hce;unfold Ak at cr;clear yZ Ix dT I2 ha1 ha2 hb1 hb2 hc1 hc2 Ov BV Qv hzb iU hzd Wr hce hg1 hg2 hg3 hg4 Fe AY;refine F5 (by kernel_rfl) (by kernel_rfl) ?_
        repeat (go_big_quiet_step (with_reducible refine uU (cr _)))
        refine wpQuiet_nil ?_;rintro _ ⟨q,rfl⟩;have Ij:=AqH (hx2.trans q.h);have Ru:=AqH (hE.trans (hx3.trans q.h));clear q1 q2 q3 q4 q5 a1 a2 a3 a4 a5 a6 a7 a8 cr hx2 hx3
        cases cx
        ·go_wp2;go_roundw
         case rel=>
          refine⟨jj+1,by go_num,by omega,?_,Ij.out⟩;intro x hx;rw [AqN O3,←oC.out]at hx
          rcases List.mem_append.1 hx with h|h
          ·exact Pg.out x h
          ·simp only [AqW]at h;rw [h];exact Ml.out
         case measure=>simp [intOf];omega
        ·have HH:=AqH (show DU m.pts [] m.eds=26 by
          rw [←HO.out,HS.out,if_pos];rw [←nY.out,List.any_eq_true]
          exact⟨f,by rw [oC.out,List.mem_take_iff_getElem];exact⟨jj,by omega,rfl⟩,Ml.out⟩)
         have HR:=AqH (show r=26 from nK.out (by rw [HH.out];omega));go_wp2;go_ret;exact⟨by rw [HR.out];rfl,Ru.out⟩
       ·have fG:(j:Int)<=(jj:Int):=(by omega);obtain rfl:jj=j:=by omega
        have HH:=AqH (show DU m.pts (m.eds.take (jj+1)) (m.eds.drop (jj+1))=DU m.pts [] m.eds by
         rw [←HO.out,HS.out,if_neg];rw [←nY.out,Bool.not_eq_true,List.any_eq_false]
         intro x hx;rw [Pg.out x hx];simp)
        have HX:=AqH (hx1.trans Ac);go_wp2;go_roundw
        case rel=>exact⟨jj+1,by go_num,hlt,HH.out,HX.out⟩
        case measure=>simp [intOf];omega
     ·have hle:(m.eds.length:Int)<=(j:Int):=(by omega);have HH:=AqH (show DU m.pts [] m.eds=0 by rw [←HO.out,List.drop_eq_nil_of_le (by omega)];unfold DU;rfl);go_wp2;go_meet;exact⟨HH.out,Ac⟩
   case rest=>
    obtain⟨hc3,hx1⟩:=hcut;obtain⟨wx,rfl⟩:=named hx1;have HH4:=AqH (H4.out HN.out YG.out ET.out hc3);have SV:=uH YG.out ET.out;have Lh:=(hx1.block _ (AqI hM)).trans hM;have x0:=Ab (o:=0) Lh rfl;have x1:=Ab (o:=1) Lh rfl;have x2:=Ab (o:=2) Lh rfl;have BY:=hE.trans hx1;have C4:K3 m c d g:=HC.out;have oc:=Aku m A B F c d g C4 SV AgM wx (HA.out.ext BY) (HB.out.ext BY);have Ah5:=hw.ext BY;unfold DK at oc;have ag:=fun (w2:World) (h2:Aa wx w2) (rn b1 b2:Nat) (E:List (Pt×Value×Nat)) (hn:Bw wx.heap.size w2 rn b1 b2 (AO m.pts m.eds) E (C7 m.pts m.eds))=>Ace Ah5 h2 hn rfl (ou m.pts m.eds) (oy SV oI.out hc3) (kB SV oI.out) (by rw [kC];omega) (fun e he=>by have:=TS m.pts m.eds e he;omega) m.nf (by omega) (ox ET.out) (R1:=jZ m) rfl (C:=OK m) rfl (rg:=Q7 m) rfl;have er:∀(fn:Fn) (first cap:Array Value) (w:World),(Instr.makeFunc fn first cap).run Tryz.prog w=.ok (.func fn first cap) w:=fun _ _ _ _=>rfl;have oO:=AqH Lh;obtain⟨fw,hfw⟩:=AqG (Sp (C7 m.pts m.eds) m.pts);obtain⟨ab,hab⟩:=AqG (Mx (AO m.pts m.eds) m.nf (OK m) (Q7 m))
    have hr:r=if fw=true then 25 else if ab=true then 0 else 14:=by rw [HH4.out,hfw,hab];rfl
    have HFW:=AqH hfw;have HR:=AqH hr;rw [←hab]at ag;generalize (KR (AO m.pts m.eds) m.nf (OK m) (Q7 m)).op=ao at *;clear Lh hx1 SV hc3 hfw hab hr H2 H3 nK
    go_upto_region 28 with fail
    (go_wp2_with fail);(with_reducible refine oc.mono ?_);rintro e w2 ⟨rn,b1,b2,E,rfl,hx2,Da⟩;have Fc:=(Aa.refl w2).alloc (.cells #[.pointer (some ⟨rn,0,none⟩)] 128);have Ca:=AqJ w2 (.cells #[.pointer (some ⟨rn,0,none⟩)] 128);have Lz:=Da.ext Fc;have hx3:=hx2.trans Fc;have Ho:=(hx3.block _ (AqI oO.out)).trans oO.out;have y0:=Ab (o:=0) Ho rfl;clear x0 x1 x2 oc Da
    go_upto_region 29 with fail
    generalize w2.alloc (.cells #[.pointer (some ⟨rn,0,none⟩)] 128)=w3 at *;obtain⟨bn,PW⟩:=AqG w2.heap.size;rw [←PW]at Ca ⊢;clear PW;have af:=Ach Lz bn (Ab Ca rfl) m.pts A c (HA.out.ext (BY.trans hx3)) (by assumption) (by assumption);rw [←HFW.out]at af;(go_wp2_with fail);(with_reducible refine af.mono ?_);rintro e w4 ⟨rfl,Ai⟩;have jt:=hx3.trans Ai;have PL:=(Ai.block _ (AqI Ho)).trans Ho;have yX:=(Ai.block _ (AqI Ca)).trans Ca;have z2:=Ab (o:=2) PL rfl;have z3:=Ab (o:=0) yX rfl;have ag4:=ag w4 jt rn b1 b2 E (Lz.ext Ai);clear ag af Ho Ca PL yX y0 Lz hx2 hx3 Fc Ai
    cases fw
    ·have Hd:=AqH (show r=if ab=true then 0 else 14 from HR.out);(go_wp2_with fail);(with_reducible refine ag4.mono ?_);rintro e w5 ⟨rfl,Ae⟩
     cases ab
     ·obtain rfl:r=14:=Hd.out;go_wp2;go_ret;exact⟨rfl,BY.trans Ae⟩
     ·obtain rfl:r=0:=Hd.out;go_wp2;go_ret;exact⟨rfl,BY.trans Ae⟩
    ·obtain rfl:r=25:=HR.out;go_wp2;go_ret;exact⟨rfl,BY.trans jt⟩
def IX(m:Cw):Int:=
 if M6 m=true then 4 else if CV [] m.pts≠0 then CV [] m.pts else if Dg m.pts.length m.nf [] m.eds≠0 then Dg m.pts.length m.nf [] m.eds else if DU m.pts [] m.eds≠0 then 26 else ZQ m
theorem Alg(m:Cw)(hgr:∀p∈m.pts,Ee p)(A B F:Option Addr)(c d g:Nat)(C4:K3 m c d g)(w:World)(hw:Am w)(hA:Ad w A (flat (Ao m.pts)))(hB:Ad w B (B7 m.eds)) :
  Calls Tryz.prog 33 #[DK A B F m c d g] w (Ax (IX m) w):=by
 refine Alh m hgr (k:=200) (by omega) (by omega) (fun p hp=>(hgr p hp).sz (by omega)) A B F c d g C4 w hw hA hB (IX m) ?_ ?_ ?_ ?_ ?_
 ·intro h;unfold IX;rw [if_pos h]
 ·intro h h1;unfold IX;rw [if_neg (by rw [h];simp),if_pos h1]
 ·intro h h1 h2;unfold IX;rw [if_neg (by rw [h];simp),if_neg (by omega),if_pos h2]
 ·intro h h1 h2 h3;unfold IX;rw [if_neg (by rw [h];simp),if_neg (by omega),if_neg (by omega),if_pos h3]
 ·intro h h1 h2 h3;unfold IX;rw [if_neg (by rw [h];simp),if_neg (by omega),if_neg (by omega),if_neg (by omega)]
end Go.Proofs.YtjalkoacphhgdaaGreatDoor
