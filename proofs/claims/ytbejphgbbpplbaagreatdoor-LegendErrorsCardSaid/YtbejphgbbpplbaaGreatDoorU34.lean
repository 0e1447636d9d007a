/- U34: ShD8 ShBP ShS8. -/
import Derived.Test.YtbejphgbbpplbaaGreatDoorU32
import Derived.Test.YtbejphgbbpplbaaGreatDoorU30
import Derived.Deep.CutBlock
set_option maxRecDepth 100000
set_option maxHeartbeats 16000000
namespace Go.Proofs.YtbejphgbbpplbaaGreatDoor
open Go.RowKit Kl
open Go.ChangeMaps (setBlock)
theorem Tryz.infoBo:(Tryz.prog.info? 4).map (fun i=>(i.zero,i.size,i.bytes))=some (some (.bool false),1,1):=by kernel_rfl
theorem AkS(n:Nat)(hn:n<=200000)(c:Int)(hc:c=(n:Int))(W:World) :
  (Instr.makeSlice 213 (.int .i64 c) (.int .i64 c)).run Tryz.prog W=.ok (.slice (some ⟨W.heap.size,0,none⟩) n n) (W.alloc (.cells (madeCells #[.bool false] n) 4)):=by
 subst hc;obtain⟨i0,hi,hz0,hz1,hz2⟩:=info_parts Tryz.infoBo;have h:=run_make (P:=Tryz.prog) W 213 4 i0 (.bool false) Tryz.underlying213 hi hz0 .i64 .i64 n n (by omega) (by omega) (by rw [hz2];omega) (by omega);rw [hz1,Nat.mul_one]at h;simp only [Int.toNat_natCast]at h;exact h
theorem AlY(W:World)(base n:Nat)(hb:base<=W.heap.size)(hn:n<=200000) :
  (W.alloc (.cells (madeCells #[.bool false] n) 4)).ownsRow base 4 1 (.slice (some ⟨W.heap.size,0,none⟩) n n) n (Hr (List.replicate n false)):=by
 have h:=World.ownsRow_lit (w:=W) (base:=base) (e:=4) (size:=1) (madeCells #[.bool false] n) n hb (by unfold maxLen;omega) (by rw [size_madeCells];omega);rw [toList_madeCells_one]at h
 simpa [Hr]using h
theorem Aeb(l:List Bool)(k:Nat)(b:Bool):(Hr l).set k (.bool b)=Hr (l.set k b):=by simp [Hr]
theorem AmU{w:World}{A:Option Addr}{l:List Int}(hr:Ae w A (l.map (Value.int .i64))){j:Nat}(h:j<l.length):∃b o,A=some ⟨b,o,none⟩/\w.cell? ⟨b,o+j,none⟩=some (.int .i64 l[j]):=by
 obtain⟨b,o,e,hc⟩:=hr.ad (by simp;omega);refine⟨b,o,e,?_⟩;rw [hc j (by simpa using h)];simp
theorem Yf{s:Sg}{L:List (Sg×Int)}(h:s∈L.map (·.1)):∃e∈L,AL s L=e.2:=by
 unfold AL;rw [List.mem_map]at h;obtain⟨x,hx,rfl⟩:=h
 cases hf:L.find? (fun e=>AO x.1 e.1)with
 | none=>
  rw [List.find?_eq_none]at hf;exact absurd (IS.2 rfl) (hf x hx)
 | some e=>exact⟨e,List.mem_of_find?_eq_some hf,rfl⟩
structure Ge(V wr:World)(B bm bs nf:Nat)(st:Eh):Prop where
 face:Gi wr bm st.face
 seen:wr.ownsRow B 4 1 (.slice (some ⟨bs,0,none⟩) nf nf) nf (Hr st.seen)
 but:Ar (fun j=>j=bm∨j=bs) V wr
theorem Ge.ext{V wr w':World}{B bm bs nf:Nat}{st:Eh}(h:Ge V wr B bm bs nf st)(hx:Aa wr w'):Ge V w' B bm bs nf st:=
 ⟨(hx.block _ (ArX h.face)).trans h.face,Ao h.seen hx,h.but.ext hx⟩
theorem Ge.put{V wr:World}{B bm bs nf:Nat}{st:Eh}(h:Ge V wr B bm bs nf st)(hne:bm≠bs)(r z:Int)(hno:CU r st.face=none) :
  ∃W',(Instr.mapUpdate 212 (.map (some bm)) (.int .i64 r) (.int .i64 z)).run Tryz.prog wr=.ok () W'/\Ge V W' B bm bs nf {st with face:=st.face ++ [(r,z)]}:=by
 obtain⟨W',h1,h2,h3,-⟩:=h.face.put r z hno;refine⟨W',h1,h2,ye h.seen h3 (by simp only [Value.ownBlock,ne_eq,Ase];exact fun e=>hne e.symm),h.but.grown h3 (fun k e=>by cases e;exact .inl (.inl rfl))⟩
theorem Ge.set{V wr:World}{B bm bs nf:Nat}{st:Eh}(h:Ge V wr B bm bs nf st)(hne:bm≠bs)(k:Nat) :
  Ge V (wr.setCell ⟨bs,k,none⟩ (.bool true)) B bm bs nf {st with seen:=st.seen.set k true}:=by
 have h1:=h.seen.stored k (.bool true);rw [Aeb]at h1;refine⟨?_,h1.1,h.but.grown h1.2 (fun q e=>by cases e;exact .inl (.inr rfl))⟩;exact(h1.2.block bm (ArX h.face) (by simp only [ne_eq,Ase];exact hne)).trans h.face
theorem sJ{w0 w:World}(hw:Al w0)(hx:Aa w0 w){r b1 b2:Nat}{L:List (Sg×Int)}{E:List (Pt×Value×Nat)}{R0:List (Pt×List Pt)}(h:B5 w0.heap.size w r b1 b2 L E R0){W:List Sg}(Ly:W=L.map (·.1))(hN:Fq W R0)(hW:PT W)(hgr:∀s∈W,G8 s)
  (hlen:L.length<=100000) (hrl:∀e∈R0,e.2.length<100000) (nf:Nat) (Kv:nf<=100000) (OU:∀x∈L,-1<=x.2/\x.2<(nf:Int)) {R1:List (Pt×List Pt)} (hR1:R1=R0.map (fun e=>(e.1,Et e.1 e.2))) {C:List (List Sg)} (hC:C=I3 W R1) {rg:List Int} (hrg:rg=KF W C) :
  Calls Tryz.prog 84 #[.pointer (some ⟨r,0,none⟩),.int .i64 (nf:Nat)] w fun e w'=>e=.returned (.tuple #[.bool (MH L nf C rg),.bool (Le L nf C rg).op])/\Aa w0 w'/\B5 w0.heap.size w' r b1 b2 L E R1:=by
 have hmm:=@run_makeMap Tryz.prog;have so:=sort_c hw hx h (Ant hW hN hrl);rw [←hR1]at so;have Hy:Fq W R1:=by rw [hR1];exact hN.sorted
 have mh:∀e∈R1,e.2.length<100000:=by intro e he;rw [hR1,List.mem_map]at he;obtain⟨x,hx,rfl⟩:=he;have:=hrl x hx;rw [show (Et x.1 x.2).length=x.2.length from(YS x.1 x.2).length_eq];exact this
 obtain⟨U,Ah,hall⟩:=Afv Hy;have hG:RX W U C:=⟨by rw [hC];exact Ah,hall,hW.x.good,hgr,by rw [Ly];simpa using hlen⟩
 have yA:C.length<=100000:=by have h1:=Ya hG.ok.ne;rw [hG.ok.flat]at h1;have h2:=Kz hG.ok.nd hG.ok.sub;have:=hG.len;omega
 have mj:rg.length=C.length:=(by rw [hrg];simp [KF]);have cy:=fun (w1:World) (h1:Aa w0 w1) (k:B5 w0.heap.size w1 r b1 b2 L E R1)=>Afw hw h1 k (by rw [←Ly];exact Hy) (by rw [←Ly];exact hW) hlen mh;rw [←Ly,←hC]at cy;have rc:=fun (w1:World) (hw1:Al w1) (k:B5 w0.heap.size w1 r b1 b2 L E R1) (A:Option Addr) (cap:Nat) (hA:Mz w1 A cap C)=>Ani hw1 k Ly hG hA;rw [←hrg]at rc
 have hcw:∀i (hi:i<C.length),∀s∈C[i],-1<=AL s L/\AL s L<(nf:Int):=by intro i hi s hs;have h1:s∈W:=hG.ok.sub s (by rw [←hG.ok.flat];exact List.mem_flatten.2 ⟨_,Asa hi,hs⟩);rw [Ly]at h1;obtain⟨e,he,h2⟩:=Yf h1;rw [h2];exact OU e he
 have Ve:=ArW hcw;clear hcw OU hR1 hrl mh Ah hall hC hrg hN hW hgr Ly hx h Hy hG;have HA:=ArW (show MH L nf C rg=((Hq L (C.zip rg) (Ix nf)).ok && !((Hq L (C.zip rg) (Ix nf)).seen.contains false))from rfl);have HO:=ArW (show (Le L nf C rg).op=(Hq L (C.zip rg) (Ix nf)).op from rfl);generalize MH L nf C rg=vA at *;generalize (Le L nf C rg).op=vO at *;go_enter Tryz.func84,Tryz.ntmps84;(go_wp2_with fail);(with_reducible refine so.mono ?_);rintro e w1 ⟨rfl,hx1,-,OW⟩;(go_wp2_with fail);(with_reducible refine(cy _ hx1 OW).mono ?_);rintro e w2 ⟨A,cap,rfl,Jt,hx2⟩;have D1:=OW.ext hx2;have kM:=hx1.trans hx2;(go_wp2_with fail);(with_reducible refine(rc _ (hw.ext kM) D1 A cap Jt).mono ?_);rintro e w3 ⟨A',rfl,Bh,hx3⟩;have LH:=D1.ext hx3;have fu:=Jt.ext hx3;have pq:=kM.trans hx3;clear so cy rc OW D1 hx1 hx2 hx3 Jt kM;have GH:=(Aa.refl w3).alloc (.map #[] 0);have I7:Gi (w3.alloc (.map #[] 0)) w3.heap.size []:=ArY w3 (.map #[] 0);obtain⟨W4,hput,DD,hg4,Uj⟩:=I7.put (-1) (-1) rfl;have hmk:=AkS nf (by omega) (nf:Int) rfl W4;have Cl:Ar (fun j=>j=w3.heap.size) w3 W4:=((Ar.refl _ w3).ext GH).grown hg4 (fun k e=>by cases e;exact .inl rfl);have Kh:Aa w3 W4:=Cl.toExt (Aa.refl w3) (fun k e=>by subst e;exact ArZ _);have Gn:=(Aa.refl W4).alloc (.cells (madeCells #[.bool false] nf) 4);have own:=AlY W4 w0.heap.size nf (Asl pq.size Kh.size) (by omega);have yF:Gi (W4.alloc (.cells (madeCells #[.bool false] nf) 4)) w3.heap.size [(-1,-1)]:=(Gn.block _ (ArX DD)).trans DD;have mq:W4.heap.size=w3.heap.size+1:=(by rw [Uj];simp);rw [mq]at own;have yC:=Kh.trans Gn;have O2:Ge (W4.alloc (.cells (madeCells #[.bool false] nf) 4)) (W4.alloc (.cells (madeCells #[.bool false] nf) 4)) w0.heap.size w3.heap.size (w3.heap.size+1) nf (Ix nf):=⟨yF,own,Ar.refl _ _⟩
 go_upto_region 6 with fail
 clear hmk own yF DD hg4 hput I7 GH Cl Gn Kh Uj mq hmm;generalize W4.alloc (.cells (madeCells #[.bool false] nf) 4)=V at *;obtain⟨bm,CN⟩:=ArV w3.heap.size;rw [←CN]at O2 ⊢;have Aq2:w3.heap.size<=bm:=(by omega);clear CN W4;have hl0:(0:Int)<=(C.length:Int):=(by omega);have hne:bm≠bm+1:=(by omega);have KW:=ArW mj;have Ip:=ArW LH;have M4:=ArW fu;have ER:=ArW Bh;clear mj LH fu Bh
 go_upto_region 8 with fail
 go_loopw [4,5,30] (fun o p i wr=>∃(k:Nat) (st:Eh),i=.int .i64 (k:Nat)/\k<=C.length/\o=.bool st.ok/\p=.bool st.op/\st=Hq L ((C.zip rg).take k) (Ix nf)/\Ge V wr w0.heap.size bm (bm+1) nf st) (fun _ _ i _=>C.length-(intOf i).toNat)
 case atStart=>exact⟨0,Ix nf,rfl,by omega,rfl,rfl,rfl,O2⟩
 case round=>
  obtain⟨k,st,rfl,hk,rfl,rfl,hst,hA⟩:=hrel;have BD:Aa w3 wr:=hA.but.toExt yC (fun q e=>by rcases e with e|e<;>omega);have HST:=ArW hst;clear hst;by_cases hlt:k<C.length
  ·obtain⟨bA,oA,A2,c2,rfl,hcell,J3,hc1,hc2⟩:=M4.out.row k hlt;replace hcell:=BD.cellS hcell;obtain⟨bB,oB,rfl,XJ⟩:=AmU (ER.out.ext BD) (show k<rg.length by rw [KW.out];exact hlt);obtain⟨rr,GX⟩:∃rr,rr=rg[k]'(by rw [KW.out];exact hlt):=⟨_,rfl⟩;rw [←GX]at XJ;have hk0:(0:Int)<=(k:Int):=(by omega);have BX:(k:Int)<(C.length:Int):=(by omega);obtain⟨c,hcc⟩:=ArV (C[k]);have hz:=Ve.out k hlt
   have hstep:Hq L ((C.zip rg).take (k+1)) (Ix nf)=Iw L rr st c:=by rw [Asd (show k<(C.zip rg).length by rw [List.length_zip,KW.out];omega),Ad7,←HST.out,List.getElem_zip,←GX,←hcc]
   rw [←hcc]at hcell J3 hc1 hz;have Vq:=ArW hstep;have HZ:=ArW hz;have hcl:(0:Int)<=(c.length:Int):=(by omega);have hc0:Iw L rr st (c.take 0)=st:=rfl;have HC0:=ArW hc0;have Do:st.seen.length=nf:=(by rw [HST.out,sH];simp [Ix]);have IY:=ArW Do;clear hcc GX hstep hz hc0 Do
   go_upto_region 11 with fail
   go_loopw [4,5,40] (fun o p i wi=>∃(j:Nat) (sj:Eh),i=.int .i64 (j:Nat)/\j<=c.length/\o=.bool sj.ok/\p=.bool sj.op/\sj=Iw L rr st (c.take j)/\Ge V wi w0.heap.size bm (bm+1) nf sj) (fun _ _ i _=>c.length-(intOf i).toNat)
   case atStart=>exact⟨0,st,rfl,by omega,rfl,rfl,HC0.out.symm,hA⟩
   case round=>
    obtain⟨j,sj,rfl,hj,rfl,rfl,hsj,Wi⟩:=hrel;have ZC:=ArW hsj;clear hsj;by_cases A7:j<c.length
    ·have WN:Aa w3 wr:=Wi.but.toExt yC (fun q e=>by rcases e with e|e<;>omega);obtain⟨b',o',rfl,f1,f2,f3,f4⟩:=NV (J3.ext WN) A7;have hzs:=HZ.out c[j] (Asa A7);have WO:Iw L rr st (c.take (j+1))=D6 rr (AL c[j] L) sj:=(by rw [Asd A7,Ad6,←ZC.out]);have Do:sj.seen.length=nf:=(by rw [ZC.out,sF];exact IY.out);obtain⟨s,hs⟩:=ArV (c[j]);rw [←hs]at f1 f2 f3 f4 hzs WO;have hj0:(0:Int)<=(j:Int):=(by omega);have Fy:(j:Int)<(c.length:Int):=(by omega);have Ap:=ArY wr (.cells #[S (R s.a.x),S (R s.a.y),S (R s.b.x),S (R s.b.y)] 155);have E6:=(Aa.refl wr).alloc (.cells #[S (R s.a.x),S (R s.a.y),S (R s.b.x),S (R s.b.y)] 155);have dF:=Wi.ext E6;have Xx:=Ip.out.ext (WN.trans E6);clear hs Wi hA BD
     go_upto_region 13 with fail
     unfold S at Ap dF Xx;generalize (wr.alloc (.cells #[.string ⟨(R s.a.x).toArray⟩,.string ⟨(R s.a.y).toArray⟩,.string ⟨(R s.b.x).toArray⟩,.string ⟨(R s.b.y).toArray⟩] 155))=W6 at *;obtain⟨bx,Js⟩:=ArV wr.heap.size;rw [←Js]at Ap ⊢;clear Js f1 f2 f3 f4 E6;have q1:∀q:Ac W6,q.w.cell? ⟨r,0,none⟩=some (.map (some b1)):=Ac.cell (Ab Xx.cell rfl);have q2:∀q:Ac W6,q.w.cell? ⟨bx,0,none⟩=some (S (R s.a.x)):=Ac.cell (Ab Ap rfl);have q3:∀q:Ac W6,q.w.cell? ⟨bx,1,none⟩=some (S (R s.a.y)):=Ac.cell (Ab Ap rfl);have q4:∀q:Ac W6,q.w.cell? ⟨bx,2,none⟩=some (S (R s.b.x)):=Ac.cell (Ab Ap rfl);have q5:∀q:Ac W6,q.w.cell? ⟨bx,3,none⟩=some (S (R s.b.y)):=Ac.cell (Ab Ap rfl);have q6:=fun (q:Ac W6)=>R7 s L (Xx.ext q.h).left;obtain⟨z,hz⟩:=ArV (AL s L);rw [←hz]at q6 hzs WO;unfold AA at q6;have HN:=ArW WO;clear hz WO Ap Xx;refine Bp (by kernel_rfl) (by kernel_rfl) ?_
     repeat (go_big_quiet_step (fail))
     refine wpQuiet_nil ?_;rintro W7 ⟨q,hq⟩;have AQ:Aa W6 W7:=hq▸q.h;clear hq q;have Jk:=dF.ext AQ;have lk:=nH rr sj.face Jk.face;clear q1 q2 q3 q4 q5 q6 dF AQ
     cases hl:CU rr sj.face with
     | some old=>
      rw [hl]at lk;simp only [Option.getD_some,Option.isSome_some]at lk;have he:D6 rr z sj=⟨sj.ok&&decide (old=z),sj.op,sj.face,sj.seen⟩:=(by unfold D6;rw [hl]);have Hv:Ge V W7 w0.heap.size bm (bm+1) nf (D6 rr z sj):=(by rw [he];exact⟨Jk.face,Jk.seen,Jk.but⟩);have HE:=ArW he;clear he Jk
      cases Ah:sj.ok
      ·have DR:=ArW Ah;go_wp2;go_roundw
       case rel=>exact⟨j+1,D6 rr z sj,by go_num,A7,by rw [HE.out,DR.out];rfl,by rw [HE.out],HN.out.symm,Hv⟩
       case measure=>simp [intOf];omega
      ·have DR:=ArW Ah;by_cases XG:old=z
       ·have HD:=ArW (decide_eq_true XG);subst XG;go_wp2;go_roundw
        case rel=>exact⟨j+1,D6 rr old sj,by go_num,A7,by rw [HE.out,DR.out,HD.out];rfl,by rw [HE.out],HN.out.symm,Hv⟩
        case measure=>simp [intOf];omega
       ·have HD:=ArW (decide_eq_false XG);have hb:(old == z)=false:=beq_false_of_ne XG;go_wp2;go_roundw
        case rel=>exact⟨j+1,D6 rr z sj,by go_num,A7,by rw [HE.out,DR.out,HD.out];rfl,by rw [HE.out],HN.out.symm,Hv⟩
        case measure=>simp [intOf];omega
     | none=>
      rw [hl]at lk;simp only [Option.getD_none,Option.isSome_none]at lk;by_cases hz0:z<0
      ·have he:D6 rr z sj=⟨false,true,sj.face ++ [(rr,z)],sj.seen⟩:=(by unfold D6;rw [hl];simp only;rw [if_pos hz0]);obtain⟨W8,hput,Hv⟩:=Jk.put hne rr z hl;have Tj:Ge V W8 w0.heap.size bm (bm+1) nf (D6 rr z sj):=(by rw [he];exact⟨Hv.face,Hv.seen,Hv.but⟩);have HE:=ArW he;clear he Jk Hv;go_wp2;go_roundw
       case rel=>exact⟨j+1,D6 rr z sj,by go_num,A7,by rw [HE.out],by rw [HE.out],HN.out.symm,Tj⟩
       case measure=>simp [intOf];omega
      ·obtain⟨m,rfl⟩:∃m:Nat,z=(m:Int):=⟨z.toNat,by omega⟩;have hm:m<nf:=(by omega);obtain⟨sv,jW⟩:=ArV (sj.seen.getD m false)
       have he:D6 rr (m:Int) sj=⟨sj.ok && !sv,sj.op,sj.face ++ [(rr,(m:Int))],sj.seen.set m true⟩:=by unfold D6;rw [hl];simp only;rw [if_neg hz0,jW];rfl
       have hce:W7.cell? ⟨bm+1,m,none⟩=some (.bool sv):=by
        rw [Jk.seen.cellAt m (by omega),jW];unfold Hr;rw [List.getElem?_map,List.getD_eq_getElem?_getD,Asf (by omega)]
        rfl
       have TP:=Jk.seen.frozenAt m;obtain⟨W8,hput,Hv⟩:=(Jk.set hne m).put hne rr (m:Int) hl;have Tj:Ge V W8 w0.heap.size bm (bm+1) nf (D6 rr (m:Int) sj):=(by rw [he];exact⟨Hv.face,Hv.seen,Hv.but⟩);have HE:=ArW he;have hm0:(0:Int)<=(m:Int):=(by omega);have hm1:(m:Int)<(nf:Int):=(by omega);clear he Jk Hv jW
       cases Ah:sj.ok
       ·have DR:=ArW Ah;go_wp2;go_roundw
        case rel=>exact⟨j+1,D6 rr (m:Int) sj,by go_num,A7,by rw [HE.out,DR.out];rfl,by rw [HE.out],HN.out.symm,Tj⟩
        case measure=>simp [intOf];omega
       ·have DR:=ArW Ah
        cases sv
        ·go_wp2;go_roundw
         case rel=>exact⟨j+1,D6 rr (m:Int) sj,by go_num,A7,by rw [HE.out,DR.out];rfl,by rw [HE.out],HN.out.symm,Tj⟩
         case measure=>simp [intOf];omega
        ·go_wp2;go_roundw
         case rel=>exact⟨j+1,D6 rr (m:Int) sj,by go_num,A7,by rw [HE.out,DR.out];rfl,by rw [HE.out],HN.out.symm,Tj⟩
         case measure=>simp [intOf];omega
    ·have Dl:j=c.length:=(by omega);subst Dl;have Ay:sj=Hq L ((C.zip rg).take (k+1)) (Ix nf):=(by rw [Vq.out,ZC.out,List.take_length]);have HF:=ArW Ay;clear Ay;have Xs:(c.length:Int)<=(c.length:Int):=(by omega);go_wp2;go_roundw
     case rel=>exact⟨k+1,sj,by go_num,hlt,rfl,rfl,HF.out,Wi⟩
     case measure=>simp [intOf];omega
  ·have Bf:k=C.length:=(by omega);subst Bf;have Ay:st=Hq L (C.zip rg) (Ix nf):=(by rw [HST.out,Asi (by rw [List.length_zip];omega)]);have HF:=ArW Ay;obtain⟨A3,ApO,Kr,ma,xP,xQ⟩:=Ae.of_own' (by omega) hA.seen;simp only [Value.slice.injEq,true_and]at Kr;obtain⟨rfl,rfl⟩:=Kr;have Do:st.seen.length=nf:=(by rw [HST.out,sH];simp [Ix]);have cb:=Afl st.seen false (some ⟨bm+1,0,none⟩) nf wr ma (by omega) xQ;rw [Do]at cb;have hv:vA=(st.ok && !(st.seen.contains false)):=(by rw [HA.out,←HF.out]);have ho:vO=st.op:=(by rw [HO.out,←HF.out]);have HV:=ArW hv;subst ho;obtain⟨cv,hcv⟩:=ArV (st.seen.contains false);rw [←hcv]at cb;have HCV:=ArW hcv;have zH:=pq.trans BD;clear Ay Do hv hcv hA ma
   cases Ah:st.ok
   ·have DR:=ArW Ah;obtain rfl:vA=false:=(by rw [HV.out,DR.out];rfl);go_wp2;go_ret2;exact⟨rfl,zH,Ip.out.ext BD⟩
   ·have DR:=ArW Ah;obtain rfl:vA = !cv:=(by rw [HV.out,DR.out,←HCV.out];rfl);(go_wp2_with fail);(with_reducible refine cb.mono ?_);rintro e w9 ⟨rfl,Ff⟩;go_wp2;go_ret2;exact⟨rfl,zH.trans Ff,Ip.out.ext (BD.trans Ff)⟩
theorem AdA{w0 w:World}(hw:Al w0)(hx:Aa w0 w){r b1 b2:Nat}{L:List (Sg×Int)}{E:List (Pt×Value×Nat)}{R0:List (Pt×List Pt)}(h:B5 w0.heap.size w r b1 b2 L E R0){W:List Sg}(Ly:W=L.map (·.1))(hN:Fq W R0)(hW:PT W)(hgr:∀s∈W,G8 s)
  (hlen:L.length<=100000) (hrl:∀e∈R0,e.2.length<100000) (nf:Nat) (Kv:nf<=100000) (OU:∀x∈L,-1<=x.2/\x.2<(nf:Int)) {R1:List (Pt×List Pt)} (hR1:R1=R0.map (fun e=>(e.1,Et e.1 e.2))) {C:List (List Sg)} (hC:C=I3 W R1) {rg:List Int} (hrg:rg=KF W C) :
  Calls Tryz.prog 84 #[.pointer (some ⟨r,0,none⟩),.int .i64 (nf:Nat)] w fun e w'=>e=.returned (.tuple #[.bool (MH L nf C rg),.bool (Le L nf C rg).op])/\Aa w0 w':=(sJ hw hx h Ly hN hW hgr hlen hrl nf Kv OU hR1 hC hrg).mono fun _ _ k=>⟨k.1,k.2.1⟩
end Go.Proofs.YtbejphgbbpplbaaGreatDoor
namespace Go.Proofs.YtbejphgbbpplbaaGreatDoor
open Go.RowKit Kl
theorem Aby(w:World)(o1 o2:Obj):((w.alloc o1).alloc o2).drew.heap[w.heap.size]?=some o1/\((w.alloc o1).alloc o2).drew.heap[w.heap.size+1]?=some o2/\Aa w ((w.alloc o1).alloc o2).drew:=by
 have E1:=(Aa.refl w).alloc o1;have h1:=ArY w o1;have E2:=(Aa.refl (w.alloc o1)).alloc o2;have h2:=ArY (w.alloc o1) o2;rw [Ash]at h2;exact⟨(E2.block _ (ArX h1)).trans h1,h2,(E1.trans E2).drew⟩
theorem lQ{a b:World}(_:Aa a b):∃c,c=b:=⟨b,rfl⟩
theorem DW.keys{B:Nat}{W:World}{b2:Nat}{E:List (Pt×Value×Nat)}{R0:List (Pt×List Pt)}(h:DW B W b2 E R0):E.map (·.1)=R0.map (·.1):=by
 apply List.ext_getElem
 ·simp [h.len]
 ·intro i h1 h2;simp only [List.getElem_map];exact(h.row i (by simpa using h1) (by simpa using h2)).1
theorem Akc{w0 w:World}(hw:Al w0)(hx:Aa w0 w){B:Nat}{r b1 b2:Nat}{L:List (Sg×Int)}{E:List (Pt×Value×Nat)}{R0:List (Pt×List Pt)}(h:B5 B w r b1 b2 L E R0)(hz:∀e∈R0,Aq 1 e.1/\∀p∈e.2,Aq 1 p)
  (hlen:R0.length<=100000) (hrl:∀e∈R0,e.2.length<100000) (Cr:(R0.map (·.1)).Nodup) (hno:∀e∈R0,∀p q,e.2 = [p,q]→AI (Ai p e.1 q)≠0) :
  Calls Tryz.prog 184 #[.pointer (some ⟨r,0,none⟩)] w fun e w'=>e=.returned (.tuple #[])/\Aa w w':=by
 have Ki:=h.ar.len;have Eo:=h.ar.keys;have m1:=Ab (o:=1) h.cell rfl;have Em:=(Aa.refl w).alloc (.cells #[.map (some b2)] 132);have CH:=ArY w (.cells #[.map (some b2)] 132)
 have sk:=AaZ hw (hx.trans Em) w.heap.size b2 E (fun i hi=>(h.ar.row i hi (by rw [←Ki];exact hi)).2.1) (ArX CH) (Ab CH rfl) (h.ext Em).ar.blk
  (fun e he=>by
   have:e.1∈R0.map (·.1):=(by rw [←Eo];exact List.mem_map_of_mem he);obtain⟨e',he',h1⟩:=List.mem_map.1 this
   rw [←h1];exact(hz e' he').1) (by omega)
 rw [Eo]at sk;obtain⟨ks,J0⟩:=ArV (Fo (R0.map (·.1)));have CP:ks.length=E.length:=by rw [J0,(KH _).length_eq,Ki];simp
 have TY:∀p∈ks,∃e∈R0,e.1=p:=fun p hp=>by rw [J0]at hp;obtain⟨e,he,h1⟩:=List.mem_map.1 ((KH _).mem_iff.1 hp);exact⟨e,he,h1⟩
 rw [←J0,←CP]at sk;have Ip:=ArW h;have HKM:=ArW TY;have HZ:=ArW hz;have KW:=ArW hrl;have Vi:=ArW Cr;have Sl:=ArW hno;have hkn:ks.length<=100000:=(by omega);clear J0 CP TY Eo Ki hz hrl Cr hno h hlen;have kp:=rx (some b2) w;go_enter Tryz.func184,Tryz.ntmps184;(go_wp2_with fail);(with_reducible refine kp.mono ?_);rintro e w2 ⟨rfl,rfl⟩;(go_wp2_with fail);(with_reducible refine sk.mono ?_);rintro e w3 ⟨sv,rfl,Dp,GH⟩;obtain⟨sA,sc,rfl,Bh,-,-⟩:=Ae.of_own' (by omega) Dp;unfold F7 at Bh;have Jm:Aa w w3:=Em.trans GH;have Cq:=hx.trans Jm;have GK:=ArW (Ip.out.ext Jm);clear sk kp CH Em GH Dp m1;have hl0:(0:Int)<=(ks.length:Int):=by omega
 go_upto_region 1 with fail
 go_loopw [20] (fun iv wr=>∃k:Nat,iv=.int .i64 (k:Nat)/\k<=ks.length/\Aa w3 wr) (fun iv _=>ks.length-(intOf iv).toNat)
 case atStart=>exact⟨0,rfl,by omega,Aa.refl _⟩
 case round=>
  obtain⟨k,rfl,hk,BD⟩:=hrel;by_cases Xq:k<ks.length
  ·obtain⟨b,o,rfl,f1,f2⟩:=Ca (Bh.ext BD) Xq;obtain⟨e,he,Xf⟩:=HKM.out _ (Asa Xq);obtain⟨p,hp⟩:=ArV (ks[k]);rw [←hp]at f1 f2 Xf;have iE:=Aat Vi.out he;rw [Xf]at iE;have hsz:=HZ.out e he;have hel:=KW.out e he;have GV:=Sl.out e he;rw [Xf]at hsz GV;obtain⟨es,hes⟩:=ArV e.2;have hk0:(0:Int)<=(k:Int):=(by omega);have BX:(k:Int)<(ks.length:Int):=(by omega);have EA:=(Aa.refl wr).alloc (.cells #[S (R p.x),S (R p.y)] 94);have Aw:=ArY wr (.cells #[S (R p.x),S (R p.y)] 94);have Qq:=GK.out.ext (BD.trans EA);obtain⟨A,c,hv,hrow,hc1,hc2⟩:=Qq.ar.look p iE;rw [←hes]at hv hrow hc1 hsz hel GV;have HNN:=ArW GV;clear hp hes iE Xf he GV
   go_upto_region 3 with fail
   unfold S at Aw EA Qq hrow;generalize wr.alloc (.cells #[.string ⟨(R p.x).toArray⟩,.string ⟨(R p.y).toArray⟩] 94)=V at *;obtain⟨ba,Nn⟩:=ArV wr.heap.size;rw [←Nn]at Aw ⊢;clear Nn f1 f2;have H7:=BD.trans EA;have q1:∀q:Ac V,q.w.cell? ⟨r,1,none⟩=some (.map (some b2)):=Ac.cell (Ab Qq.cell rfl);have q2:∀q:Ac V,q.w.cell? ⟨ba,0,none⟩=some (S (R p.x)):=Ac.cell (Ab Aw rfl);have q3:∀q:Ac V,q.w.cell? ⟨ba,1,none⟩=some (S (R p.y)):=Ac.cell (Ab Aw rfl)
   have q5:∀q:Ac V,(Instr.lookup 132 (.map (some b2)) (Af p) false).run Tryz.prog q.w=.ok (.slice A es.length c) q.w:=fun q=>by rw [R9 Rh p E (W:=q.w) ((q.h.block b2 Qq.ar.lt).trans Qq.ar.blk),hv]
   unfold Af at q5;refine Bp (by kernel_rfl) (by kernel_rfl) ?_
   repeat (go_big_quiet_step (fail))
   refine wpQuiet_nil ?_;rintro W4 ⟨q,hq⟩;have Aj:Aa V W4:=hq▸q.h;have Cl:=H7.trans Aj;have fR:=(Aj.block _ (ArX Aw)).trans Aw;have hrow4:=hrow.ext Aj;clear q1 q2 q3 q5 hq q Qq hv hrow Aw Aj EA BD H7;by_cases h2:es.length=2
   ·obtain⟨a,d,rfl⟩:∃a d,es = [a,d]:=by
     match es,h2 with
     | [a,d],_=>exact⟨a,d,rfl⟩
    have Er:=HNN.out a d rfl;obtain⟨bA,oA,rfl,g1,g2⟩:=Ca hrow4 (show 0 < [a,d].length by simp);obtain⟨VH,Yu,hA',g3,g4⟩:=Ca hrow4 (show 1 < [a,d].length by simp);simp only [Ase,Addr.mk.injEq,and_true]at hA';obtain⟨rfl,rfl⟩:=hA';simp only [List.getElem_cons_zero,List.getElem_cons_succ,Nat.zero_mul,Nat.add_zero,Nat.one_mul]at g1 g2 g3 g4;have za:=hsz.2 a (by simp);have zd:=hsz.2 d (by simp);have y0:=Ab (o:=0) fR rfl;have y1:=Ab (o:=1) fR rfl;have SO:=fun (w':World) (h:Aa W4 w')=>(⟨h.cellS g1,h.cellS g2,h.cellS g3,h.cellS g4⟩:_/\_/\_/\_);have X:=Aa.refl W4;clear hrow4
    go_upto_region 5 with fail
    go_cut [5,6] (fun v5 v6 wx=>∃b5 b6,v5=.pointer (some ⟨b5,0,none⟩)/\v6=.pointer (some ⟨b6,0,none⟩)/\wx.heap[b5]?=some (.cells #[S (R a.x),S (R a.y)] 94)/\wx.heap[b6]?=some (.cells #[S (R d.x),S (R d.y)] 94)/\Aa W4 wx)
    case first=>
     go_region_held3 (fun w'=>w'.cell? ⟨bA,oA,none⟩=some (S (R a.x))/\w'.cell? ⟨bA,oA+1,none⟩=some (S (R a.y))/\w'.cell? ⟨bA,oA+2,none⟩=some (S (R d.x))/\w'.cell? ⟨bA,oA+2+1,none⟩=some (S (R d.y)))
      ((refine SO _ ?_;repeat (first|exact X|(with_reducible refine Aa.drew ?_)|(with_reducible refine Aa.alloc ?_ _)|(with_reducible refine Aa.setCell ?_ (by simp) _))))
      (fail)
     all_goals go_wp2
     all_goals go_meet
     all_goals
      first
       | (have tn:=Aby W4 (.cells #[S (R a.x),S (R a.y)] 94) (.cells #[S (R d.x),S (R d.y)] 94);exact⟨_,_,rfl,rfl,tn.1,tn.2.1,tn.2.2⟩)
       | (have tn:=Aby W4 (.cells #[S (R d.x),S (R d.y)] 94) (.cells #[S (R a.x),S (R a.y)] 94);exact⟨_,_,rfl,rfl,tn.2.1,tn.1,tn.2.2⟩)
    case rest=>
     obtain⟨b5,b6,rfl,rfl,hb5,Jq,Ax⟩:=hcut;obtain⟨W5,rfl⟩:=lQ Ax;have CL:=Cl.trans Ax;have y5:=Ax.cellS y0;have y6:=Ax.cellS y1;have u0:=Ab (o:=0) hb5 rfl;have u1:=Ab (o:=1) hb5 rfl;have u2:=Ab (o:=0) Jq rfl;have u3:=Ab (o:=1) Jq rfl;clear SO X g1 g2 g3 g4 y0 y1 Ax Cl fR hb5 Jq;have SO:=fun (w':World) (h:Aa W5 w')=>(⟨h.cellS u0,h.cellS u1,h.cellS u2,h.cellS u3,h.cellS y5,h.cellS y6⟩:_/\_/\_/\_/\_/\_);have X:=Aa.refl W5
     go_upto_region 6 with fail
     go_cut [7,8] (fun v7 v8 wx=>∃b7 b8,v7=.pointer (some ⟨b7,0,none⟩)/\v8=.pointer (some ⟨b8,0,none⟩)/\Aa W5 wx)
     case first=>
      go_region_held3 (fun w'=>w'.cell? ⟨b5,0,none⟩=some (S (R a.x))/\w'.cell? ⟨b5,1,none⟩=some (S (R a.y))/\w'.cell? ⟨b6,0,none⟩=some (S (R d.x))/\w'.cell? ⟨b6,1,none⟩=some (S (R d.y))/\w'.cell? ⟨ba,0,none⟩=some (S (R p.x))/\w'.cell? ⟨ba,1,none⟩=some (S (R p.y)))
       ((refine SO _ ?_;repeat (first|exact X|(with_reducible refine Aa.drew ?_)|(with_reducible refine Aa.alloc ?_ _)|(with_reducible refine Aa.setCell ?_ (by simp) _))))
       (fail)
      all_goals go_wp2
      all_goals go_meet
      all_goals exact⟨_,_,rfl,rfl,((X.alloc _).alloc _).drew⟩
     case rest=>
      obtain⟨b7,b8,rfl,rfl,BF⟩:=hcut;obtain⟨W6,rfl⟩:=lQ BF;have BO:=CL.trans BF;have q0:∀q:Ac W6,q.w.cell? ⟨b5,0,none⟩=some (S (R a.x)):=Ac.cell (BF.cellS u0);have q1:∀q:Ac W6,q.w.cell? ⟨b5,1,none⟩=some (S (R a.y)):=Ac.cell (BF.cellS u1);have q2:∀q:Ac W6,q.w.cell? ⟨b6,0,none⟩=some (S (R d.x)):=Ac.cell (BF.cellS u2);have q3:∀q:Ac W6,q.w.cell? ⟨b6,1,none⟩=some (S (R d.y)):=Ac.cell (BF.cellS u3);have q4:∀q:Ac W6,q.w.cell? ⟨ba,0,none⟩=some (S (R p.x)):=Ac.cell (BF.cellS y5);have q5:∀q:Ac W6,q.w.cell? ⟨ba,1,none⟩=some (S (R p.y)):=Ac.cell (BF.cellS y6);have ct:=fun (q:Ac W6)=>Mg a p d za hsz.1 zd (by omega) (by omega) q.w (hw.ext ((Cq.trans BO).trans q.h));obtain⟨s,hs⟩:=ArV (AI (Ai a p d));rw [←hs]at ct Er;unfold Af S at ct;have hs1:(s == 0)=false:=beq_false_of_ne Er;have hs2:(s != 0)=true:=(by rw [bne,hs1];rfl);clear hs SO X u0 u1 u2 u3 y5 y6 BF Er
      go_upto_region 7 with fail
      refine Bp (by kernel_rfl) (by kernel_rfl) ?_
      repeat (go_big_quiet_step (with_reducible refine Di (ct _)))
      refine wpQuiet_nil ?_;rintro W7 ⟨q,hq⟩;have AQ:Aa W6 W7:=hq▸q.h;clear hq q q0 q1 q2 q3 q4 q5 ct;go_wp2;go_roundw
      case rel=>exact⟨k+1,by go_num,Xq,BO.trans AQ⟩
      case measure=>simp [intOf];omega
   ·have GT:¬((es.length:Int)=2):=(by omega);have hb2:((es.length:Int) == 2)=false:=beq_false_of_ne GT;have hb3:((es.length:Int) != 2)=true:=(by rw [bne,hb2];rfl);go_wp2;go_roundw
    case rel=>exact⟨k+1,by go_num,Xq,Cl⟩
    case measure=>simp [intOf];omega
  ·have Bf:k=ks.length:=(by omega);subst Bf;go_wp2
   go_end0
   exact⟨rfl,Jm.trans BD⟩
theorem Ag8(l:List (Bs×Bs))(i:Nat):flat (l.take i)=(flat l).take (i*2):=by
 induction l generalizing i with
 | nil=>simp [flat]
 | cons e l ih=>
  cases i with
  | zero=>simp [flat]
  | succ i=>have e0:∀l,flat (e::l)=S e.1::S e.2::flat l:=fun _=>rfl;rw [List.take_succ_cons,e0,e0,ih];have e1:(i+1)*2=i*2+1+1:=(by omega);rw [e1];simp
theorem Am4(l:List Pt)(i:Nat):Ak (l.take i)=(Ak l).take i:=by unfold Ak;rw [List.map_take]
theorem Afn(l:List Pt)(i:Nat)(hi:i<=l.length)(p:Pt)(A:Option Addr)(c:Nat)(w:World)(hr:Ae w A (flat (Ak l)))(hc:l.length<=c)(hcm:c<=9223372036854775807) :
  Calls Tryz.prog 78 #[.slice A i c,Af p] w (Bw ((l.take i).any (An p)) w):=by
 have:=contains_c (l.take i) p A c w (by rw [Am4,Ag8];exact hr.take _) (by rw [List.length_take];omega) hcm;rw [List.length_take,Nat.min_eq_left hi]at this;exact this
def lX(m:Bz):List Sg:=(AS m.pts m.eds).map (·.1)
def lW(m:Bz):List (Pt×List Pt):=(CV m.pts m.eds).map (fun e=>(e.1,Et e.1 e.2))
def Pn(m:Bz):List (List Sg):=I3 (lX m) (lW m)
def Rk(m:Bz):List Int:=KF (lX m) (Pn m)
def aX(m:Bz):Int:=if Td (CV m.pts m.eds) m.pts=true then 25 else if MH (AS m.pts m.eds) m.nf (Pn m) (Rk m)=true then 0 else 14
theorem Aml(m:Bz)(hgr:∀p∈m.pts,DX p){k:Nat}(hk:0<k)(hk2:k<=1)(hz:∀p∈m.pts,Aq k p)(A B F:Option Addr)(c d g:Nat)(DI:JJ m c d g)(w:World)(hw:Al w)(hA:Ae w A (flat (Ak m.pts)))(hB:Ae w B (B6 m.eds))(r:Int)
  (h0:MM m=true→r=4) (h1:MM m=false→Dg [] m.pts≠0→r=Dg [] m.pts)
  (h2:MM m=false→Dg [] m.pts=0→Du m.pts.length m.nf [] m.eds≠0→r=Du m.pts.length m.nf [] m.eds) (h3:MM m=false→Dg [] m.pts=0→Du m.pts.length m.nf [] m.eds=0→El m.pts [] m.eds≠0→r=26)
  (h4:MM m=false→Dg [] m.pts=0→Du m.pts.length m.nf [] m.eds=0→El m.pts [] m.eds=0→r=aX m) :
  Calls Tryz.prog 33 #[Bv A B F m c d g] w (Av r w):=by
 have HA:=ArW hA;have HB:=ArW hB;have HZ:=ArW hz;have H0:=ArW h0;have H1:=ArW h1;have H2:=ArW h2;have H3:=ArW h3;have H4:=ArW h4;have pZ:=ArW hgr;have HC:=ArW DI;obtain⟨c1,c2,d1,d2,g1,g2⟩:=DI;have HL:=ArW (show MM m=(decide (400<m.pts.length)||(decide (1200<m.eds.length)||decide (800<m.nf)))from rfl);have hM:=ArY w (.cells #[.slice A m.pts.length c,.slice B m.eds.length d,.slice F m.nf g] 36);have hE:=(Aa.refl w).alloc (.cells #[.slice A m.pts.length c,.slice B m.eds.length d,.slice F m.nf g] 36);unfold Bv;clear hA hB hz h0 h1 h2 h3 h4 hgr;go_enter Tryz.func33,Tryz.ntmps33
 go_upto_region 1 with fail
 generalize w.alloc (.cells #[.slice A m.pts.length c,.slice B m.eds.length d,.slice F m.nf g] 36)=V at *;obtain⟨bm,CN⟩:=ArV w.heap.size;rw [←CN]at hM ⊢;have hle:w.heap.size<=bm:=(by omega);clear CN;have m1:=Ab (o:=0) hM rfl;have m2:=Ab (o:=1) hM rfl;have m3:=Ab (o:=2) hM rfl;by_cases n1:(400:Int)<(m.pts.length:Int)
 ·have dd:decide ((400:Int)<(m.pts.length:Int))=true:=decide_eq_true n1;have HH:=ArW (show r=4 from H0.out (by rw [HL.out,decide_eq_true (by omega)];rfl));go_wp2;go_ret;exact⟨by rw [HH.out];rfl,hE⟩
 have vK:decide ((400:Int)<(m.pts.length:Int))=false:=decide_eq_false n1;by_cases n2:(1200:Int)<(m.eds.length:Int)
 ·have dd:decide ((1200:Int)<(m.eds.length:Int))=true:=decide_eq_true n2;have HH:=ArW (show r=4 from H0.out (by rw [HL.out,decide_eq_true (p:=1200<m.eds.length) (by omega)];simp));clear n1;go_wp2;go_ret;exact⟨by rw [HH.out];rfl,hE⟩
 have bL:decide ((1200:Int)<(m.eds.length:Int))=false:=decide_eq_false n2;by_cases n3:(800:Int)<(m.nf:Int)
 ·have dd:decide ((800:Int)<(m.nf:Int))=true:=decide_eq_true n3;have HH:=ArW (show r=4 from H0.out (by rw [HL.out,decide_eq_true (p:=800<m.nf) (by omega)];simp));clear n1 n2;go_wp2;go_ret;exact⟨by rw [HH.out];rfl,hE⟩
 have vM:decide ((800:Int)<(m.nf:Int))=false:=decide_eq_false n3;have HN:=ArW (show MM m=false by rw [HL.out,decide_eq_false (by omega),decide_eq_false (by omega),decide_eq_false (by omega)];rfl);have Are:m.pts.length<=400:=(by omega);have AhW:m.eds.length<=1200:=(by omega);have AqD:m.nf<=800:=(by omega);clear n1 n2 n3 HL H0
 go_upto_block 0 with fail
 clear vK bL vM m1 m2 m3
 go_cut [] (fun wx=>Dg [] m.pts=0/\Aa V wx)
 case first=>
  (go_wp2_with fail)
  go_loopw [33] (fun i wr=>∃j:Nat,i=.int .i64 (j:Nat)/\j<=m.pts.length/\Dg (m.pts.take j) (m.pts.drop j)=Dg [] m.pts/\Aa V wr) (fun i _=>m.pts.length-(intOf i).toNat)
  case atStart=>exact⟨0,rfl,by omega,by simp,Aa.refl _⟩
  case round=>
   obtain⟨j,rfl,hj,Ah,Ad⟩:=hrel;have HO:=ArW Ah;clear Ah;by_cases hlt:j<m.pts.length
   ·obtain⟨b,o,rfl,hg1,hg2⟩:=Ca ((HA.out.ext hE).ext Ad) hlt;have hz:=HZ.out m.pts[j] (Asa hlt);obtain⟨p,hp⟩:=ArV (m.pts[j]);have HP:=ArW hp;have HS:=ArW (AeB hlt);rw [←hp]at hg1 hg2 hz;have hj0:(0:Int)<=(j:Int):=(by omega);have A7:(j:Int)<(m.pts.length:Int):=(by omega);have Xl:(j:Int)<=(c:Int):=(by omega);have AK:=ArY wr (.cells #[S (R p.x),S (R p.y)] 94);have hx1:=Ad.alloc (.cells #[S (R p.x),S (R p.y)] 94);have ck:=aW (R p.x) (R p.y) true (by simp only [true_iff];exact⟨Pp hz.x hk (by omega),Pp hz.y hk (by omega)⟩) (YX hz.x hk (by omega)) (YX hz.y hk (by omega));rw [Jh]at ck;clear hp hz
    go_upto_region 6 with fail
    generalize wr.alloc (.cells #[S (R p.x),S (R p.y)] 94)=V1 at *;obtain⟨bp,Nr⟩:=ArV wr.heap.size;rw [←Nr]at AK ⊢;clear Nr hg1 hg2;have k1:=Ab (o:=0) AK rfl;have k2:=Ab (o:=1) AK rfl;(go_wp2_with fail);(with_reducible refine(ck _ (hw.ext (hE.trans hx1))).mono ?_);rintro e w2 ⟨rfl,hx2⟩;have Db:=(hx2.block _ (ArX AK)).trans AK;replace hx2:=hx1.trans hx2;have hw2:=hw.ext (hE.trans hx2);have I8:=(hx2.block _ (ArX hM)).trans hM;have f1:∀q:Ac w2,q.w.cell? ⟨bp,0,none⟩=some (S (R p.x)):=Ac.cell (Ab Db rfl);have f2:∀q:Ac w2,q.w.cell? ⟨bp,1,none⟩=some (S (R p.y)):=Ac.cell (Ab Db rfl);have f3:∀q:Ac w2,q.w.cell? ⟨bm,0,none⟩=some (.slice (some ⟨b,o,none⟩) m.pts.length c):=Ac.cell (Ab I8 rfl);have ct:=fun q:Ac w2=>Afn m.pts j hj p (some ⟨b,o,none⟩) c q.w ((HA.out.ext (hE.trans hx2)).ext q.h) c1 c2;unfold Af at ct;obtain⟨du,Kq⟩:=ArV ((m.pts.take j).any (An p));rw [←Kq]at ct;have HD:=ArW Kq;clear Kq k1 k2 ck AK Db I8 hx1 Ad;(go_wp2_with fail);refine Bp (by kernel_rfl) (by kernel_rfl) ?_
    repeat (go_big_quiet_step (with_reducible refine cR (ct _)))
    refine wpQuiet_nil ?_;rintro _ ⟨q,rfl⟩;have hxq:=hx2.trans q.h;have HQ:=ArW hxq
    cases du
    ·have HH:=ArW (show Dg (m.pts.take (j+1)) (m.pts.drop (j+1))=Dg [] m.pts by
      rw [←HO.out,HS.out,←HP.out,←HD.out];rfl)
     go_wp2;go_roundw
     case rel=>exact⟨j+1,by go_num,hlt,HH.out,HQ.out⟩
     case measure=>simp [intOf];omega
    ·have HH:=ArW (show Dg [] m.pts=9 by rw [←HO.out,HS.out,←HP.out,←HD.out];rfl);have HR:=ArW (show r=9 by rw [←HH.out];exact H1.out HN.out (by rw [HH.out];omega));go_wp2;go_ret;exact⟨by rw [HR.out];rfl,hE.trans HQ.out⟩
   ·have hle:(m.pts.length:Int)<=(j:Int):=(by omega);have HH:=ArW (show Dg [] m.pts=0 by rw [←HO.out,List.drop_eq_nil_of_le (by omega)];unfold Dg;rfl);go_wp2;go_meet;exact⟨HH.out,Ad⟩
 case rest=>
  obtain⟨hc1,hx1⟩:=hcut;have pJ:=ArW (fun h=>H2.out HN.out hc1 h);have Zq:=ArW hc1;have Vs:=ArW hx1;have Lt:=(hx1.block _ (ArX hM)).trans hM;have m1:=Ab (o:=1) Lt rfl;clear hc1 H1 hx1
  go_upto_block 3 with fail
  clear m1
  go_cut [] (fun wx=>Du m.pts.length m.nf [] m.eds=0/\Aa V wx)
  case first=>
   (go_wp2_with fail)
   go_loopw [53] (fun i wr=>∃j:Nat,i=.int .i64 (j:Nat)/\j<=m.eds.length/\Du m.pts.length m.nf (m.eds.take j) (m.eds.drop j)=Du m.pts.length m.nf [] m.eds/\Aa V wr) (fun i _=>m.eds.length-(intOf i).toNat)
   case atStart=>exact⟨0,rfl,by omega,by simp,Vs.out⟩
   case round=>
    obtain⟨j,rfl,hj,Ah,Ad⟩:=hrel;have HO:=ArW Ah;clear Ah;by_cases hlt:j<m.eds.length
    ·have hj0:(0:Int)<=(j:Int):=(by omega);have A7:(j:Int)<(m.eds.length:Int):=(by omega);have HS:=ArW (AeD (np:=m.pts.length) (nf:=m.nf) hlt);have ce:=Ae5 m A B F c d g HC.out j hlt wr (HB.out.ext (hE.trans Ad));obtain⟨z,hz⟩:=ArV (Kd m.pts.length m.nf (m.eds.take j) m.eds[j]);rw [←hz]at ce;have qV:=ArW hz;unfold Bv at ce;have EZ:=(Ad.block _ (ArX hM)).trans hM;have m1:=Ab (o:=0) EZ rfl;have m2:=Ab (o:=1) EZ rfl;have m3:=Ab (o:=2) EZ rfl;clear hz EZ;(go_wp2_with fail);(with_reducible refine ce.mono ?_);rintro e w2 ⟨rfl,hx2⟩;have HX:=ArW (Ad.trans hx2);clear m1 m2 m3 hx2 ce;by_cases hz0:z=0
     ·have HH:=ArW (show Du m.pts.length m.nf (m.eds.take (j+1)) (m.eds.drop (j+1))=Du m.pts.length m.nf [] m.eds by
       rw [←HO.out,HS.out,←qV.out,if_neg (by omega)])
      subst hz0;go_wp2;go_roundw
      case rel=>exact⟨j+1,by go_num,hlt,HH.out,HX.out⟩
      case measure=>simp [intOf];omega
     ·have HH:=ArW (show Du m.pts.length m.nf [] m.eds=z by rw [←HO.out,HS.out,←qV.out,if_pos (by omega)]);have HR:=ArW (show r=z by rw [←HH.out];exact pJ.out (by rw [HH.out];exact hz0));have dd:(z == 0)=false:=(by rw [beq_eq_false_iff_ne];exact hz0);have bL:(z != 0)=true:=(by rw [bne_iff_ne];exact hz0);clear hz0;go_wp2;go_ret;exact⟨by rw [HR.out];rfl,hE.trans HX.out⟩
    ·have hle:(m.eds.length:Int)<=(j:Int):=(by omega);have HH:=ArW (show Du m.pts.length m.nf [] m.eds=0 by rw [←HO.out,List.drop_eq_nil_of_le (by omega)];unfold Du;rfl);go_wp2;go_meet;exact⟨HH.out,Ad⟩
  case rest=>
   obtain⟨hc2,hx1⟩:=hcut;have pK:=ArW (fun h=>H3.out HN.out Zq.out hc2 h);have Sb:=ArW hc2;have Is:=ArW hx1;have Lt:=(hx1.block _ (ArX hM)).trans hM;have m1:=Ab (o:=1) Lt rfl;clear hc2 pJ Vs hx1
   go_upto_region 18 with fail
   go_upto_block 5 with fail
   go_cut [] (fun wx=>El m.pts [] m.eds=0/\Aa V wx)
   case first=>
    (go_wp2_with fail)
    go_loopw [66] (fun i wr=>∃j:Nat,i=.int .i64 (j:Nat)/\j<=m.eds.length/\El m.pts (m.eds.take j) (m.eds.drop j)=El m.pts [] m.eds/\Aa V wr) (fun i _=>m.eds.length-(intOf i).toNat)
    case atStart=>exact⟨0,rfl,by omega,by simp,Is.out⟩
    case round=>
     obtain⟨j,rfl,hj,Ah,Ad⟩:=hrel;have HO:=ArW Ah;clear Ah;by_cases hlt:j<m.eds.length
     ·have hj0:(0:Int)<=(j:Int):=(by omega);have A7:(j:Int)<(m.eds.length:Int):=(by omega);have hjd:(j:Int)<=(d:Int):=(by omega);have HS:=ArW (AeF (pts:=m.pts) hlt);obtain⟨b,o,rfl,hg1,hg2,hg3,hg4⟩:=UI ((HB.out.ext hE).ext Ad) hlt;have hck:=VO (SC (l:=m.eds) Sb.out j hlt);obtain⟨e,he⟩:=ArV (m.eds[j]);rw [←he]at hg1 hg2 hg3 hg4 hck;have pV:=ArW he;obtain⟨ef,OH⟩:∃n:Nat,e.f=(n:Int):=⟨e.f.toNat,by omega⟩;obtain⟨et,OI⟩:∃n:Nat,e.t=(n:Int):=⟨e.t.toNat,by omega⟩;have QE:ef<m.pts.length:=(by omega);have QF:et<m.pts.length:=(by omega);have pU:=ArW (And.intro OH OI);rw [OH]at hg1;rw [OI]at hg2;obtain⟨ba,oa,rfl,ha1,ha2⟩:=Ca ((HA.out.ext hE).ext Ad) QE;obtain⟨b2,o2,Gv,hb1,hb2⟩:=Ca ((HA.out.ext hE).ext Ad) QF;obtain⟨rfl,rfl⟩:ba=b2/\oa=o2:=(by simpa using Gv);have QX:=HZ.out m.pts[ef] (Asa QE);have hzb:=HZ.out m.pts[et] (Asa QF);obtain⟨pa,DK⟩:=ArV (m.pts[ef]);obtain⟨pb,Ic⟩:=ArV (m.pts[et]);rw [←DK]at ha1 ha2 QX;rw [←Ic]at hb1 hb2 hzb;have Vk:=ArW (And.intro DK Ic);have f0:(0:Int)<=(ef:Int):=(by omega);have f1:(ef:Int)<(m.pts.length:Int):=(by omega);have f2:(0:Int)<=(et:Int):=(by omega);have f3:(et:Int)<(m.pts.length:Int):=(by omega);have EZ:=(Ad.block _ (ArX hM)).trans hM;have m1:=Ab (o:=1) EZ rfl;have AK:=ArY wr (.cells #[.int .i64 (ef:Nat),.int .i64 (et:Nat),.int .i64 e.l,.int .i64 e.r] 126);have hx1:=Ad.alloc (.cells #[.int .i64 (ef:Nat),.int .i64 (et:Nat),.int .i64 e.l,.int .i64 e.r] 126);have hx0:=(Aa.refl wr).alloc (.cells #[.int .i64 (ef:Nat),.int .i64 (et:Nat),.int .i64 e.l,.int .i64 e.r] 126);replace ha1:=hx0.cellS ha1;replace ha2:=hx0.cellS ha2;replace hb1:=hx0.cellS hb1;replace hb2:=hx0.cellS hb2;clear hck he OH OI Gv DK Ic
      go_upto_region 21 with fail
      generalize wr.alloc (.cells #[.int .i64 (ef:Nat),.int .i64 (et:Nat),.int .i64 e.l,.int .i64 e.r] 126)=V1 at *;obtain⟨bp,Nr⟩:=ArV wr.heap.size;rw [←Nr]at AK ⊢;clear Nr hg1 hg2 hg3 hg4 Ad EZ m1 hx0;have GI:=(hx1.block _ (ArX hM)).trans hM;have m1:=Ab (o:=1) GI rfl
      go_upto_region 22 with fail
      clear m1
      go_loopw [76] (fun i wr=>∃jj:Nat,i=.int .i64 (jj:Nat)/\jj<=j/\(∀f∈m.eds.take jj,Qc m.pts e f=false)/\Aa V1 wr) (fun i _=>j-(intOf i).toNat)
      case atStart=>exact⟨0,rfl,by omega,by simp,Aa.refl _⟩
      case round=>
       obtain⟨jj,rfl,Dl,Ah,Ad⟩:=hrel;have Vj:=ArW Ah;clear Ah;by_cases hlt2:jj<j
       ·have jj0:(0:Int)<=(jj:Int):=(by omega);have jjl:(jj:Int)<(j:Int):=(by omega);have OQ:jj<m.eds.length:=(by omega);obtain⟨b',o',Bq,hg1,hg2,hg3,hg4⟩:=UI (((HB.out.ext hE).ext hx1).ext Ad) OQ;obtain⟨rfl,rfl⟩:b=b'/\o=o':=(by simpa using Bq);have hck:=VO (SC (l:=m.eds) Sb.out jj OQ);obtain⟨f,hf⟩:=ArV (m.eds[jj]);rw [←hf]at hg1 hg2 hg3 hg4 hck;have pX:=ArW hf;obtain⟨ff,iC⟩:∃n:Nat,f.f=(n:Int):=⟨f.f.toNat,by omega⟩;obtain⟨ft,iH⟩:∃n:Nat,f.t=(n:Int):=⟨f.t.toNat,by omega⟩;have iD:ff<m.pts.length:=(by omega);have iI:ft<m.pts.length:=(by omega);have pW:=ArW (And.intro iC iH);rw [iC]at hg1;rw [iH]at hg2;obtain⟨b3,o3,Kr,hc1,hc2⟩:=Ca ((HA.out.ext hE).ext hx1) iD;obtain⟨b4,o4,gm,gW,GN⟩:=Ca ((HA.out.ext hE).ext hx1) iI;obtain⟨rfl,rfl⟩:ba=b3/\oa=o3:=(by simpa using Kr);obtain⟨rfl,rfl⟩:ba=b4/\oa=o4:=(by simpa using gm);have QY:=HZ.out m.pts[ff] (Asa iD);have hzd:=HZ.out m.pts[ft] (Asa iI);obtain⟨pc,N3⟩:=ArV (m.pts[ff]);obtain⟨pd,jP⟩:=ArV (m.pts[ft]);rw [←N3]at hc1 hc2 QY;rw [←jP]at gW GN hzd;have qK:=ArW (And.intro N3 jP);have f4:(0:Int)<=(ff:Int):=(by omega);have f5:(ff:Int)<(m.pts.length:Int):=(by omega);have f6:(0:Int)<=(ft:Int):=(by omega);have f7:(ft:Int)<(m.pts.length:Int):=(by omega);have Db:=ArY wr (.cells #[.int .i64 (ff:Nat),.int .i64 (ft:Nat),.int .i64 f.l,.int .i64 f.r] 126);have hx2:=Ad.alloc (.cells #[.int .i64 (ff:Nat),.int .i64 (ft:Nat),.int .i64 f.l,.int .i64 f.r] 126);clear hck hf iC iH Kr gm N3 jP Bq
        go_upto_region 24 with fail
        generalize wr.alloc (.cells #[.int .i64 (ff:Nat),.int .i64 (ft:Nat),.int .i64 f.l,.int .i64 f.r] 126)=V2 at *;obtain⟨bq,eh⟩:=ArV wr.heap.size;rw [←eh]at Db ⊢;have hx3:=hx1.trans hx2;have I8:=(hx2.block _ (ArX GI)).trans GI;have fV:=(hx2.block _ (ArX AK)).trans AK;have Uu:=hw.ext (hE.trans hx3);have q1:∀q:Ac V2,q.w.cell? ⟨bm,0,none⟩=some (.slice (some ⟨ba,oa,none⟩) m.pts.length c):=Ac.cell (Ab I8 rfl);have q2:∀q:Ac V2,q.w.cell? ⟨bp,0,none⟩=some (.int .i64 (ef:Nat)):=Ac.cell (Ab fV rfl);have q3:∀q:Ac V2,q.w.cell? ⟨bp,1,none⟩=some (.int .i64 (et:Nat)):=Ac.cell (Ab fV rfl);have q4:∀q:Ac V2,q.w.cell? ⟨bq,0,none⟩=some (.int .i64 (ff:Nat)):=Ac.cell (Ab Db rfl);have q5:∀q:Ac V2,q.w.cell? ⟨bq,1,none⟩=some (.int .i64 (ft:Nat)):=Ac.cell (Ab Db rfl);have a1:∀q:Ac V2,q.w.cell? ⟨ba,oa+ef*2,none⟩=some (S (R pa.x)):=Ac.cell (hx2.cellS ha1);have a2:∀q:Ac V2,q.w.cell? ⟨ba,oa+ef*2+1,none⟩=some (S (R pa.y)):=Ac.cell (hx2.cellS ha2);have a3:∀q:Ac V2,q.w.cell? ⟨ba,oa+et*2,none⟩=some (S (R pb.x)):=Ac.cell (hx2.cellS hb1);have a4:∀q:Ac V2,q.w.cell? ⟨ba,oa+et*2+1,none⟩=some (S (R pb.y)):=Ac.cell (hx2.cellS hb2);have a5:∀q:Ac V2,q.w.cell? ⟨ba,oa+ff*2,none⟩=some (S (R pc.x)):=Ac.cell (hx2.cellS hc1);have a6:∀q:Ac V2,q.w.cell? ⟨ba,oa+ff*2+1,none⟩=some (S (R pc.y)):=Ac.cell (hx2.cellS hc2);have a7:∀q:Ac V2,q.w.cell? ⟨ba,oa+ft*2,none⟩=some (S (R pd.x)):=Ac.cell (hx2.cellS gW);have a8:∀q:Ac V2,q.w.cell? ⟨ba,oa+ft*2+1,none⟩=some (S (R pd.y)):=Ac.cell (hx2.cellS GN);have cr:=fun q:Ac V2=>Amm pa pb pc pd QX hzb QY hzd hk (by omega) q.w (Uu.ext q.h);obtain⟨cx,gV⟩:=ArV (NR pa pb pc pd);rw [←gV]at cr
        have hce:Qc m.pts e f=cx:=by unfold Qc FA;rw [pU.out.1,pU.out.2,pW.out.1,pW.out.2,gV,Vk.out.1,Vk.out.2,qK.out.1,qK.out.2];simp [QE,QF,iD,iI]
        have JL:=ArW hce;unfold Af at cr;clear eh I8 fV Db ha1 ha2 hb1 hb2 hc1 hc2 gW GN QX hzb QY hzd gV hce hg1 hg2 hg3 hg4 GI AK;refine Bp (by kernel_rfl) (by kernel_rfl) ?_
        repeat (go_big_quiet_step (with_reducible refine cR (cr _)))
        refine wpQuiet_nil ?_;rintro _ ⟨q,rfl⟩;have Sq:=ArW (hx2.trans q.h);have Oi:=ArW (hE.trans (hx3.trans q.h));clear q1 q2 q3 q4 q5 a1 a2 a3 a4 a5 a6 a7 a8 cr hx2 hx3
        cases cx
        ·go_wp2;go_roundw
         case rel=>
          refine⟨jj+1,by go_num,by omega,?_,Sq.out⟩;intro x hx;rw [Asd OQ,←pX.out]at hx
          rcases List.mem_append.1 hx with h|h
          ·exact Vj.out x h
          ·simp only [Asn]at h;rw [h];exact JL.out
         case measure=>simp [intOf];omega
        ·have HH:=ArW (show El m.pts [] m.eds=26 by
          rw [←HO.out,HS.out,if_pos];rw [←pV.out,List.any_eq_true]
          exact⟨f,by rw [pX.out,List.mem_take_iff_getElem];exact⟨jj,by omega,rfl⟩,JL.out⟩)
         have HR:=ArW (show r=26 from pK.out (by rw [HH.out];omega));go_wp2;go_ret;exact⟨by rw [HR.out];rfl,Oi.out⟩
       ·have Xs:(j:Int)<=(jj:Int):=(by omega);obtain rfl:jj=j:=by omega
        have HH:=ArW (show El m.pts (m.eds.take (jj+1)) (m.eds.drop (jj+1))=El m.pts [] m.eds by
         rw [←HO.out,HS.out,if_neg];rw [←pV.out,Bool.not_eq_true,List.any_eq_false]
         intro x hx;rw [Vj.out x hx];simp)
        have HX:=ArW (hx1.trans Ad);go_wp2;go_roundw
        case rel=>exact⟨jj+1,by go_num,hlt,HH.out,HX.out⟩
        case measure=>simp [intOf];omega
     ·have hle:(m.eds.length:Int)<=(j:Int):=(by omega);have HH:=ArW (show El m.pts [] m.eds=0 by rw [←HO.out,List.drop_eq_nil_of_le (by omega)];unfold El;rfl);go_wp2;go_meet;exact⟨HH.out,Ad⟩
   case rest=>
    obtain⟨hc3,hx1⟩:=hcut;obtain⟨wx,rfl⟩:=named hx1;have HH4:=ArW (H4.out HN.out Zq.out Sb.out hc3);have TL:=vZ Zq.out Sb.out;have Lt:=(hx1.block _ (ArX hM)).trans hM;have x0:=Ab (o:=0) Lt rfl;have x1:=Ab (o:=1) Lt rfl;have x2:=Ab (o:=2) Lt rfl;have By:=hE.trans hx1;have DI:JJ m c d g:=HC.out;have oc:=Alx m A B F c d g DI TL AhW wx (HA.out.ext By) (HB.out.ext By);have AiD:=hw.ext By;unfold Bv at oc;have ag:=fun (w2:World) (h2:Aa wx w2) (rn b1 b2:Nat) (E:List (Pt×Value×Nat)) (hn:B5 wx.heap.size w2 rn b1 b2 (AS m.pts m.eds) E (CV m.pts m.eds))=>AdA AiD h2 hn rfl (vz m.pts m.eds) (wl TL pZ.out hc3) (lY TL pZ.out) (by rw [lZ];omega) (fun e he=>by have:=U8 m.pts m.eds e he;omega) m.nf (by omega) (wh Sb.out) (R1:=lW m) rfl (C:=Pn m) rfl (rg:=Rk m) rfl;have Xw:∀(fn:Fn) (first cap:Array Value) (w:World),(Instr.makeFunc fn first cap).run Tryz.prog w=.ok (.func fn first cap) w:=fun _ _ _ _=>rfl;have qH:=ArW Lt;obtain⟨fw,hfw⟩:=ArV (Td (CV m.pts m.eds) m.pts);obtain⟨ab,hab⟩:=ArV (MH (AS m.pts m.eds) m.nf (Pn m) (Rk m))
    have hr:r=if fw=true then 25 else if ab=true then 0 else 14:=by rw [HH4.out,hfw,hab];rfl
    have HFW:=ArW hfw;have HR:=ArW hr;rw [←hab]at ag;generalize (Le (AS m.pts m.eds) m.nf (Pn m) (Rk m)).op=ao at *;clear Lt hx1 TL hc3 hfw hab hr H2 H3 pK
    go_upto_region 28 with fail
    (go_wp2_with fail);(with_reducible refine oc.mono ?_);rintro e w2 ⟨rn,b1,b2,E,rfl,hx2,D1⟩;have GH:=(Aa.refl w2).alloc (.cells #[.pointer (some ⟨rn,0,none⟩)] 128);have Cm:=ArY w2 (.cells #[.pointer (some ⟨rn,0,none⟩)] 128);have LH:=D1.ext GH;have hx3:=hx2.trans GH;have EY:=(hx3.block _ (ArX qH.out)).trans qH.out;have y0:=Ab (o:=0) EY rfl;clear x0 x1 x2 oc D1
    go_upto_region 29 with fail
    generalize w2.alloc (.cells #[.pointer (some ⟨rn,0,none⟩)] 128)=w3 at *;obtain⟨bn,Nq⟩:=ArV w2.heap.size;rw [←Nq]at Cm ⊢;clear Nq;have af:=AdB LH bn (Ab Cm rfl) m.pts A c (HA.out.ext (By.trans hx3)) (by assumption) (by assumption);rw [←HFW.out]at af;(go_wp2_with fail);(with_reducible refine af.mono ?_);rintro e w4 ⟨rfl,Aj⟩;have pu:=hx3.trans Aj;have Qn:=(Aj.block _ (ArX EY)).trans EY;have dw:=(Aj.block _ (ArX Cm)).trans Cm;have z2:=Ab (o:=2) Qn rfl;have z3:=Ab (o:=0) dw rfl;have ag4:=ag w4 pu rn b1 b2 E (LH.ext Aj);clear ag af EY Cm Qn dw y0 LH hx2 hx3 GH Aj
    cases fw
    ·have Iq:=ArW (show r=if ab=true then 0 else 14 from HR.out);(go_wp2_with fail);(with_reducible refine ag4.mono ?_);rintro e w5 ⟨rfl,Ax⟩
     cases ab
     ·obtain rfl:r=14:=Iq.out;go_wp2;go_ret;exact⟨rfl,By.trans Ax⟩
     ·obtain rfl:r=0:=Iq.out;go_wp2;go_ret;exact⟨rfl,By.trans Ax⟩
    ·obtain rfl:r=25:=HR.out;go_wp2;go_ret;exact⟨rfl,By.trans pu⟩
def I0(m:Bz):Int:=
 if MM m=true then 4 else if Dg [] m.pts≠0 then Dg [] m.pts else if Du m.pts.length m.nf [] m.eds≠0 then Du m.pts.length m.nf [] m.eds else if El m.pts [] m.eds≠0 then 26 else aX m
theorem yv(m:Bz)(hgr:∀p∈m.pts,DX p)(A B F:Option Addr)(c d g:Nat)(DI:JJ m c d g)(w:World)(hw:Al w)(hA:Ae w A (flat (Ak m.pts)))(hB:Ae w B (B6 m.eds)) :
  Calls Tryz.prog 33 #[Bv A B F m c d g] w (Av (I0 m) w):=by
 refine Aml m hgr (k:=1) (by omega) (by omega) (fun p hp=>(hgr p hp).sz (by omega)) A B F c d g DI w hw hA hB (I0 m) ?_ ?_ ?_ ?_ ?_
 ·intro h;unfold I0;rw [if_pos h]
 ·intro h h1;unfold I0;rw [if_neg (by rw [h];simp),if_pos h1]
 ·intro h h1 h2;unfold I0;rw [if_neg (by rw [h];simp),if_neg (by omega),if_pos h2]
 ·intro h h1 h2 h3;unfold I0;rw [if_neg (by rw [h];simp),if_neg (by omega),if_neg (by omega),if_pos h3]
 ·intro h h1 h2 h3;unfold I0;rw [if_neg (by rw [h];simp),if_neg (by omega),if_neg (by omega),if_neg (by omega)]
end Go.Proofs.YtbejphgbbpplbaaGreatDoor
