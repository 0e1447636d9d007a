/- J40: BU. -/
import Derived.Test.YtnddllipjippnaaGreatDoorJ38
set_option maxRecDepth 100000
set_option maxHeartbeats 16000000
namespace Go.Proofs.YtnddllipjippnaaGreatDoor
open Go.RowKit Kl Go.Shelf
theorem Acj{w:World}{b:Nat}{a0 a1 a2:Value}{t:TypeId}(v:Value)(h:w.heap[b]?=some (.cells #[a0,a1,a2] t)):(w.setCell ⟨b,0,none⟩ v).heap[b]?=some (.cells #[v,a1,a2] t):=by
 simp only [World.setCell,Array.getElem?_modify,h];simp
theorem Acn{w:World}{b o:Nat}{cs:Array Value}{t:TypeId}{fz:Nat×Nat}{v:Value}(h:w.heap[b]?=some (.cells cs t fz))(hc:w.cell? ⟨b,o,none⟩=some v):cs[o]?=some v:=by
 cases e:cs[o]? with
 | some u=>
  have h2:=hc;simp [World.cell?,h,e]at h2;rw [←h2]
 | none=>simp [World.cell?,h,e]at hc
theorem On{l:List Pt}{j:Nat}(hj:j<(flat (Aq l)).length):∃s,(flat (Aq l))[j]=S s:=by
 have:=Ao8 hj;unfold flat at this;rw [List.mem_flatMap]at this;obtain⟨p,_,h⟩:=this;simp only [List.mem_cons,AoI,or_false]at h
 rcases h with h|h
 ·exact⟨_,h⟩
 ·exact⟨_,h⟩
theorem Aid{c:Cn}{E F:Value}{nm:List (Int×Int)}{Ay:List Bs}{eds:List EdZ}{w:World}(_:Cs c E F nm Ay eds w):∃x,x=w:=⟨w,rfl⟩
theorem NE{w:World}{B:Nat}{e:TypeId}{s n c:Nat}{A:Option Addr}{xs:List Value}(hs:0<s)(h:w.ownsRow B e s (.slice A n c) n xs):Af w A xs:=by
 obtain⟨A',c',e',h1,-,-⟩:=Af.of_own' hs h;simp only [Value.slice.injEq]at e';rw [e'.1];exact h1
theorem oh{B B':Nat}{w w':World}{e:TypeId}{s n:Nat}{v:Value}{xs:List Value}(h:w.ownsRow B' e s v n xs)(hk:KB B w w')(h1:e≠35)(h2:e≠9)(h3:e≠51):w'.ownsRow B' e s v n xs:=by
 refine⟨h.1,?_⟩
 rcases h.2 with h'|⟨g,cap,cur,e1,e2,hgb,e4⟩
 ·exact .inl h'
 ·exact .inr ⟨g,cap,cur,e1,e2,hk.kp g cur e (0,0) h1 h2 h3 hgb,e4⟩
theorem AgW{pts:List Pt}(C6:pts.Nodup){k:Nat}(hk:k<pts.length):∀e∈Ci (pts.take k),Ax pts[k] e.1=false:=by
 intro e he
 have h1:e.1∈pts.take k:=by
  have:=List.mem_map_of_mem (f:=(·.1)) he
  rwa [AgM]at this
 refine qo.2 fun h2=>?_;obtain⟨j,hj,h3⟩:=List.getElem_of_mem h1;rw [List.getElem_take]at h3;have hj':j<k:=(by rw [List.length_take]at hj;omega);have:=(List.getElem_inj (h₀:=by omega) (h₁:=hk) C6).1 (h3.trans h2.symm);omega
theorem qX{w0 w:World}(hw:Am w0)(hx:Ab w0 w){B0 r b1 b2:Nat}{L:List (Sg×Int)}{E:List (Pt×Value×Nat)}{R0:List (Pt×List Pt)}(h:BD B0 w r b1 b2 L E R0)
  (hz:∀e∈R0,Az 200 e.1/\∀p∈e.2,Az 200 p) (hlen:R0.length<=100000) (hrl:∀e∈R0,e.2.length<100000) (C6:(R0.map (·.1)).Nodup) (hno:∀e∈R0,∀p q,e.2 = [p,q]→AZ (Ar p e.1 q)≠0)
  (hL:∀e∈L,EP 200 e.1) (hLl:L.length<=40000) (hback:∀e∈L,∃e'∈L,e'.1=Bh e.1) (U:Option Addr) (cu:Nat) (units:List Bs) (hU:Af w U (units.map S)) (LM:∀x,U=some x→x.block<w.heap.size) (Kq:units.length<=100000)
  (OJ:∀x∈L,-1<=x.2/\x.2<(units.length:Int)) {pts:List Pt} (OM:pts=Fo (R0.map (·.1))) {ws:List Sg} (OT:ws=BO (L.map (·.1))) {st:G9} (hst:st=I1 units (Ci pts) L ws) :
  Calls Tryz.prog 78 #[.pointer (some ⟨r,0,none⟩),.slice U units.length cu] w (mM w ⟨pts,st.ed,st.fa.length⟩ st.fa):=by
 have hmm:=@run_makeMap Tryz.prog;have AnI:=Ao5 h.cell;have AmK:=Ao5 h.left;have di:pts.Nodup:=(by rw [OM];exact(KF _).nodup_iff.2 C6);have AfW:pts.length=R0.length:=(by rw [OM,(KF _).length_eq];simp);have E1:=((Ab.refl w).alloc (.cells #[.slice U units.length cu] 33)).alloc (.cells #[.slice none 0 0,.slice none 0 0,.slice none 0 0] 35);have Qg:=Ao6 w (.cells #[.slice U units.length cu] 33);have hbr:=Ao6 (w.alloc (.cells #[.slice U units.length cu] 33)) (.cells #[.slice none 0 0,.slice none 0 0,.slice none 0 0] 35);rw [AoE]at hbr;have yB:=(Below.heap_alloc (w.alloc (.cells #[.slice U units.length cu] 33)) (.cells #[.slice none 0 0,.slice none 0 0,.slice none 0 0] 35) w.heap.size (by simp)).trans Qg;have lv:=Ah2 hw (hx.trans E1) (h.ext E1) hz hlen hrl C6 hno;have Dq:=h.ar.len;have Ep:=h.ar.keys;have Aa4:=Ao4 (fun i (hi:i<E.length)=>(h.ar.row i hi (by rw [←Dq];exact hi)).2.1)
 have vE:∀e∈E,Az 200 e.1:=fun e he=>by have:e.1∈R0.map (·.1):=(by rw [←Ep];exact List.mem_map_of_mem he);obtain⟨e',he',h1⟩:=List.mem_map.1 this;rw [←h1];exact(hz e' he').1
 have Ir:=Ao4 h;have zf:=Ao4 vE;have HST:=Ao4 hst;have M7:=Ao4 OT;have Va:=Ao4 OM;have Rz:=Ao4 Ep;have Pp:=Ao4 (show E.length=pts.length by omega);have HU:=Ao4 hU;have HU2:=Ao4 LM;have HL:=Ao4 hL;have ym:=Ao4 hback;have nH:=Ao4 OJ;have HPN:=Ao4 di;have hpl:pts.length<=100000:=(by omega);clear Qg h vE hst OT OM Ep Dq hU LM hL hback OJ di AfW hz hlen hrl C6 hno;go_enter Tryz.func78,Tryz.ntmps78;have hs1:((w.alloc (.cells #[.slice U units.length cu] 33)).alloc (.cells #[.slice none 0 0,.slice none 0 0,.slice none 0 0] 35)).heap.size=w.heap.size+2:=by simp only [AoE]
 go_upto_region 1 with fail
 generalize (w.alloc (.cells #[.slice U units.length cu] 33)).alloc (.cells #[.slice none 0 0,.slice none 0 0,.slice none 0 0] 35)=W1 at *;(go_wp2_with fail);(with_reducible refine lv.mono ?_);rintro e w2 ⟨rfl,hx2⟩;clear lv;have CW:=E1.trans hx2;have cH:=(hx2.block _ (Ao5 yB)).trans yB;have hR2:=(hx2.block _ (Ao5 hbr)).trans hbr;have hs2:=hx2.size;have Kc:=Ir.out.ext CW;have m1:=Aa (o:=1) Kc.cell rfl;obtain⟨bm,AW⟩:=Ao3 w2.heap.size;have kp:=fun W=>kg (some b2) W;have E3:=(Ab.refl w2).alloc (.cells #[.slice none 0 0,.slice none 0 0,.slice none 0 0] 35);have CV:=Ao6 w2 (.cells #[.slice none 0 0,.slice none 0 0,.slice none 0 0] 35);have m3:=E3.cellS m1
 go_upto_region 3 with fail
 rw [←AW]at CV ⊢;generalize w2.alloc (.cells #[.slice none 0 0,.slice none 0 0,.slice none 0 0] 35)=W3 at *;have C0:=CW.trans E3;have GN:=Ir.out.ext C0;have AeX:w.heap.size+2<=bm:=(by omega);have xU:w.heap.size<=bm:=(by omega);have Qd:=(E3.block _ (Ao5 cH)).trans cH;have AK:=(E3.block _ (Ao5 hR2)).trans hR2;clear AW m1 Kc hx2 cH hR2 hs2;have E4:=(Ab.refl W3).alloc (.cells #[.map (some b2)] 96);have Cq:=Ao6 W3 (.cells #[.map (some b2)] 96);have sk:=uu hw ((hx.trans C0).trans E4) W3.heap.size b2 E Aa4.out (Ao5 Cq) (Aa Cq rfl) (GN.ext E4).ar.blk zf.out (by have:=Pp.out;omega);rw [Rz.out,←Va.out,Pp.out]at sk;(go_wp2_with fail);(with_reducible refine(kp _).mono ?_);rintro e w4 ⟨rfl,rfl⟩;(go_wp2_with fail);(with_reducible refine sk.mono ?_);rintro e w5 ⟨sv,rfl,Dw,PU⟩;obtain⟨pA,pc,rfl,hP5,AfR,AfS⟩:=Af.of_own' (by omega) Dw;have Pk:=E4.trans PU;have SR:=(Pk.block _ (Ao5 CV)).trans CV;have y0:=Aa (o:=0) SR rfl;have y1:=Aj (o:=0) SR;have wH:=(Pk.block _ (Ao5 Qd)).trans Qd;have wB:=(Pk.block _ (Ao5 AK)).trans AK;clear sk kp Cq E4 PU CV m3 Qd AK
 go_upto_region 5 with fail
 have bI:=Acj (.slice pA pts.length pc) SR;have Xs5:Ab W3 w5:=Pk;have Tb:=C0.trans Pk;have wQ:Ab w (w5.setCell ⟨bm,0,none⟩ (.slice pA pts.length pc)):=Tb.setCell (p:=⟨bm,0,none⟩) xU _;have vU:=Cg (K:=fun k=>k=bm) Dw ((AD.refl (fun k=>k=bm) w5).setCell (p:=⟨bm,0,none⟩) (.inl rfl) (.slice pA pts.length pc)) (fun k hk e=>by subst e;exact BQ Dw SR (by decide) hk);have EI:=(Ab.refl (w5.setCell ⟨bm,0,none⟩ (.slice pA pts.length pc))).alloc (.map #[] 0)
 have O0:Iv ((w5.setCell ⟨bm,0,none⟩ (.slice pA pts.length pc)).alloc (.map #[] 0)) w5.heap.size (Ci (pts.take 0)):=by have:=Ao6 (w5.setCell ⟨bm,0,none⟩ (.slice pA pts.length pc)) (.map #[] 0);rw [World.size_setCell]at this;exact this
 have Gb:=(EI.block _ (Ao5 bI)).trans bI;have Nf:=wQ.trans EI;have Qb:=AL vU EI;have cI:=(Cj (w:=w5) (p:=⟨bm,0,none⟩) (v:=.slice pA pts.length pc) (show w.heap.size≠bm by omega)).trans wH;have bW:=(Cj (w:=w5) (p:=⟨bm,0,none⟩) (v:=.slice pA pts.length pc) (show w.heap.size+1≠bm by omega)).trans wB;have Wq:=(EI.block _ (Ao5 cI)).trans cI;have MX:=(EI.block _ (Ao5 bW)).trans bW;obtain⟨bi,xO⟩:=Ao3 w5.heap.size;rw [←xO]at O0 ⊢;have xQ:w.heap.size<=bi:=(by have:=Tb.size;omega);generalize (w5.setCell ⟨bm,0,none⟩ (.slice pA pts.length pc)).alloc (.map #[] 0)=W6 at *;clear SR y0 y1 bI Xs5 Tb wQ vU EI hP5 Pk xO GN C0 Dw wH wB cI bW;have z0:=Aa (o:=0) Gb rfl;have hl0:(0:Int)<=(pts.length:Int):=by omega
 go_upto_region 6 with fail
 clear z0
 go_loopw [27] (fun iv wr=>∃k:Nat,iv=.int .i64 (k:Nat)/\k<=pts.length/\Iv wr bi (Ci (pts.take k))/\AD (fun q=>q=bi) W6 wr) (fun iv _=>pts.length-(intOf iv).toNat)
 case atStart=>exact⟨0,rfl,by omega,O0,AD.refl _ _⟩
 case round=>
  obtain⟨k,rfl,hk,hI,hB⟩:=hrel;have bP:=Cg Qb hB (fun k hk e=>by subst e;exact Yg Qb O0 hk);have vX:Af wr pA (flat (Aq pts)):=NE (by omega) bP;by_cases hkn:k<pts.length
  ·obtain⟨b,o,rfl,f1,f2⟩:=Co vX hkn;have hnew:=AgW HPN.out hkn
   have FG:Ci (pts.take (k+1))=Ci (pts.take k) ++ [(pts[k],(k:Int))]:=by rw [AoA hkn,AgN,List.length_take,Nat.min_eq_left (by omega)]
   obtain⟨p,hp⟩:=Ao3 (pts[k]);rw [←hp]at f1 f2 hnew FG;have EA:=(Ab.refl wr).alloc (.cells #[S (R p.x),S (R p.y)] 24);have Av:=Ao6 wr (.cells #[S (R p.x),S (R p.y)] 24);obtain⟨W8,hput,Ka,eJ,-⟩:=(hI.ext EA).put p hnew (k:Int);rw [←FG]at Ka;unfold Ak at hput;have hk0:(0:Int)<=(k:Int):=(by omega);have DX:(k:Int)<(pts.length:Int):=(by omega);have q1:=Aa (o:=0) Av rfl;have q2:=Aa (o:=1) Av rfl;have M5:=Ao4 FG;clear hp hnew FG
   go_upto_region 8 with fail
   unfold S at Av q1 q2 hput eJ EA;have VX:=(hB.ext EA).grown eJ (fun q e=>by cases e;exact .inl rfl);generalize wr.alloc (.cells #[.string ⟨(R p.x).toArray⟩,.string ⟨(R p.y).toArray⟩] 24)=V at *;clear Av EA eJ;go_wp2;go_roundw
   case rel=>exact⟨k+1,by go_num,hkn,Ka,VX⟩
   case measure=>simp [intOf];omega
  ·have CO:k=pts.length:=(by omega);subst CO;have hd:decide (pts.length<pts.length)=false:=(by simp);have C2:decide ((pts.length:Int)<(pts.length:Int))=false:=(by simp);rw [List.take_length]at hI;have vK:bm≠bi:=fun e=>MI Gb O0 e;have EX:=(hB.block _ (Ao5 Gb) vK).trans Gb;have cS:=(hB.block _ (Ao5 Wq) (fun e=>MI Wq O0 e)).trans Wq;have Qc:=(hB.block _ (Ao5 MX) (fun e=>MI MX O0 e)).trans MX;have Cd:Ab w wr:=hB.toExt Nf (fun q e=>by subst e;exact xQ);have xP:=Ao5 hI;have E9:=(Ab.refl wr).alloc (.map #[] 0);have SN:CZ (wr.alloc (.map #[] 0)) wr.heap.size []:=Ao6 wr (.map #[] 0);obtain⟨MD,hput,bD,zA,fZ⟩:=SN.put (-1) (-1) rfl;have Mv:=(Ab.refl MD).alloc (.cells #[.map (some wr.heap.size)] 130);have As:=Ao6 MD (.cells #[.map (some wr.heap.size)] 130);rw [AoE]at fZ;have Nb:AD (fun j=>j=wr.heap.size) wr MD:=((AD.refl _ wr).ext E9).grown zA (fun k e=>by cases e;exact .inl rfl);have uZ:Ab wr MD:=Nb.toExt (Ab.refl wr) (fun k e=>by subst e;exact Ao7 _);have NN:=uZ.trans Mv
   go_upto_region 10 with fail
   go_upto_region 12 with fail
   rw [fZ]at As;have bK:CZ (MD.alloc (.cells #[.map (some wr.heap.size)] 130)) wr.heap.size [(-1,-1)]:=(Mv.block _ (Ao5 bD)).trans bD;have SQ:=(NN.block _ (Ao5 EX)).trans EX;have wG:=(NN.block _ (Ao5 cS)).trans cS;have Wl:=(NN.block _ (Ao5 Qc)).trans Qc;have Ln:=hI.ext NN;have vT:=AL bP NN;have O5:=Cd.trans NN;have Wo:=Ao5 Qc;have Agf:=O5.size;clear SN hput bD zA Mv Nb uZ EX cS Qc hI bP Cd E9 vX hB Gb O0 Nf Qb Wq MX vK;clear hmm fZ NN;generalize MD.alloc (.cells #[.map (some wr.heap.size)] 130)=W11 at *;obtain⟨bn,Cx⟩:=Ao3 wr.heap.size;rw [←Cx]at As bK xP Wo ⊢;clear Cx;have SV:=Ir.out.ext O5;have Qd:Af W11 U (units.map S):=HU.out.ext O5;have uT:w.heap.size+2<=W11.heap.size:=(by have:=Ao5 Wl;omega);obtain⟨c,hc⟩:=Ao3 (⟨w.heap.size+2,bn+1,bn,bm,w.heap.size,bi,r,b1,b2,U,cu,units,.slice pA pts.length pc,Ci pts,L⟩:Cn)
   have ok:c.Ok:=by subst hc;exact⟨show r<w.heap.size+2 by omega,show b1<w.heap.size+2 by omega,show w.heap.size+2<=bn by omega,show w.heap.size+2<=bm by omega,show bi≠bn by omega⟩
   have uU:Cs c (.slice none 0 0) (.slice none 0 0) [(-1,-1)] [] [] W11:=by subst hc;exact⟨⟨As,bK,SQ,⟨rfl,.inl ⟨rfl,rfl⟩⟩,wG,Qd,fun x hx=>by have:=HU2.out x hx;simp only;omega⟩,⟨SV.cell,SV.left,Ln⟩,⟨rfl,.inl ⟨rfl,rfl⟩⟩,uT⟩
   have m11:=Aa (o:=0) SV.cell rfl;have kw:=fun W=>iY (some b1) W;have UR:=(Ab.refl W11).alloc (.cells #[.map (some b1)] 95);have Cq:=Ao6 W11 (.cells #[.map (some b1)] 95);have sk:=lP hw ((hx.trans O5).trans UR) W11.heap.size b1 L (Ao5 Cq) (Aa Cq rfl) (SV.ext UR).left HL.out (by omega);rw [←M7.out]at sk;have hwl:ws.length=L.length:=by rw [M7.out,(JD _).length_eq];simp
   have ik:∀s∈ws,∃e∈L,e.1=s:=fun s hs=>by rw [M7.out]at hs;obtain⟨e,he,h1⟩:=List.mem_map.1 ((JD _).mem_iff.1 hs);exact⟨e,he,h1⟩
   rw [←hwl]at sk hLl;have Zh:=Ao4 ik;have HC:=Ao4 hc;clear hwl ik hc As bK SQ wG Ln Qd;(go_wp2_with fail);(with_reducible refine(kw _).mono ?_);rintro e Ex ⟨rfl,rfl⟩;(go_wp2_with fail);(with_reducible refine sk.mono ?_);rintro e Mq ⟨sv,rfl,hS13,Jh⟩;obtain⟨sA,sc,rfl,-,-,-⟩:=Af.of_own' (by omega) hS13;have Rv:=UR.trans Jh;have Aey:=uU.ext Rv;have wO:=O5.trans Rv;have AeC:=AL vT Rv;have AeF:=(Rv.block _ (Ao5 Wl)).trans Wl;have hf0:(⟨[(-1,-1)],[],[]⟩:G9)=I1 units (Ci pts) L (ws.take 0):=rfl;have hk0:Rt 0 (⟨[(-1,-1)],[],[]⟩:G9):=⟨rfl,Ao7 _,Ao7 _⟩;clear kw sk Cq UR Jh m11 uU O5 SV vT Wl Rv uT AeX xU xQ xP Wo Agf hd C2;have hl2:(0:Int)<=(ws.length:Int):=by omega
   go_upto_region 13 with fail
   go_loopw [46] (fun iv wr=>∃(k:Nat) (E F:Value) (s:G9),iv=.int .i64 (k:Nat)/\k<=ws.length/\s=I1 units (Ci pts) L (ws.take k)/\Rt k s/\Cs c E F s.nm s.fa s.ed wr/\KB c.B Mq wr) (fun iv _=>ws.length-(intOf iv).toNat)
   case atStart=>exact⟨0,_,_,_,rfl,by omega,hf0,hk0,Aey,KB.refl _ _⟩
   case round=>
    obtain⟨k,E,F,s,rfl,hk,hs,Ai,hC,hK⟩:=hrel;have MZ:=oh hS13 hK (by decide) (by decide) (by decide);by_cases hkn:k<ws.length
    ·obtain⟨b,o,rfl,f1,f2,f3,f4⟩:=K7 (NE (by omega) MZ) hkn;obtain⟨e1,Ly,Lz⟩:=Zh.out _ (Ao8 hkn);have hsz:EP 200 ws[k]:=by rw [←Lz];exact HL.out e1 Ly
     have eW:-1<=AS ws[k] L/\AS ws[k] L<(units.length:Int):=by obtain⟨e2,IC,h2⟩:=XF (s:=ws[k]) (L:=L) (by rw [←Lz];exact List.mem_map_of_mem Ly);rw [h2];exact nH.out e2 IC
     have eX:-1<=AS (Bh ws[k]) L/\AS (Bh ws[k]) L<(units.length:Int):=by obtain⟨e3,Ke,h3⟩:=ym.out e1 Ly;obtain⟨e2,IC,h2⟩:=XF (s:=Bh ws[k]) (L:=L) (by rw [←Lz,←h3];exact List.mem_map_of_mem Ke);rw [h2];exact nH.out e2 IC
     have FG:I1 units (Ci pts) L (ws.take (k+1))=KZ units (Ci pts) L s ws[k]:=by rw [AoA hkn,Acv,←hs]
     have TN:=Ai.step units (Ci pts) L ws[k];obtain⟨x,hxx⟩:=Ao3 (ws[k]);rw [←hxx]at f1 f2 f3 f4 hsz eW eX FG TN;have M5:=Ao4 FG;have HS:=Ao4 hs;have Anq:(0:Int)<=(k:Int):=(by omega);have DX:(k:Int)<(ws.length:Int):=(by omega);have EA:=(Ab.refl wr).alloc (.cells #[S (R x.a.x),S (R x.a.y),S (R x.b.x),S (R x.b.y)] 140);have Av:=Ao6 wr (.cells #[S (R x.a.x),S (R x.a.y),S (R x.b.x),S (R x.b.y)] 140);have Cd:Ab w wr:=wO.trans_below hK.bl (by have:=HC.out;rw [this];simp only;omega);have QU:=fun (V:World) (hV:Ab wr V)=>IM x.a x.b hsz.a hsz.b (by omega) (by omega) V (hw.ext ((hx.trans Cd).trans hV));clear hxx FG hs Lz Ly e1
     go_upto_region 15 with fail
     unfold S at Av EA;have Wu:JR (wr.alloc (.cells #[.string ⟨(R x.a.x).toArray⟩,.string ⟨(R x.a.y).toArray⟩,.string ⟨(R x.b.x).toArray⟩,.string ⟨(R x.b.y).toArray⟩] 140)) wr.heap.size x:=Av;generalize wr.alloc (.cells #[.string ⟨(R x.a.x).toArray⟩,.string ⟨(R x.a.y).toArray⟩,.string ⟨(R x.b.x).toArray⟩,.string ⟨(R x.b.y).toArray⟩] 140)=V at *;obtain⟨C9,xB⟩:=Ao3 wr.heap.size;rw [←xB]at Av Wu ⊢;clear xB f1 f2 f3 f4;have y0:=Aa (o:=0) Av rfl;have y1:=Aa (o:=1) Av rfl;have y2:=Aa (o:=2) Av rfl;have y3:=Aa (o:=3) Av rfl;have p1:=QU V EA;obtain⟨z,hz⟩:=Ao3 (Bq x.a x.b);rw [←hz]at p1;unfold Ak S at p1;(go_wp2_with fail);(with_reducible refine p1.mono ?_);rintro e w3 ⟨rfl,hx3⟩;have X3:=EA.trans hx3;have Wc:=hC.ext X3;have hK3:=hK.trans (KB.ext X3 hC.size);have hW3:JR w3 C9 x:=(hx3.block _ (Ao5 Wu)).trans Wu;clear p1 QU y0 y1 y2 y3 Av Wu;by_cases Nv:z<0
     ·have hce:KZ units (Ci pts) L s x=MH units (Ci pts) L s x:=(by unfold KZ;rw [if_pos (by rw [←hz];exact Nv)]);rw [hce]at TN;have UW:=Ao4 hce;have hfa:=Ai.fa;have F8:=Ai.ed;have AM:c.units=units:=(by rw [HC.out]);have aC:=fun (V:World) (F':Value) (h:Cs c E F' s.nm s.fa s.ed V)=>tV ok h Ai.h (AS x L) eW.1 (by rw [AM];exact eW.2) (by rw [AM];exact Kq) (by omega);have GW:=jM units s.nm s.fa (AS x L);have hh1:=jL units s.fa (AS x L) Ai.h;have tX:=fun (V:World) (F':Value) (h:Cs c E F' (BI units s.nm s.fa (AS x L)).2.1 (BI units s.nm s.fa (AS x L)).2.2 s.ed V)=>tV ok h hh1 (AS (Bh x) L) eX.1 (by rw [AM];exact eX.2) (by rw [AM];exact Kq) (by omega);rw [AM]at aC tX
      have tW:∀(V:World) (F':Value) (h:Cs c E F' s.nm s.fa s.ed V),Calls Tryz.prog 126 #[.int .i64 (AS x L),.pointer (some ⟨bn+1,0,none⟩),.pointer (some ⟨bm,0,none⟩),.pointer (some ⟨w.heap.size,0,none⟩)] V (Pl V c.B c.bx c.bn c.bm c.bu c.U c.cu c.units c.P E F' (BI units s.nm s.fa (AS x L)).1 (BI units s.nm s.fa (AS x L)).2.1 (BI units s.nm s.fa (AS x L)).2.2):=by intro V F' h;have t:=aC V F' h;rw [←AM]at t;rw [←AM];have hc:=HC.out;rw [show (bn+1)=c.bx by rw [hc],show bm=c.bm by rw [hc],show w.heap.size=c.bu by rw [hc]];exact t
      have Zf:=Ao4 AM;have zm:=Ao4 tX;have PT:=Wc.ext (Ab.refl w3).drew;have lk:=NJ x L (W:=w3.drew) (by have:=PT.rd.left;rw [HC.out]at this;exact this);have LH:=PT.rd.net;rw [HC.out]at LH;simp only at LH;have m1:=Aa (o:=0) LH rfl;have hwd:JR w3.drew C9 x:=hW3;have g0:=Aa (o:=0) hwd rfl;have g1:=Aa (o:=1) hwd rfl;have g2:=Aa (o:=2) hwd rfl;have g3:=Aa (o:=3) hwd rfl;unfold AC at lk;have aB:=tW _ F PT;have Ag1:w3.drew.heap[C9]?=some (.cells #[S (R x.a.x),S (R x.a.y),S (R x.b.x),S (R x.b.y)] 140 (0,0)):=hW3;clear aC tW GW AM LH hwd hce;obtain⟨zl,hzl⟩:=Ao3 ((BI units s.nm s.fa (AS x L)).1);rw [←hzl]at aB;have Vi:=Ao4 hzl;clear hzl
      go_upto_region 16 with fail
      go_cut [13] (fun v13 wx=>v13=.int .i64 zl/\∃F',Cs c E F' (BI units s.nm s.fa (AS x L)).2.1 (BI units s.nm s.fa (AS x L)).2.2 s.ed wx/\KB c.B Mq wx/\JR wx C9 x)
      case first=>
       go_region_with ((with_reducible refine aB.mono ?_);rintro e w4 ⟨F4,rfl,hF4,JX⟩)
       all_goals go_wp2
       all_goals go_meet
       all_goals (
        have H8:=KB.named ok PT JX
        refine⟨rfl,F4,PT.named ok (by rw [Zf.out]at hF4 ⊢;exact hF4) JX,(hK3.trans (KB.ext (Ab.refl w3).drew Wc.size)).trans H8,H8.kp C9 _ _ _ (by decide) (by decide) (by decide) Ag1⟩)
      case rest=>
       obtain⟨rfl,F4,uV,hK4,cY⟩:=hcut;obtain⟨W9,rfl⟩:=Aid uV;have yV:=zm.out
       have WT:∀(V:World) (F':Value),Cs c E F' (BI units s.nm s.fa (AS x L)).2.1 (BI units s.nm s.fa (AS x L)).2.2 s.ed V→Calls Tryz.prog 126 #[.int .i64 (AS (Bh x) L),.pointer (some ⟨c.bx,0,none⟩),.pointer (some ⟨c.bm,0,none⟩),.pointer (some ⟨c.bu,0,none⟩)] V (Pl V c.B c.bx c.bn c.bm c.bu c.U c.cu c.units c.P E F' (BI units (BI units s.nm s.fa (AS x L)).2.1 (BI units s.nm s.fa (AS x L)).2.2 (AS (Bh x) L)).1 (BI units (BI units s.nm s.fa (AS x L)).2.1 (BI units s.nm s.fa (AS x L)).2.2 (AS (Bh x) L)).2.1 (BI units (BI units s.nm s.fa (AS x L)).2.1 (BI units s.nm s.fa (AS x L)).2.2 (AS (Bh x) L)).2.2):=by intro V F' h';have t:=yV V F' h';rw [←Zf.out]at t;rw [←Zf.out];exact t
       clear yV lk m1 g0 g1 g2 g3 aB PT Wc hK3 hW3;have hel:s.ed.length<200000:=by omega
       go_upto_region 17 with fail
       refine AjP (c:=c) ok uV cY hel zl (Hg x.a (Ci pts)) (Hg x.b (Ci pts)) (AS (Bh x) L) _ (by rw [HC.out]) (by rw [HC.out]) (by rw [HC.out]) WT rfl (by kernel_rfl) (by kernel_rfl) (by simp) (by rw [HC.out];rfl) (by rw [HC.out];rfl) rfl rfl (by rw [HC.out];rfl) (by rw [HC.out];rfl) ?_;intro v w9 E9 F9 aV hK9;simp only [List.take_succ_cons,List.take_zero,List.drop_succ_cons,List.drop_zero,List.cons_append,List.nil_append,show List.range 24 = [0,1,2,3,4,5,6,7,8,9,10,11,12,13,14,15,16,17,18,19,20,21,22,23] from rfl,List.map_cons,List.map_nil];clear WT;have YH:=Ao4 (show MH units (Ci pts) L s x=I1 units (Ci pts) L (ws.take (k+1))by rw [M5.out,UW.out])
       have Aez:Cs c E9 F9 (MH units (Ci pts) L s x).nm (MH units (Ci pts) L s x).fa (MH units (Ci pts) L s x).ed w9:=by have hz:=Vi.out;rw [hz]at aV;exact aV
       clear aV;go_wp2;go_roundw
       case rel=>exact⟨k+1,E9,F9,MH units (Ci pts) L s x,by go_num,hkn,YH.out,TN,Aez,hK4.trans hK9⟩
       case measure=>simp [intOf];omega
     ·have hce:KZ units (Ci pts) L s x=s:=(by unfold KZ;rw [if_neg (by rw [←hz];exact Nv)]);rw [hce]at TN;have YH:=Ao4 (show s=I1 units (Ci pts) L (ws.take (k+1))by rw [M5.out,hce]);clear hce hz;go_wp2;go_roundw
      case rel=>exact⟨k+1,E,F,s,by go_num,hkn,YH.out,TN,Wc,hK3⟩
      case measure=>simp [intOf];omega
    ·have CO:k=ws.length:=(by omega);subst CO;have yQ:decide (ws.length<ws.length)=false:=(by simp);have Ana:decide ((ws.length:Int)<(ws.length:Int))=false:=(by simp);rw [List.take_length,←HST.out]at hs;subst hs;obtain⟨oE,cE,rfl,hE9,CB,Dp⟩:=Af.of_own' (by omega) hC.own;obtain⟨oF,cF,rfl,hF9,hF1,hF2⟩:=Af.of_own' (by omega) hC.fc.fac;have Jj:=(hK.bl.block _ (by rw [HC.out];show w.heap.size+1<w.heap.size+2;omega)).trans AeF;have Tp:=hC.fc.cM;have hcb:c.bm=bm/\c.P=.slice pA pts.length pc/\c.B=w.heap.size+2:=(by rw [HC.out];exact⟨rfl,rfl,rfl⟩);rw [hcb.1,hcb.2.1]at Tp;have bT:=oh AeC hK (by decide) (by decide) (by decide);have Cw:Ab w wr:=wO.trans_below hK.bl (by rw [hcb.2.2];omega);have m0:=Aa (o:=0) Tp rfl;have m1:=Aa (o:=1) Tp rfl;have m2:=Aa (o:=2) Tp rfl;have r0:=Aa (o:=0) Jj rfl;have r1:=Aa (o:=1) Jj rfl;have r2:=Aa (o:=2) Jj rfl;have r3:=Aj (o:=0) Jj;have r4:=Aj (o:=1) Jj;have r5:=Aj (o:=2) Jj;have Bd:=DT (.slice pA pts.length pc) (.slice oE s.ed.length cE) (.slice oF s.fa.length cF) Jj;have bb:=(((AD.refl (fun q=>q=w.heap.size+1) wr).setCell (p:=⟨w.heap.size+1,0,none⟩) (.inl rfl) (.slice pA pts.length pc)).setCell (p:=⟨w.heap.size+1,1,none⟩) (.inl rfl) (.slice oE s.ed.length cE)).setCell (p:=⟨w.heap.size+1,2,none⟩) (.inl rfl) (.slice oF s.fa.length cF);have f1:=NE (by omega) (Cg bT bb (fun q hq e=>by subst e;exact BQ bT Jj (by decide) hq));have f2:=NE (by omega) (Cg hC.own bb (fun q hq e=>by subst e;exact BQ hC.own Jj (by decide) hq));have f3:=NE (by omega) (Cg hC.fc.fac bb (fun q hq e=>by subst e;exact BQ hC.fc.fac Jj (by decide) hq));have Jn:=bb.toExt Cw (fun q e=>by subst e;omega);have t1:=Aa (o:=0) Bd rfl;have t2:=Aa (o:=1) Bd rfl;have t3:=Aa (o:=2) Bd rfl
     have CC:mM w ⟨pts,s.ed,s.fa.length⟩ s.fa (.returned (AO pA oE oF ⟨pts,s.ed,s.fa.length⟩ pc cE cF)) (((wr.setCell ⟨w.heap.size+1,0,none⟩ (.slice pA pts.length pc)).setCell ⟨w.heap.size+1,1,none⟩ (.slice oE s.ed.length cE)).setCell ⟨w.heap.size+1,2,none⟩ (.slice oF s.fa.length cF)):=
      ⟨pA,oE,oF,pc,cE,cF,rfl,⟨AfR,AfS,CB,Dp,hF1,hF2⟩,f1,f2,f3,rfl,Jn⟩
     have CH:=Ao4 CC;clear CC Jn f1 f2 f3 bb Bd Jj Tp hC hK bT Cw;go_wp2;refine bodyPost_ret (v:=.agg #[.slice pA pts.length pc,.slice oE s.ed.length cE,.slice oF s.fa.length cF]) (by simp [results,Tryz.results78,go_sem,t1,t2,t3]) rfl ?_;exact CH.out
end Go.Proofs.YtnddllipjippnaaGreatDoor
