/- I38: ShBU. -/
import Derived.Test.YtnddllipjippnaaGreatDoorI33
set_option maxRecDepth 100000
set_option maxHeartbeats 16000000
namespace Go.Proofs.YtnddllipjippnaaGreatDoor
open Go.RowKit Kl Go.Shelf
theorem AfK{w:World}{b:Nat}{a0 a1 a2:Value}{t:TypeId}(v:Value)(h:w.heap[b]?=some (.cells #[a0,a1,a2] t)):(w.setCell ⟨b,0,none⟩ v).heap[b]?=some (.cells #[v,a1,a2] t):=by
 simp only [World.setCell,Array.getElem?_modify,h];simp
theorem AfP{w:World}{b o:Nat}{cs:Array Value}{t:TypeId}{fz:Nat×Nat}{v:Value}(h:w.heap[b]?=some (.cells cs t fz))(hc:w.cell? ⟨b,o,none⟩=some v):cs[o]?=some v:=by
 cases e:cs[o]? with
 | some u=>
  have h2:=hc;simp [World.cell?,h,e]at h2;rw [←h2]
 | none=>simp [World.cell?,h,e]at hc
theorem OS{l:List Pt}{j:Nat}(hj:j<(flat (Ag l)).length):∃s,(flat (Ag l))[j]=S s:=by
 have:=As1 hj;unfold flat at this;rw [List.mem_flatMap]at this;obtain⟨p,_,h⟩:=this;simp only [List.mem_cons,AsB,or_false]at h
 rcases h with h|h
 ·exact⟨_,h⟩
 ·exact⟨_,h⟩
theorem AlN{c:Cn}{E F:Value}{nm:List (Int×Int)}{faces:List Bs}{eds:List EdZ}{w:World}(_:Cs c E F nm faces eds w):∃x,x=w:=⟨w,rfl⟩
theorem Ow{w:World}{B:Nat}{e:TypeId}{s n c:Nat}{A:Option Addr}{xs:List Value}(hs:0<s)(h:w.ownsRow B e s (.slice A n c) n xs):Ad w A xs:=by
 obtain⟨A',c',e',h1,-,-⟩:=Ad.of_own' hs h;simp only [Value.slice.injEq]at e';rw [e'.1];exact h1
theorem AaG{B B':Nat}{w w':World}{e:TypeId}{s n:Nat}{v:Value}{xs:List Value}(h:w.ownsRow B' e s v n xs)(hk:KB B w w')(h1:e≠35)(h2:e≠9)(h3:e≠51):w'.ownsRow B' e s v n xs:=by
 refine⟨h.1,?_⟩
 rcases h.2 with h'|⟨g,cap,cur,e1,e2,hgb,e4⟩
 ·exact .inl h'
 ·exact .inr ⟨g,cap,cur,e1,e2,hk.kp g cur e (0,0) h1 h2 h3 hgb,e4⟩
theorem Ak8{pts:List Pt}(CN:pts.Nodup){k:Nat}(hk:k<pts.length):∀e∈Cq (pts.take k),Aq pts[k] e.1=false:=by
 intro e he
 have h1:e.1∈pts.take k:=by
  have:=List.mem_map_of_mem (f:=(·.1)) he
  rwa [Ak2]at this
 refine Abj.2 fun h2=>?_;obtain⟨j,hj,h3⟩:=List.getElem_of_mem h1;rw [List.getElem_take]at h3;have hj':j<k:=(by rw [List.length_take]at hj;omega);have:=(List.getElem_inj (h₀:=by omega) (h₁:=hk) CN).1 (h3.trans h2.symm);omega
theorem wE{w0 w:World}(hw:Aj w0)(hx:Ab w0 w){B0 r b1 b2:Nat}{L:List (Sg×Int)}{E:List (Pt×Value×Nat)}{R0:List (Pt×List Pt)}(h:B7 B0 w r b1 b2 L E R0)
  (hz:∀e∈R0,Aw 1 e.1/\∀p∈e.2,Aw 1 p) (hlen:R0.length<=100000) (hrl:∀e∈R0,e.2.length<100000) (CN:(R0.map (·.1)).Nodup) (hno:∀e∈R0,∀p q,e.2 = [p,q]→AN (Am p e.1 q)≠0)
  (hL:∀e∈L,G7 1 e.1) (hLl:L.length<=40000) (hback:∀e∈L,∃e'∈L,e'.1=Bg e.1) (U:Option Addr) (cu:Nat) (units:List Bs) (hU:Ad w U (units.map S)) (Jq:∀x,U=some x→x.block<w.heap.size) (Dq:units.length<=100000)
  (Px:∀x∈L,-1<=x.2/\x.2<(units.length:Int)) {pts:List Pt} (P8:pts=FK (R0.map (·.1))) {ws:List Sg} (PI:ws=BO (L.map (·.1))) {st:GX} (hst:st=IW units (Cq pts) L ws) :
  Calls Tryz.prog 78 #[.pointer (some ⟨r,0,none⟩),.slice U units.length cu] w (rH w ⟨pts,st.ed,st.fa.length⟩ st.fa):=by
 have hmm:=@run_makeMap Tryz.prog;have Ar2:=Asy h.cell;have Aq1:=Asy h.left;have rj:pts.Nodup:=(by rw [P8];exact(Lv _).nodup_iff.2 CN);have AjK:pts.length=R0.length:=(by rw [P8,(Lv _).length_eq];simp);have E1:=((Ab.refl w).alloc (.cells #[.slice U units.length cu] 33)).alloc (.cells #[.slice none 0 0,.slice none 0 0,.slice none 0 0] 35);have Mg:=Asz w (.cells #[.slice U units.length cu] 33);have hbr:=Asz (w.alloc (.cells #[.slice U units.length cu] 33)) (.cells #[.slice none 0 0,.slice none 0 0,.slice none 0 0] 35);rw [As7]at hbr;have js:=(Below.heap_alloc (w.alloc (.cells #[.slice U units.length cu] 33)) (.cells #[.slice none 0 0,.slice none 0 0,.slice none 0 0] 35) w.heap.size (by simp)).trans Mg;have lv:=Alm hw (hx.trans E1) (h.ext E1) hz hlen hrl CN hno;have Dy:=h.ar.len;have ED:=h.ar.keys;have Aef:=Asx (fun i (hi:i<E.length)=>(h.ar.row i hi (by rw [←Dy];exact hi)).2.1)
 have ai:∀e∈E,Aw 1 e.1:=fun e he=>by have:e.1∈R0.map (·.1):=(by rw [←ED];exact List.mem_map_of_mem he);obtain⟨e',he',h1⟩:=List.mem_map.1 this;rw [←h1];exact(hz e' he').1
 have IM:=Asx h;have HEZ:=Asx ai;have HST:=Asx hst;have Ng:=Asx PI;have Wy:=Asx P8;have SL:=Asx ED;have Qk:=Asx (show E.length=pts.length by omega);have HU:=Asx hU;have HU2:=Asx Jq;have HL:=Asx hL;have Qj:=Asx hback;have sK:=Asx Px;have HPN:=Asx rj;have hpl:pts.length<=100000:=(by omega);clear Mg h ai hst PI P8 ED Dy hU Jq hL hback Px rj AjK hz hlen hrl CN hno;go_enter Tryz.func78,Tryz.ntmps78;have hs1:((w.alloc (.cells #[.slice U units.length cu] 33)).alloc (.cells #[.slice none 0 0,.slice none 0 0,.slice none 0 0] 35)).heap.size=w.heap.size+2:=by simp only [As7]
 go_upto_region 1 with fail
 generalize (w.alloc (.cells #[.slice U units.length cu] 33)).alloc (.cells #[.slice none 0 0,.slice none 0 0,.slice none 0 0] 35)=W1 at *;(go_wp2_with fail);(with_reducible refine lv.mono ?_);rintro e w2 ⟨rfl,hx2⟩;clear lv;have BR:=E1.trans hx2;have iD:=(hx2.block _ (Asy js)).trans js;have hR2:=(hx2.block _ (Asy hbr)).trans hbr;have hs2:=hx2.size;have KU:=IM.out.ext BR;have m1:=Aa (o:=1) KU.cell rfl;obtain⟨bm,AB⟩:=Asw w2.heap.size;have kp:=fun W=>yj (some b2) W;have E3:=(Ab.refl w2).alloc (.cells #[.slice none 0 0,.slice none 0 0,.slice none 0 0] 35);have CG:=Asz w2 (.cells #[.slice none 0 0,.slice none 0 0,.slice none 0 0] 35);have m3:=E3.cellS m1
 go_upto_region 3 with fail
 rw [←AB]at CG ⊢;generalize w2.alloc (.cells #[.slice none 0 0,.slice none 0 0,.slice none 0 0] 35)=W3 at *;have BL:=BR.trans E3;have Ho:=IM.out.ext BL;have AiK:w.heap.size+2<=bm:=(by omega);have jm:w.heap.size<=bm:=(by omega);have Mc:=(E3.block _ (Asy iD)).trans iD;have AE:=(E3.block _ (Asy hR2)).trans hR2;clear AB m1 KU hx2 iD hR2 hs2;have E4:=(Ab.refl W3).alloc (.cells #[.map (some b2)] 96);have CX:=Asz W3 (.cells #[.map (some b2)] 96);have sk:=Acg hw ((hx.trans BL).trans E4) W3.heap.size b2 E Aef.out (Asy CX) (Aa CX rfl) (Ho.ext E4).ar.blk HEZ.out (by have:=Qk.out;omega);rw [SL.out,←Wy.out,Qk.out]at sk;(go_wp2_with fail);(with_reducible refine(kp _).mono ?_);rintro e w4 ⟨rfl,rfl⟩;(go_wp2_with fail);(with_reducible refine sk.mono ?_);rintro e w5 ⟨sv,rfl,D5,GG⟩;obtain⟨pA,pc,rfl,Gt,AjE,AjF⟩:=Ad.of_own' (by omega) D5;have Qf:=E4.trans GG;have Ue:=(Qf.block _ (Asy CG)).trans CG;have y0:=Aa (o:=0) Ue rfl;have y1:=Ah (o:=0) Ue;have Ul:=(Qf.block _ (Asy Mc)).trans Mc;have ei:=(Qf.block _ (Asy AE)).trans AE;clear sk kp CX E4 GG CG m3 Mc AE
 go_upto_region 5 with fail
 have fX:=AfK (.slice pA pts.length pc) Ue;have Xs5:Ab W3 w5:=Qf;have ER:=BL.trans Qf;have fk:Ab w (w5.setCell ⟨bm,0,none⟩ (.slice pA pts.length pc)):=ER.setCell (p:=⟨bm,0,none⟩) jm _;have dh:=AS (K:=fun k=>k=bm) D5 ((Ak.refl (fun k=>k=bm) w5).setCell (p:=⟨bm,0,none⟩) (.inl rfl) (.slice pA pts.length pc)) (fun k hk e=>by subst e;exact Av D5 Ue (by decide) hk);have EI:=(Ab.refl (w5.setCell ⟨bm,0,none⟩ (.slice pA pts.length pc))).alloc (.map #[] 0)
 have OZ:IR ((w5.setCell ⟨bm,0,none⟩ (.slice pA pts.length pc)).alloc (.map #[] 0)) w5.heap.size (Cq (pts.take 0)):=by have:=Asz (w5.setCell ⟨bm,0,none⟩ (.slice pA pts.length pc)) (.map #[] 0);rw [World.size_setCell]at this;exact this
 have Gs:=(EI.block _ (Asy fX)).trans fX;have BY:=fk.trans EI;have QM:=An dh EI;have QQ:=(Bu (w:=w5) (p:=⟨bm,0,none⟩) (v:=.slice pA pts.length pc) (show w.heap.size≠bm by omega)).trans Ul;have gW:=(Bu (w:=w5) (p:=⟨bm,0,none⟩) (v:=.slice pA pts.length pc) (show w.heap.size+1≠bm by omega)).trans ei;have XV:=(EI.block _ (Asy QQ)).trans QQ;have NB:=(EI.block _ (Asy gW)).trans gW;obtain⟨bi,jd⟩:=Asw w5.heap.size;rw [←jd]at OZ ⊢;have jf:w.heap.size<=bi:=(by have:=ER.size;omega);generalize (w5.setCell ⟨bm,0,none⟩ (.slice pA pts.length pc)).alloc (.map #[] 0)=W6 at *;clear Ue y0 y1 fX Xs5 ER fk dh EI Gt Qf jd Ho BL D5 Ul ei QQ gW;have z0:=Aa (o:=0) Gs rfl;have hl0:(0:Int)<=(pts.length:Int):=by omega
 go_upto_region 6 with fail
 clear z0
 go_loopw [27] (fun iv wr=>∃k:Nat,iv=.int .i64 (k:Nat)/\k<=pts.length/\IR wr bi (Cq (pts.take k))/\Ak (fun q=>q=bi) W6 wr) (fun iv _=>pts.length-(intOf iv).toNat)
 case atStart=>exact⟨0,rfl,by omega,OZ,Ak.refl _ _⟩
 case round=>
  obtain⟨k,rfl,hk,hI,hB⟩:=hrel;have gK:=AS QM hB (fun k hk e=>by subst e;exact Z6 QM OZ hk);have Ma:Ad wr pA (flat (Ag pts)):=Ow (by omega) gK;by_cases hkn:k<pts.length
  ·obtain⟨b,o,rfl,f1,f2⟩:=BN Ma hkn;have hnew:=Ak8 HPN.out hkn
   have EE:Cq (pts.take (k+1))=Cq (pts.take k) ++ [(pts[k],(k:Int))]:=by rw [As3 hkn,Ak3,List.length_take,Nat.min_eq_left (by omega)]
   obtain⟨p,hp⟩:=Asw (pts[k]);rw [←hp]at f1 f2 hnew EE;have EA:=(Ab.refl wr).alloc (.cells #[S (R p.x),S (R p.y)] 24);have Au:=Asz wr (.cells #[S (R p.x),S (R p.y)] 24);obtain⟨W8,hput,KR,kG,-⟩:=(hI.ext EA).put p hnew (k:Int);rw [←EE]at KR;unfold Af at hput;have hk0:(0:Int)<=(k:Int):=(by omega);have D3:(k:Int)<(pts.length:Int):=(by omega);have q1:=Aa (o:=0) Au rfl;have q2:=Aa (o:=1) Au rfl;have Nf:=Asx EE;clear hp hnew EE
   go_upto_region 8 with fail
   unfold S at Au q1 q2 hput kG EA;have Fu:=(hB.ext EA).grown kG (fun q e=>by cases e;exact .inl rfl);generalize wr.alloc (.cells #[.string ⟨(R p.x).toArray⟩,.string ⟨(R p.y).toArray⟩] 24)=V at *;clear Au EA kG;go_wp2;go_roundw
   case rel=>exact⟨k+1,by go_num,hkn,KR,Fu⟩
   case measure=>simp [intOf];omega
  ·have Ch:k=pts.length:=(by omega);subst Ch;have hd:decide (pts.length<pts.length)=false:=(by simp);have De:decide ((pts.length:Int)<(pts.length:Int))=false:=(by simp);rw [List.take_length]at hI;have az:bm≠bi:=fun e=>Nr Gs OZ e;have Fx:=(hB.block _ (Asy Gs) az).trans Gs;have NE:=(hB.block _ (Asy XV) (fun e=>Nr XV OZ e)).trans XV;have QP:=(hB.block _ (Asy NB) (fun e=>Nr NB OZ e)).trans NB;have BG:Ab w wr:=hB.toExt BY (fun q e=>by subst e;exact jf);have je:=Asy hI;have E9:=(Ab.refl wr).alloc (.map #[] 0);have Uc:Dj (wr.alloc (.map #[] 0)) wr.heap.size []:=Asz wr (.map #[] 0);obtain⟨LF,hput,fR,mg,lZ⟩:=Uc.put (-1) (-1) rfl;have MV:=(Ab.refl LF).alloc (.cells #[.map (some wr.heap.size)] 130);have Ax:=Asz LF (.cells #[.map (some wr.heap.size)] 130);rw [As7]at lZ;have Je:Ak (fun j=>j=wr.heap.size) wr LF:=((Ak.refl _ wr).ext E9).grown mg (fun k e=>by cases e;exact .inl rfl);have XJ:Ab wr LF:=Je.toExt (Ab.refl wr) (fun k e=>by subst e;exact As0 _);have O8:=XJ.trans MV
   go_upto_region 10 with fail
   go_upto_region 12 with fail
   rw [lZ]at Ax;have gC:Dj (LF.alloc (.cells #[.map (some wr.heap.size)] 130)) wr.heap.size [(-1,-1)]:=(MV.block _ (Asy fR)).trans fR;have Ud:=(O8.block _ (Asy Fx)).trans Fx;have ep:=(O8.block _ (Asy NE)).trans NE;have XO:=(O8.block _ (Asy QP)).trans QP;have LW:=hI.ext O8;have df:=An gK O8;have KW:=BG.trans O8;have XR:=Asy QP;have AjU:=KW.size;clear Uc hput fR mg MV Je XJ Fx NE QP hI gK BG E9 Ma hB Gs OZ BY QM XV NB az;clear hmm lZ O8;generalize LF.alloc (.cells #[.map (some wr.heap.size)] 130)=W11 at *;obtain⟨bn,Cv⟩:=Asw wr.heap.size;rw [←Cv]at Ax gC je XR ⊢;clear Cv;have Ug:=IM.out.ext KW;have Mc:Ad W11 U (units.map S):=HU.out.ext KW;have zU:w.heap.size+2<=W11.heap.size:=(by have:=Asy XO;omega);obtain⟨c,hc⟩:=Asw (⟨w.heap.size+2,bn+1,bn,bm,w.heap.size,bi,r,b1,b2,U,cu,units,.slice pA pts.length pc,Cq pts,L⟩:Cn)
   have ok:c.Ok:=by subst hc;exact⟨show r<w.heap.size+2 by omega,show b1<w.heap.size+2 by omega,show w.heap.size+2<=bn by omega,show w.heap.size+2<=bm by omega,show bi≠bn by omega⟩
   have zW:Cs c (.slice none 0 0) (.slice none 0 0) [(-1,-1)] [] [] W11:=by subst hc;exact⟨⟨Ax,gC,Ud,⟨rfl,.inl ⟨rfl,rfl⟩⟩,ep,Mc,fun x hx=>by have:=HU2.out x hx;simp only;omega⟩,⟨Ug.cell,Ug.left,LW⟩,⟨rfl,.inl ⟨rfl,rfl⟩⟩,zU⟩
   have m11:=Aa (o:=0) Ug.cell rfl;have kw:=fun W=>nK (some b1) W;have Wj:=(Ab.refl W11).alloc (.cells #[.map (some b1)] 95);have CX:=Asz W11 (.cells #[.map (some b1)] 95);have sk:=qE hw ((hx.trans KW).trans Wj) W11.heap.size b1 L (Asy CX) (Aa CX rfl) (Ug.ext Wj).left HL.out (by omega);rw [←Ng.out]at sk;have hwl:ws.length=L.length:=by rw [Ng.out,(Ks _).length_eq];simp
   have vw:∀s∈ws,∃e∈L,e.1=s:=fun s hs=>by rw [Ng.out]at hs;obtain⟨e,he,h1⟩:=List.mem_map.1 ((Ks _).mem_iff.1 hs);exact⟨e,he,h1⟩
   rw [←hwl]at sk hLl;have bS:=Asx vw;have HC:=Asx hc;clear hwl vw hc Ax gC Ud ep LW Mc;(go_wp2_with fail);(with_reducible refine(kw _).mono ?_);rintro e Cu ⟨rfl,rfl⟩;(go_wp2_with fail);(with_reducible refine sk.mono ?_);rintro e Ii ⟨sv,rfl,hS13,JI⟩;obtain⟨sA,sc,rfl,-,-,-⟩:=Ad.of_own' (by omega) hS13;have S6:=Wj.trans JI;have Aif:=zW.ext S6;have fh:=KW.trans S6;have Air:=An df S6;have Aiu:=(S6.block _ (Asy XO)).trans XO;have hf0:(⟨[(-1,-1)],[],[]⟩:GX)=IW units (Cq pts) L (ws.take 0):=rfl;have hk0:S3 0 (⟨[(-1,-1)],[],[]⟩:GX):=⟨rfl,As0 _,As0 _⟩;clear kw sk CX Wj JI m11 zW KW Ug df XO S6 zU AiK jm jf je XR AjU hd De;have hl2:(0:Int)<=(ws.length:Int):=by omega
   go_upto_region 13 with fail
   go_loopw [46] (fun iv wr=>∃(k:Nat) (E F:Value) (s:GX),iv=.int .i64 (k:Nat)/\k<=ws.length/\s=IW units (Cq pts) L (ws.take k)/\S3 k s/\Cs c E F s.nm s.fa s.ed wr/\KB c.B Ii wr) (fun iv _=>ws.length-(intOf iv).toNat)
   case atStart=>exact⟨0,_,_,_,rfl,by omega,hf0,hk0,Aif,KB.refl _ _⟩
   case round=>
    obtain⟨k,E,F,s,rfl,hk,hs,Ai,hC,hK⟩:=hrel;have ND:=AaG hS13 hK (by decide) (by decide) (by decide);by_cases hkn:k<ws.length
    ·obtain⟨b,o,rfl,f1,f2,f3,f4⟩:=Lq (Ow (by omega) ND) hkn;obtain⟨e1,Mk,Ml⟩:=bS.out _ (As1 hkn);have hsz:G7 1 ws[k]:=by rw [←Ml];exact HL.out e1 Mk
     have kU:-1<=AM ws[k] L/\AM ws[k] L<(units.length:Int):=by obtain⟨e2,ET,h2⟩:=Zf (s:=ws[k]) (L:=L) (by rw [←Ml];exact List.mem_map_of_mem Mk);rw [h2];exact sK.out e2 ET
     have kV:-1<=AM (Bg ws[k]) L/\AM (Bg ws[k]) L<(units.length:Int):=by obtain⟨e3,KY,h3⟩:=Qj.out e1 Mk;obtain⟨e2,ET,h2⟩:=Zf (s:=Bg ws[k]) (L:=L) (by rw [←Ml,←h3];exact List.mem_map_of_mem KY);rw [h2];exact sK.out e2 ET
     have EE:IW units (Cq pts) L (ws.take (k+1))=LH units (Cq pts) L s ws[k]:=by rw [As3 hkn,AfV,←hs]
     have NZ:=Ai.step units (Cq pts) L ws[k];obtain⟨x,hxx⟩:=Asw (ws[k]);rw [←hxx]at f1 f2 f3 f4 hsz kU kV EE NZ;have Nf:=Asx EE;have HS:=Asx hs;have Ara:(0:Int)<=(k:Int):=(by omega);have D3:(k:Int)<(ws.length:Int):=(by omega);have EA:=(Ab.refl wr).alloc (.cells #[S (R x.a.x),S (R x.a.y),S (R x.b.x),S (R x.b.y)] 140);have Au:=Asz wr (.cells #[S (R x.a.x),S (R x.a.y),S (R x.b.x),S (R x.b.y)] 140);have BG:Ab w wr:=fh.trans_below hK.bl (by have:=HC.out;rw [this];simp only;omega);have Sc:=fun (V:World) (hV:Ab wr V)=>Ju x.a x.b hsz.a hsz.b (by omega) (by omega) V (hw.ext ((hx.trans BG).trans hV));clear hxx EE hs Ml Mk e1
     go_upto_region 15 with fail
     unfold S at Au EA;have XY:KE (wr.alloc (.cells #[.string ⟨(R x.a.x).toArray⟩,.string ⟨(R x.a.y).toArray⟩,.string ⟨(R x.b.x).toArray⟩,.string ⟨(R x.b.y).toArray⟩] 140)) wr.heap.size x:=Au;generalize wr.alloc (.cells #[.string ⟨(R x.a.x).toArray⟩,.string ⟨(R x.a.y).toArray⟩,.string ⟨(R x.b.x).toArray⟩,.string ⟨(R x.b.y).toArray⟩] 140)=V at *;obtain⟨CO,gm⟩:=Asw wr.heap.size;rw [←gm]at Au XY ⊢;clear gm f1 f2 f3 f4;have y0:=Aa (o:=0) Au rfl;have y1:=Aa (o:=1) Au rfl;have y2:=Aa (o:=2) Au rfl;have y3:=Aa (o:=3) Au rfl;have p1:=Sc V EA;obtain⟨z,hz⟩:=Asw (AY x.a x.b);rw [←hz]at p1;unfold Af S at p1;(go_wp2_with fail);(with_reducible refine p1.mono ?_);rintro e w3 ⟨rfl,hx3⟩;have X3:=EA.trans hx3;have XG:=hC.ext X3;have hK3:=hK.trans (KB.ext X3 hC.size);have hW3:KE w3 CO x:=(hx3.block _ (Asy XY)).trans XY;clear p1 Sc y0 y1 y2 y3 Au XY;by_cases Ld:z<0
     ·have hce:LH units (Cq pts) L s x=Nq units (Cq pts) L s x:=(by unfold LH;rw [if_pos (by rw [←hz];exact Ld)]);rw [hce]at NZ;have Wq:=Asx hce;have Yw:=Ai.fa;have F7:=Ai.ed;have AG:c.units=units:=(by rw [HC.out]);have eR:=fun (V:World) (F':Value) (h:Cs c E F' s.nm s.fa s.ed V)=>yX ok h Ai.h (AM x L) kU.1 (by rw [AG];exact kU.2) (by rw [AG];exact Dq) (by omega);have GM:=nV units s.nm s.fa (AM x L);have hh1:=nU units s.fa (AM x L) Ai.h;have yZ:=fun (V:World) (F':Value) (h:Cs c E F' (BD units s.nm s.fa (AM x L)).2.1 (BD units s.nm s.fa (AM x L)).2.2 s.ed V)=>yX ok h hh1 (AM (Bg x) L) kV.1 (by rw [AG];exact kV.2) (by rw [AG];exact Dq) (by omega);rw [AG]at eR yZ
      have yY:∀(V:World) (F':Value) (h:Cs c E F' s.nm s.fa s.ed V),Calls Tryz.prog 126 #[.int .i64 (AM x L),.pointer (some ⟨bn+1,0,none⟩),.pointer (some ⟨bm,0,none⟩),.pointer (some ⟨w.heap.size,0,none⟩)] V (Qg V c.B c.bx c.bn c.bm c.bu c.U c.cu c.units c.P E F' (BD units s.nm s.fa (AM x L)).1 (BD units s.nm s.fa (AM x L)).2.1 (BD units s.nm s.fa (AM x L)).2.2):=by intro V F' h;have t:=eR V F' h;rw [←AG]at t;rw [←AG];have hc:=HC.out;rw [show (bn+1)=c.bx by rw [hc],show bm=c.bm by rw [hc],show w.heap.size=c.bu by rw [hc]];exact t
      have Tc:=Asx AG;have HFM:=Asx yZ;have QF:=XG.ext (Ab.refl w3).drew;have lk:=O3 x L (W:=w3.drew) (by have:=QF.rd.left;rw [HC.out]at this;exact this);have Ms:=QF.rd.net;rw [HC.out]at Ms;simp only at Ms;have m1:=Aa (o:=0) Ms rfl;have hwd:KE w3.drew CO x:=hW3;have g0:=Aa (o:=0) hwd rfl;have g1:=Aa (o:=1) hwd rfl;have g2:=Aa (o:=2) hwd rfl;have g3:=Aa (o:=3) hwd rfl;unfold A8 at lk;have eQ:=yY _ F QF;have Akp:w3.drew.heap[CO]?=some (.cells #[S (R x.a.x),S (R x.a.y),S (R x.b.x),S (R x.b.y)] 140 (0,0)):=hW3;clear eR yY GM AG Ms hwd hce;obtain⟨zl,hzl⟩:=Asw ((BD units s.nm s.fa (AM x L)).1);rw [←hzl]at eQ;have WH:=Asx hzl;clear hzl
      go_upto_region 16 with fail
      go_cut [13] (fun v13 wx=>v13=.int .i64 zl/\∃F',Cs c E F' (BD units s.nm s.fa (AM x L)).2.1 (BD units s.nm s.fa (AM x L)).2.2 s.ed wx/\KB c.B Ii wx/\KE wx CO x)
      case first=>
       go_region_with ((with_reducible refine eQ.mono ?_);rintro e w4 ⟨F4,rfl,hF4,LS⟩)
       all_goals go_wp2
       all_goals go_meet
       all_goals (
        have I1:=KB.named ok QF LS
        refine⟨rfl,F4,QF.named ok (by rw [Tc.out]at hF4 ⊢;exact hF4) LS,(hK3.trans (KB.ext (Ab.refl w3).drew XG.size)).trans I1,I1.kp CO _ _ _ (by decide) (by decide) (by decide) Akp⟩)
      case rest=>
       obtain⟨rfl,F4,zX,hK4,QR⟩:=hcut;obtain⟨W9,rfl⟩:=AlN zX;have l8:=HFM.out
       have Yx:∀(V:World) (F':Value),Cs c E F' (BD units s.nm s.fa (AM x L)).2.1 (BD units s.nm s.fa (AM x L)).2.2 s.ed V→Calls Tryz.prog 126 #[.int .i64 (AM (Bg x) L),.pointer (some ⟨c.bx,0,none⟩),.pointer (some ⟨c.bm,0,none⟩),.pointer (some ⟨c.bu,0,none⟩)] V (Qg V c.B c.bx c.bn c.bm c.bu c.U c.cu c.units c.P E F' (BD units (BD units s.nm s.fa (AM x L)).2.1 (BD units s.nm s.fa (AM x L)).2.2 (AM (Bg x) L)).1 (BD units (BD units s.nm s.fa (AM x L)).2.1 (BD units s.nm s.fa (AM x L)).2.2 (AM (Bg x) L)).2.1 (BD units (BD units s.nm s.fa (AM x L)).2.1 (BD units s.nm s.fa (AM x L)).2.2 (AM (Bg x) L)).2.2):=by intro V F' h';have t:=l8 V F' h';rw [←Tc.out]at t;rw [←Tc.out];exact t
       clear l8 lk m1 g0 g1 g2 g3 eQ QF XG hK3 hW3;have hel:s.ed.length<200000:=by omega
       go_upto_region 17 with fail
       refine AnO (c:=c) ok zX QR hel zl (Ib x.a (Cq pts)) (Ib x.b (Cq pts)) (AM (Bg x) L) _ (by rw [HC.out]) (by rw [HC.out]) (by rw [HC.out]) Yx rfl (by kernel_rfl) (by kernel_rfl) (by simp) (by rw [HC.out];rfl) (by rw [HC.out];rfl) rfl rfl (by rw [HC.out];rfl) (by rw [HC.out];rfl) ?_;intro v w9 E9 F9 fJ hK9;simp only [List.take_succ_cons,List.take_zero,List.drop_succ_cons,List.drop_zero,List.cons_append,List.nil_append,show List.range 24 = [0,1,2,3,4,5,6,7,8,9,10,11,12,13,14,15,16,17,18,19,20,21,22,23] from rfl,List.map_cons,List.map_nil];clear Yx;have aI:=Asx (show Nq units (Cq pts) L s x=IW units (Cq pts) L (ws.take (k+1))by rw [Nf.out,Wq.out])
       have Aig:Cs c E9 F9 (Nq units (Cq pts) L s x).nm (Nq units (Cq pts) L s x).fa (Nq units (Cq pts) L s x).ed w9:=by have hz:=WH.out;rw [hz]at fJ;exact fJ
       clear fJ;go_wp2;go_roundw
       case rel=>exact⟨k+1,E9,F9,Nq units (Cq pts) L s x,by go_num,hkn,aI.out,NZ,Aig,hK4.trans hK9⟩
       case measure=>simp [intOf];omega
     ·have hce:LH units (Cq pts) L s x=s:=(by unfold LH;rw [if_neg (by rw [←hz];exact Ld)]);rw [hce]at NZ;have aI:=Asx (show s=IW units (Cq pts) L (ws.take (k+1))by rw [Nf.out,hce]);clear hce hz;go_wp2;go_roundw
      case rel=>exact⟨k+1,E,F,s,by go_num,hkn,aI.out,NZ,XG,hK3⟩
      case measure=>simp [intOf];omega
    ·have Ch:k=ws.length:=(by omega);subst Ch;have Yr:decide (ws.length<ws.length)=false:=(by simp);have AqM:decide ((ws.length:Int)<(ws.length:Int))=false:=(by simp);rw [List.take_length,←HST.out]at hs;subst hs;obtain⟨oE,cE,rfl,fM,Cb,DF⟩:=Ad.of_own' (by omega) hC.own;obtain⟨oF,cF,rfl,hF9,hF1,hF2⟩:=Ad.of_own' (by omega) hC.fc.fac;have JK:=(hK.bl.block _ (by rw [HC.out];show w.heap.size+1<w.heap.size+2;omega)).trans Aiu;have Pk:=hC.fc.cM;have hcb:c.bm=bm/\c.P=.slice pA pts.length pc/\c.B=w.heap.size+2:=(by rw [HC.out];exact⟨rfl,rfl,rfl⟩);rw [hcb.1,hcb.2.1]at Pk;have gU:=AaG Air hK (by decide) (by decide) (by decide);have B8:Ab w wr:=fh.trans_below hK.bl (by rw [hcb.2.2];omega);have m0:=Aa (o:=0) Pk rfl;have m1:=Aa (o:=1) Pk rfl;have m2:=Aa (o:=2) Pk rfl;have r0:=Aa (o:=0) JK rfl;have r1:=Aa (o:=1) JK rfl;have r2:=Aa (o:=2) JK rfl;have r3:=Ah (o:=0) JK;have r4:=Ah (o:=1) JK;have r5:=Ah (o:=2) JK;have AA:=Dd (.slice pA pts.length pc) (.slice oE s.ed.length cE) (.slice oF s.fa.length cF) JK;have bb:=(((Ak.refl (fun q=>q=w.heap.size+1) wr).setCell (p:=⟨w.heap.size+1,0,none⟩) (.inl rfl) (.slice pA pts.length pc)).setCell (p:=⟨w.heap.size+1,1,none⟩) (.inl rfl) (.slice oE s.ed.length cE)).setCell (p:=⟨w.heap.size+1,2,none⟩) (.inl rfl) (.slice oF s.fa.length cF);have f1:=Ow (by omega) (AS gU bb (fun q hq e=>by subst e;exact Av gU JK (by decide) hq));have f2:=Ow (by omega) (AS hC.own bb (fun q hq e=>by subst e;exact Av hC.own JK (by decide) hq));have f3:=Ow (by omega) (AS hC.fc.fac bb (fun q hq e=>by subst e;exact Av hC.fc.fac JK (by decide) hq));have Hu:=bb.toExt B8 (fun q e=>by subst e;omega);have t1:=Aa (o:=0) AA rfl;have t2:=Aa (o:=1) AA rfl;have t3:=Aa (o:=2) AA rfl
     have AQ:rH w ⟨pts,s.ed,s.fa.length⟩ s.fa (.returned (AH pA oE oF ⟨pts,s.ed,s.fa.length⟩ pc cE cF)) (((wr.setCell ⟨w.heap.size+1,0,none⟩ (.slice pA pts.length pc)).setCell ⟨w.heap.size+1,1,none⟩ (.slice oE s.ed.length cE)).setCell ⟨w.heap.size+1,2,none⟩ (.slice oF s.fa.length cF)):=
      ⟨pA,oE,oF,pc,cE,cF,rfl,⟨AjE,AjF,Cb,DF,hF1,hF2⟩,f1,f2,f3,rfl,Hu⟩
     have Bf:=Asx AQ;clear AQ Hu f1 f2 f3 bb AA JK Pk hC hK gU B8;go_wp2;refine bodyPost_ret (v:=.agg #[.slice pA pts.length pc,.slice oE s.ed.length cE,.slice oF s.fa.length cF]) (by simp [results,Tryz.results78,go_sem,t1,t2,t3]) rfl ?_;exact Bf.out
end Go.Proofs.YtnddllipjippnaaGreatDoor
