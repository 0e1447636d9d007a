/- W36. -/
import Derived.Test.YtnfedbopbcegjaaGreatDoorW33
set_option maxRecDepth 100000
set_option maxHeartbeats 16000000
namespace Go.Proofs.YtnfedbopbcegjaaGreatDoor
open Go.RowKit Kl Go.Shelf
theorem td{w:World}{b:Nat}{a0 a1 a2:Value}{t:TypeId}(v:Value)(h:w.heap[b]?=some (.cells #[a0,a1,a2] t)):(w.setCell ⟨b,0,none⟩ v).heap[b]?=some (.cells #[v,a1,a2] t):=by
 simp only [World.setCell,Array.getElem?_modify,h];simp
theorem tu{w:World}{b o:Nat}{cs:Array Value}{t:TypeId}{fz:Nat×Nat}{v:Value}(h:w.heap[b]?=some (.cells cs t fz))(hc:w.cell? ⟨b,o,none⟩=some v):cs[o]?=some v:=by
 cases e:cs[o]? with
 | some u=>
  have h2:=hc;simp [World.cell?,h,e]at h2;rw [←h2]
 | none=>simp [World.cell?,h,e]at hc
theorem PM{l:List Pt}{j:Nat}(hj:j<(flat (Aq l)).length):∃s,(flat (Aq l))[j]=S s:=by
 have:=AjO hj;unfold flat at this;rw [List.mem_flatMap]at this;obtain⟨p,_,h⟩:=this;simp only [List.mem_cons,AjY,or_false]at h
 rcases h with h|h
 ·exact⟨_,h⟩
 ·exact⟨_,h⟩
theorem Aeu{c:Cn}{E F:Value}{nm:List (Int×Int)}{faces:List Bs}{eds:List Au}{w:World}(_:Cs c E F nm faces eds w):∃x,x=w:=⟨w,rfl⟩
theorem Re{w:World}{B:Nat}{e:TypeId}{s n c:Nat}{A:Option Addr}{xs:List Value}(hs:0<s)(h:w.ownsRow B e s (.slice A n c) n xs):Ad w A xs:=by
 obtain⟨A',c',e',h1,-,-⟩:=Ad.of_own' hs h;simp only [Value.slice.injEq]at e';rw [e'.1];exact h1
theorem vV{B B':Nat}{w w':World}{e:TypeId}{s n:Nat}{v:Value}{xs:List Value}(h:w.ownsRow B' e s v n xs)(hk:KB B w w')(h1:e≠44)(h2:e≠9)(h3:e≠119):w'.ownsRow B' e s v n xs:=by
 refine⟨h.1,?_⟩
 rcases h.2 with h'|⟨g,cap,cur,e1,e2,hgb,e4⟩
 ·exact .inl h'
 ·exact .inr ⟨g,cap,cur,e1,e2,hk.kp g cur e (0,0) h1 h2 h3 hgb,e4⟩
theorem Adp{pts:List Pt}(Ca:pts.Nodup){k:Nat}(hk:k<pts.length):∀e∈Ce (pts.take k),Ah pts[k] e.1=false:=by
 intro e he
 have h1:e.1∈pts.take k:=by
  have:=List.mem_map_of_mem (f:=(·.1)) he
  rwa [Adi]at this
 refine xE.2 fun h2=>?_;obtain⟨j,hj,h3⟩:=List.getElem_of_mem h1;rw [List.getElem_take]at h3;have hj':j<k:=(by rw [List.length_take]at hj;omega);have:=(List.getElem_inj (h₀:=by omega) (h₁:=hk) Ca).1 (h3.trans h2.symm);omega
def BS(w:World)(A:Option Addr)(t:TypeId):Prop:=∀x,A=some x→∃cs r,w.heap[x.block]?=some (.cells cs t r)
theorem BS.ext{w w':World}{A:Option Addr}{t:TypeId}(h:BS w A t)(hx:Aa w w'):BS w' A t:=fun x e=>by
 obtain⟨cs,r,hb⟩:=h x e;exact⟨cs,r,(hx.block _ (AjL hb)).trans hb⟩
theorem BS.of_own{w:World}{B:Nat}{e:TypeId}{s n k c:Nat}{A:Option Addr}{xs:List Value}(h:w.ownsRow B e s (.slice A k c) n xs):BS w A e:=fun x hx=>by
 subst hx
 rcases h.2 with⟨h',_⟩|⟨g,cap,cur,h',_,hgb,_⟩
 ·simp at h'
 ·simp only [Value.slice.injEq,AjR]at h';obtain⟨rfl,-,-⟩:=h';exact⟨_,_,hgb⟩
def cG(w:World)(m:MapZ)(faces:List Bs)(e:Ending)(w':World):Prop:=
 ∃A B F c d g,e=.returned (AE A B F m c d g)/\fk w m faces e w'/\Cf m c d g/\Ad w' A (flat (Aq m.pts))/\Ad w' B (AA m.eds)/\Ad w' F (faces.map S)/\m.nf=faces.length/\Aa w w'/\BS w' A 28/\BS w' B 119/\BS w' F 9
theorem uf{w0 w:World}(hw:Ak w0)(hx:Aa w0 w){B0 r b1 b2:Nat}{L:List (Sg×Int)}{E:List (Pt×Value×Nat)}{R0:List (Pt×List Pt)}(h:Bn B0 w r b1 b2 L E R0)
  (hz:∀e∈R0,A0 1 e.1/\∀p∈e.2,A0 1 p) (hlen:R0.length<=100000) (hrl:∀e∈R0,e.2.length<100000) (Ca:(R0.map (·.1)).Nodup) (hno:∀e∈R0,∀p q,e.2 = [p,q]→AV (Ar p e.1 q)≠0)
  (hL:∀e∈L,G7 1 e.1) (hLl:L.length<=40000) (hback:∀e∈L,∃e'∈L,e'.1=Bc e.1) (U:Option Addr) (cu:Nat) (units:List Bs) (hU:Ad w U (units.map S)) (DV:∀x,U=some x→x.block<w.heap.size) (Cd:units.length<=100000)
  (MF:∀x∈L,-1<=x.2/\x.2<(units.length:Int)) {pts:List Pt} (MM:pts=Gw (R0.map (·.1))) {ws:List Sg} (sT:ws=BD (L.map (·.1))) {st:G0} (hst:st=IC units (Ce pts) L ws) :
  Calls Tryz.prog 72 #[.pointer (some ⟨r,0,none⟩),.slice U units.length cu] w (cG w ⟨pts,st.ed,st.fa.length⟩ st.fa):=by
 have hmm:=@run_makeMap Tryz.prog;have Ajd:=AjL h.cell;have Ait:=AjL h.left;have rB:pts.Nodup:=(by rw [MM];exact(OK _).nodup_iff.2 Ca);have Ac0:pts.length=R0.length:=(by rw [MM,(OK _).length_eq];simp);have E1:=((Aa.refl w).alloc (.cells #[.slice U units.length cu] 33)).alloc (.cells #[.slice none 0 0,.slice none 0 0,.slice none 0 0] 44);have JP:=AjM w (.cells #[.slice U units.length cu] 33);have hbr:=AjM (w.alloc (.cells #[.slice U units.length cu] 33)) (.cells #[.slice none 0 0,.slice none 0 0,.slice none 0 0] 44);rw [AjU]at hbr;have nJ:=(Below.heap_alloc (w.alloc (.cells #[.slice U units.length cu] 33)) (.cells #[.slice none 0 0,.slice none 0 0,.slice none 0 0] 44) w.heap.size (by simp)).trans JP;have lv:=AdH hw (hx.trans E1) (h.ext E1) hz hlen hrl Ca hno;have IL:=h.ar.len;have GP:=h.ar.keys;have kg:=AjK (fun i (hi:i<E.length)=>(h.ar.row i hi (by rw [←IL];exact hi)).2.1)
 have kM:∀e∈E,A0 1 e.1:=fun e he=>by have:e.1∈R0.map (·.1):=(by rw [←GP];exact List.mem_map_of_mem he);obtain⟨e',he',h1⟩:=List.mem_map.1 this;rw [←h1];exact(hz e' he').1
 have G1:=AjK h;have ij:=AjK kM;have HST:=AjK hst;have Pk:=AjK sT;have jy:=AjK MM;have i7:=AjK GP;have Nn:=AjK (show E.length=pts.length by omega);have HU:=AjK hU;have kr:=AjK DV;have HL:=AjK hL;have Nm:=AjK hback;have dG:=AjK MF;have jw:=AjK rB;have hpl:pts.length<=100000:=(by omega);clear JP h kM hst sT MM GP IL hU DV hL hback MF rB Ac0 hz hlen hrl Ca hno;go_enter Tryz.func72,Tryz.ntmps72;have hs1:((w.alloc (.cells #[.slice U units.length cu] 33)).alloc (.cells #[.slice none 0 0,.slice none 0 0,.slice none 0 0] 44)).heap.size=w.heap.size+2:=by simp only [AjU]
 go_upto_region 1 with fail
 generalize (w.alloc (.cells #[.slice U units.length cu] 33)).alloc (.cells #[.slice none 0 0,.slice none 0 0,.slice none 0 0] 44)=W1 at *;(go_wp2_with fail);(with_reducible refine lv.mono ?_);rintro e w2 ⟨rfl,hx2⟩;clear lv;have Bu:=E1.trans hx2;have Xj:=(hx2.block _ (AjL nJ)).trans nJ;have hR2:=(hx2.block _ (AjL hbr)).trans hbr;have hs2:=hx2.size;have Gj:=G1.out.ext Bu;have m1:=Ab (o:=1) Gj.cell rfl;obtain⟨bm,AX⟩:=AjJ w2.heap.size;have kp:=fun W=>tY (some b2) W;have E3:=(Aa.refl w2).alloc (.cells #[.slice none 0 0,.slice none 0 0,.slice none 0 0] 44);have CJ:=AjM w2 (.cells #[.slice none 0 0,.slice none 0 0,.slice none 0 0] 44);have m3:=E3.cellS m1
 go_upto_region 3 with fail
 rw [←AX]at CJ ⊢;generalize w2.alloc (.cells #[.slice none 0 0,.slice none 0 0,.slice none 0 0] 44)=W3 at *;have Bd:=Bu.trans E3;have IO:=G1.out.ext Bd;have Ab9:w.heap.size+2<=bm:=(by omega);have nE:w.heap.size<=bm:=(by omega);have JJ:=(E3.block _ (AjL Xj)).trans Xj;have AW:=(E3.block _ (AjL hR2)).trans hR2;clear AX m1 Gj hx2 Xj hR2 hs2;have E4:=(Aa.refl W3).alloc (.cells #[.map (some b2)] 161);have DN:=AjM W3 (.cells #[.map (some b2)] 161);have sk:=zK hw ((hx.trans Bd).trans E4) W3.heap.size b2 E kg.out (AjL DN) (Ab DN rfl) (IO.ext E4).ar.blk ij.out (by have:=Nn.out;omega);rw [i7.out,←jy.out,Nn.out]at sk;(go_wp2_with fail);(with_reducible refine(kp _).mono ?_);rintro e w4 ⟨rfl,rfl⟩;(go_wp2_with fail);(with_reducible refine sk.mono ?_);rintro e w5 ⟨sv,rfl,D5,Cr⟩;obtain⟨pA,pc,rfl,EP,qX,qY⟩:=Ad.of_own' (by omega) D5;have Nk:=E4.trans Cr;have IM:=(Nk.block _ (AjL CJ)).trans CJ;have y0:=Ab (o:=0) IM rfl;have y1:=Ao (o:=0) IM;have PX:=(Nk.block _ (AjL JJ)).trans JJ;have FC:=(Nk.block _ (AjL AW)).trans AW;clear sk kp DN E4 Cr CJ m3 JJ AW
 go_upto_region 5 with fail
 have WV:=td (.slice pA pts.length pc) IM;have nk:Aa W3 w5:=Nk;have Bw:=Bd.trans Nk;have lT:Aa w (w5.setCell ⟨bm,0,none⟩ (.slice pA pts.length pc)):=Bw.setCell (p:=⟨bm,0,none⟩) nE _;have lD:=Bf (K:=fun k=>k=bm) D5 ((Al.refl (fun k=>k=bm) w5).setCell (p:=⟨bm,0,none⟩) (.inl rfl) (.slice pA pts.length pc)) (fun k hk e=>by subst e;exact Ap D5 IM (by decide) hk);have EI:=(Aa.refl (w5.setCell ⟨bm,0,none⟩ (.slice pA pts.length pc))).alloc (.map #[] 0)
 have Mv:G4 ((w5.setCell ⟨bm,0,none⟩ (.slice pA pts.length pc)).alloc (.map #[] 0)) w5.heap.size (Ce (pts.take 0)):=by have:=AjM (w5.setCell ⟨bm,0,none⟩ (.slice pA pts.length pc)) (.map #[] 0);rw [World.size_setCell]at this;exact this
 have PT:=(EI.block _ (AjL WV)).trans WV;have Bp:=lT.trans EI;have Xa:=Am lD EI;have NM:=(B7 (w:=w5) (p:=⟨bm,0,none⟩) (v:=.slice pA pts.length pc) (show w.heap.size≠bm by omega)).trans PX;have Xg:=(B7 (w:=w5) (p:=⟨bm,0,none⟩) (v:=.slice pA pts.length pc) (show w.heap.size+1≠bm by omega)).trans FC;have Tu:=(EI.block _ (AjL NM)).trans NM;have Tp:=(EI.block _ (AjL Xg)).trans Xg;obtain⟨bi,mW⟩:=AjJ w5.heap.size;rw [←mW]at Mv ⊢;have mY:w.heap.size<=bi:=(by have:=Bw.size;omega);generalize (w5.setCell ⟨bm,0,none⟩ (.slice pA pts.length pc)).alloc (.map #[] 0)=W6 at *;clear IM y0 y1 WV nk Bw lT lD EI EP Nk mW IO Bd D5 PX FC NM Xg;have z0:=Ab (o:=0) PT rfl;have hl0:(0:Int)<=(pts.length:Int):=by omega
 go_upto_region 6 with fail
 clear z0
 go_loopw [27] (fun iv wr=>∃k:Nat,iv=.int .i64 (k:Nat)/\k<=pts.length/\G4 wr bi (Ce (pts.take k))/\Al (fun q=>q=bi) W6 wr) (fun iv _=>pts.length-(intOf iv).toNat)
 case atStart=>exact⟨0,rfl,by omega,Mv,Al.refl _ _⟩
 case round=>
  obtain⟨k,rfl,hk,hI,hB⟩:=hrel;have Xb:=Bf Xa hB (fun k hk e=>by subst e;exact UP Xa Mv hk);have JH:Ad wr pA (flat (Aq pts)):=Re (by omega) Xb;by_cases hkn:k<pts.length
  ·obtain⟨b,o,rfl,f1,f2⟩:=CX JH hkn;have hnew:=Adp jw.out hkn
   have DU:Ce (pts.take (k+1))=Ce (pts.take k) ++ [(pts[k],(k:Int))]:=by rw [AjQ hkn,Adj,List.length_take,Nat.min_eq_left (by omega)]
   obtain⟨p,hp⟩:=AjJ (pts[k]);rw [←hp]at f1 f2 hnew DU;have EA:=(Aa.refl wr).alloc (.cells #[S (R p.x),S (R p.y)] 28);have AP:=AjM wr (.cells #[S (R p.x),S (R p.y)] 28);obtain⟨W8,hput,kQ,Lr,-⟩:=(hI.ext EA).put p hnew (k:Int);rw [←DU]at kQ;unfold Ag at hput;have hk0:(0:Int)<=(k:Int):=(by omega);have El:(k:Int)<(pts.length:Int):=(by omega);have q1:=Ab (o:=0) AP rfl;have q2:=Ab (o:=1) AP rfl;have Ph:=AjK DU;clear hp hnew DU
   go_upto_region 8 with fail
   unfold S at AP q1 q2 hput Lr EA;have Fg:=(hB.ext EA).grown Lr (fun q e=>by cases e;exact .inl rfl);generalize wr.alloc (.cells #[.string ⟨(R p.x).toArray⟩,.string ⟨(R p.y).toArray⟩] 28)=V at *;clear AP EA Lr;go_wp2;go_roundw
   case rel=>exact⟨k+1,by go_num,hkn,kQ,Fg⟩
   case measure=>simp [intOf];omega
  ·have C3:k=pts.length:=(by omega);subst C3;have hd:decide (pts.length<pts.length)=false:=(by simp);have Gl:decide ((pts.length:Int)<(pts.length:Int))=false:=(by simp);rw [List.take_length]at hI;have Tl:bm≠bi:=fun e=>KR PT Mv e;have FB:=(hB.block _ (AjL PT) Tl).trans PT;have Lh:=(hB.block _ (AjL Tu) (fun e=>KR Tu Mv e)).trans Tu;have Tr:=(hB.block _ (AjL Tp) (fun e=>KR Tp Mv e)).trans Tp;have BV:Aa w wr:=hB.toExt Bp (fun q e=>by subst e;exact mY);have mX:=AjL hI;have E9:=(Aa.refl wr).alloc (.map #[] 0);have kS:EW (wr.alloc (.map #[] 0)) wr.heap.size []:=AjM wr (.map #[] 0);obtain⟨Mh,hput,WU,pB,YU⟩:=kS.put (-1) (-1) rfl;have Vn:=(Aa.refl Mh).alloc (.cells #[.map (some wr.heap.size)] 206);have As:=AjM Mh (.cells #[.map (some wr.heap.size)] 206);rw [AjU]at YU;have NP:Al (fun j=>j=wr.heap.size) wr Mh:=((Al.refl _ wr).ext E9).grown pB (fun k e=>by cases e;exact .inl rfl);have Tj:Aa wr Mh:=NP.toExt (Aa.refl wr) (fun k e=>by subst e;exact AjN _);have LW:=Tj.trans Vn
   go_upto_region 10 with fail
   go_upto_region 12 with fail
   rw [YU]at As;have WX:EW (Mh.alloc (.cells #[.map (some wr.heap.size)] 206)) wr.heap.size [(-1,-1)]:=(Vn.block _ (AjL WU)).trans WU;have kU:=(LW.block _ (AjL FB)).trans FB;have lN:=(LW.block _ (AjL Lh)).trans Lh;have To:=(LW.block _ (AjL Tr)).trans Tr;have kO:=hI.ext LW;have lC:=Am Xb LW;have JL:=BV.trans LW;have lL:=AjL Tr;have Ac8:=JL.size;clear kS hput WU pB Vn NP Tj FB Lh Tr hI Xb BV E9 JH hB PT Mv Bp Xa Tu Tp Tl;clear hmm YU LW;generalize Mh.alloc (.cells #[.map (some wr.heap.size)] 206)=W11 at *;obtain⟨bn,BP⟩:=AjJ wr.heap.size;rw [←BP]at As WX mX lL ⊢;clear BP;have PU:=G1.out.ext JL;have JJ:Ad W11 U (units.map S):=HU.out.ext JL;have kG:w.heap.size+2<=W11.heap.size:=(by have:=AjL To;omega);obtain⟨c,hc⟩:=AjJ (⟨w.heap.size+2,bn+1,bn,bm,w.heap.size,bi,r,b1,b2,U,cu,units,.slice pA pts.length pc,Ce pts,L⟩:Cn)
   have ok:c.Ok:=by subst hc;exact⟨show r<w.heap.size+2 by omega,show b1<w.heap.size+2 by omega,show w.heap.size+2<=bn by omega,show w.heap.size+2<=bm by omega,show bi≠bn by omega⟩
   have kH:Cs c (.slice none 0 0) (.slice none 0 0) [(-1,-1)] [] [] W11:=by subst hc;exact⟨⟨As,WX,kU,⟨rfl,.inl ⟨rfl,rfl⟩⟩,lN,JJ,fun x hx=>by have:=kr.out x hx;simp only;omega⟩,⟨PU.cell,PU.left,kO⟩,⟨rfl,.inl ⟨rfl,rfl⟩⟩,kG⟩
   have m11:=Ab (o:=0) PU.cell rfl;have kw:=fun W=>tZ (some b1) W;have RA:=(Aa.refl W11).alloc (.cells #[.map (some b1)] 160);have DN:=AjM W11 (.cells #[.map (some b1)] 160);have sk:=zI hw ((hx.trans JL).trans RA) W11.heap.size b1 L (AjL DN) (Ab DN rfl) (PU.ext RA).left HL.out (by omega);rw [←Pk.out]at sk;have hwl:ws.length=L.length:=by rw [Pk.out,(Kv _).length_eq];simp
   have sS:∀s∈ws,∃e∈L,e.1=s:=fun s hs=>by rw [Pk.out]at hs;obtain⟨e,he,h1⟩:=List.mem_map.1 ((Kv _).mem_iff.1 hs);exact⟨e,he,h1⟩
   rw [←hwl]at sk hLl;have kz:=AjK sS;have HC:=AjK hc;clear hwl sS hc As WX kU lN kO JJ;(go_wp2_with fail);(with_reducible refine(kw _).mono ?_);rintro e w12 ⟨rfl,rfl⟩;(go_wp2_with fail);(with_reducible refine sk.mono ?_);rintro e w13 ⟨sv,rfl,hS13,Hw⟩;obtain⟨sA,sc,rfl,-,-,-⟩:=Ad.of_own' (by omega) hS13;have OW:=RA.trans Hw;have AaX:=kH.ext OW;have lS:=JL.trans OW;have Abl:=Am lC OW;have Abo:=(OW.block _ (AjL To)).trans To;have hf0:(⟨[(-1,-1)],[],[]⟩:G0)=IC units (Ce pts) L (ws.take 0):=rfl;have hk0:OU 0 (⟨[(-1,-1)],[],[]⟩:G0):=⟨rfl,AjN _,AjN _⟩;clear kw sk DN RA Hw m11 kH JL PU lC To OW kG Ab9 nE mY mX lL Ac8 hd Gl;have hl2:(0:Int)<=(ws.length:Int):=by omega
   go_upto_region 13 with fail
   go_loopw [46] (fun iv wr=>∃(k:Nat) (E F:Value) (s:G0),iv=.int .i64 (k:Nat)/\k<=ws.length/\s=IC units (Ce pts) L (ws.take k)/\OU k s/\Cs c E F s.nm s.fa s.ed wr/\KB c.B w13 wr) (fun iv _=>ws.length-(intOf iv).toNat)
   case atStart=>exact⟨0,_,_,_,rfl,by omega,hf0,hk0,AaX,KB.refl _ _⟩
   case round=>
    obtain⟨k,E,F,s,rfl,hk,hs,Ai,hC,hK⟩:=hrel;have PW:=vV hS13 hK (by decide) (by decide) (by decide);by_cases hkn:k<ws.length
    ·obtain⟨b,o,rfl,f1,f2,f3,f4⟩:=MZ (Re (by omega) PW) hkn;obtain⟨e1,TO,TR⟩:=kz.out _ (AjO hkn);have hsz:G7 1 ws[k]:=by rw [←TR];exact HL.out e1 TO
     have Yv:-1<=AI ws[k] L/\AI ws[k] L<(units.length:Int):=by obtain⟨e2,Fi,h2⟩:=Z1 (s:=ws[k]) (L:=L) (by rw [←TR];exact List.mem_map_of_mem TO);rw [h2];exact dG.out e2 Fi
     have Yw:-1<=AI (Bc ws[k]) L/\AI (Bc ws[k]) L<(units.length:Int):=by obtain⟨e3,IU,h3⟩:=Nm.out e1 TO;obtain⟨e2,Fi,h2⟩:=Z1 (s:=Bc ws[k]) (L:=L) (by rw [←TR,←h3];exact List.mem_map_of_mem IU);rw [h2];exact dG.out e2 Fi
     have DU:IC units (Ce pts) L (ws.take (k+1))=J0 units (Ce pts) L s ws[k]:=by rw [AjQ hkn,ue,←hs]
     have L1:=Ai.step units (Ce pts) L ws[k];obtain⟨x,hxx⟩:=AjJ (ws[k]);rw [←hxx]at f1 f2 f3 f4 hsz Yv Yw DU L1;have Ph:=AjK DU;have HS:=AjK hs;have AiF:(0:Int)<=(k:Int):=(by omega);have El:(k:Int)<(ws.length:Int):=(by omega);have EA:=(Aa.refl wr).alloc (.cells #[S (R x.a.x),S (R x.a.y),S (R x.b.x),S (R x.b.y)] 176);have AP:=AjM wr (.cells #[S (R x.a.x),S (R x.a.y),S (R x.b.x),S (R x.b.y)] 176);have BV:Aa w wr:=lS.trans_below hK.bl (by have:=HC.out;rw [this];simp only;omega);have wP:=fun (V:World) (hV:Aa wr V)=>Jk x.a x.b hsz.a hsz.b (by omega) (by omega) V (hw.ext ((hx.trans BV).trans hV));clear hxx DU hs TR TO e1
     go_upto_region 15 with fail
     unfold S at AP EA;have Ty:I9 (wr.alloc (.cells #[.string ⟨(R x.a.x).toArray⟩,.string ⟨(R x.a.y).toArray⟩,.string ⟨(R x.b.x).toArray⟩,.string ⟨(R x.b.y).toArray⟩] 176)) wr.heap.size x:=AP;generalize wr.alloc (.cells #[.string ⟨(R x.a.x).toArray⟩,.string ⟨(R x.a.y).toArray⟩,.string ⟨(R x.b.x).toArray⟩,.string ⟨(R x.b.y).toArray⟩] 176)=V at *;obtain⟨Ck,mF⟩:=AjJ wr.heap.size;rw [←mF]at AP Ty ⊢;clear mF f1 f2 f3 f4;have y0:=Ab (o:=0) AP rfl;have y1:=Ab (o:=1) AP rfl;have y2:=Ab (o:=2) AP rfl;have y3:=Ab (o:=3) AP rfl;have p1:=wP V EA;obtain⟨z,hz⟩:=AjJ (AS x.a x.b);rw [←hz]at p1;unfold Ag S at p1;(go_wp2_with fail);(with_reducible refine p1.mono ?_);rintro e w3 ⟨rfl,hx3⟩;have X3:=EA.trans hx3;have Tg:=hC.ext X3;have hK3:=hK.trans (KB.ext X3 hC.size);have hW3:I9 w3 Ck x:=(hx3.block _ (AjL Ty)).trans Ty;clear p1 wP y0 y1 y2 y3 AP Ty;by_cases MI:z<0
     ·have hce:J0 units (Ce pts) L s x=KQ units (Ce pts) L s x:=(by unfold J0;rw [if_pos (by rw [←hz];exact MI)]);rw [hce]at L1;have RF:=AjK hce;have TV:=Ai.fa;have Gm:=Ai.ed;have A8:c.units=units:=(by rw [HC.out]);have WE:=fun (V:World) (F':Value) (h:Cs c E F' s.nm s.fa s.ed V)=>jL ok h Ai.h (AI x L) Yv.1 (by rw [A8];exact Yv.2) (by rw [A8];exact Cd) (by omega);have GQ:=Z9 units s.nm s.fa (AI x L);have hh1:=Z8 units s.fa (AI x L) Ai.h;have jN:=fun (V:World) (F':Value) (h:Cs c E F' (Bl units s.nm s.fa (AI x L)).2.1 (Bl units s.nm s.fa (AI x L)).2.2 s.ed V)=>jL ok h hh1 (AI (Bc x) L) Yw.1 (by rw [A8];exact Yw.2) (by rw [A8];exact Cd) (by omega);rw [A8]at WE jN
      have jM:∀(V:World) (F':Value) (h:Cs c E F' s.nm s.fa s.ed V),Calls Tryz.prog 126 #[.int .i64 (AI x L),.pointer (some ⟨bn+1,0,none⟩),.pointer (some ⟨bm,0,none⟩),.pointer (some ⟨w.heap.size,0,none⟩)] V (Nl V c.B c.bx c.bn c.bm c.bu c.U c.cu c.units c.P E F' (Bl units s.nm s.fa (AI x L)).1 (Bl units s.nm s.fa (AI x L)).2.1 (Bl units s.nm s.fa (AI x L)).2.2):=by intro V F' h;have t:=WE V F' h;rw [←A8]at t;rw [←A8];have hc:=HC.out;rw [show (bn+1)=c.bx by rw [hc],show bm=c.bm by rw [hc],show w.heap.size=c.bu by rw [hc]];exact t
      have Pj:=AjK A8;have io:=AjK jN;have NE:=Tg.ext (Aa.refl w3).drew;have lk:=Rq x L (W:=w3.drew) (by have:=NE.rd.left;rw [HC.out]at this;exact this);have Um:=NE.rd.net;rw [HC.out]at Um;simp only at Um;have m1:=Ab (o:=0) Um rfl;have hwd:I9 w3.drew Ck x:=hW3;have g0:=Ab (o:=0) hwd rfl;have g1:=Ab (o:=1) hwd rfl;have g2:=Ab (o:=2) hwd rfl;have g3:=Ab (o:=3) hwd rfl;unfold Ax at lk;have WC:=jM _ F NE;have AcT:w3.drew.heap[Ck]?=some (.cells #[S (R x.a.x),S (R x.a.y),S (R x.b.x),S (R x.b.y)] 176 (0,0)):=hW3;clear WE jM GQ A8 Um hwd hce;obtain⟨zl,hzl⟩:=AjJ ((Bl units s.nm s.fa (AI x L)).1);rw [←hzl]at WC;have lw:=AjK hzl;clear hzl
      go_upto_region 16 with fail
      go_cut [13] (fun v13 wx=>v13=.int .i64 zl/\∃F',Cs c E F' (Bl units s.nm s.fa (AI x L)).2.1 (Bl units s.nm s.fa (AI x L)).2.2 s.ed wx/\KB c.B w13 wx/\I9 wx Ck x)
      case first=>
       go_region_with ((with_reducible refine WC.mono ?_);rintro e w4 ⟨F4,rfl,JD,Dv⟩)
       all_goals go_wp2
       all_goals go_meet
       all_goals (
        have NH:=KB.named ok NE Dv
        refine⟨rfl,F4,NE.named ok (by rw [Pj.out]at JD ⊢;exact JD) Dv,(hK3.trans (KB.ext (Aa.refl w3).drew Tg.size)).trans NH,NH.kp Ck _ _ _ (by decide) (by decide) (by decide) AcT⟩)
      case rest=>
       obtain⟨rfl,F4,kJ,hK4,Xr⟩:=hcut;obtain⟨W9,rfl⟩:=Aeu kJ;have oU:=io.out
       have TW:∀(V:World) (F':Value),Cs c E F' (Bl units s.nm s.fa (AI x L)).2.1 (Bl units s.nm s.fa (AI x L)).2.2 s.ed V→Calls Tryz.prog 126 #[.int .i64 (AI (Bc x) L),.pointer (some ⟨c.bx,0,none⟩),.pointer (some ⟨c.bm,0,none⟩),.pointer (some ⟨c.bu,0,none⟩)] V (Nl V c.B c.bx c.bn c.bm c.bu c.U c.cu c.units c.P E F' (Bl units (Bl units s.nm s.fa (AI x L)).2.1 (Bl units s.nm s.fa (AI x L)).2.2 (AI (Bc x) L)).1 (Bl units (Bl units s.nm s.fa (AI x L)).2.1 (Bl units s.nm s.fa (AI x L)).2.2 (AI (Bc x) L)).2.1 (Bl units (Bl units s.nm s.fa (AI x L)).2.1 (Bl units s.nm s.fa (AI x L)).2.2 (AI (Bc x) L)).2.2):=by intro V F' h';have t:=oU V F' h';rw [←Pj.out]at t;rw [←Pj.out];exact t
       clear oU lk m1 g0 g1 g2 g3 WC NE Tg hK3 hW3;have hel:s.ed.length<200000:=by omega
       go_upto_region 17 with fail
       refine Agb (c:=c) ok kJ Xr hel zl (GX x.a (Ce pts)) (GX x.b (Ce pts)) (AI (Bc x) L) _ (by rw [HC.out]) (by rw [HC.out]) (by rw [HC.out]) TW rfl (by kernel_rfl) (by kernel_rfl) (by simp) (by rw [HC.out];rfl) (by rw [HC.out];rfl) rfl rfl (by rw [HC.out];rfl) (by rw [HC.out];rfl) ?_;intro v w9 E9 F9 WN hK9;simp only [List.take_succ_cons,List.take_zero,List.drop_succ_cons,List.drop_zero,List.cons_append,List.nil_append,show List.range 24 = [0,1,2,3,4,5,6,7,8,9,10,11,12,13,14,15,16,17,18,19,20,21,22,23] from rfl,List.map_cons,List.map_nil];clear TW;have Vr:=AjK (show KQ units (Ce pts) L s x=IC units (Ce pts) L (ws.take (k+1))by rw [Ph.out,RF.out])
       have AaY:Cs c E9 F9 (KQ units (Ce pts) L s x).nm (KQ units (Ce pts) L s x).fa (KQ units (Ce pts) L s x).ed w9:=by have hz:=lw.out;rw [hz]at WN;exact WN
       clear WN;go_wp2;go_roundw
       case rel=>exact⟨k+1,E9,F9,KQ units (Ce pts) L s x,by go_num,hkn,Vr.out,L1,AaY,hK4.trans hK9⟩
       case measure=>simp [intOf];omega
     ·have hce:J0 units (Ce pts) L s x=s:=(by unfold J0;rw [if_neg (by rw [←hz];exact MI)]);rw [hce]at L1;have Vr:=AjK (show s=IC units (Ce pts) L (ws.take (k+1))by rw [Ph.out,hce]);clear hce hz;go_wp2;go_roundw
      case rel=>exact⟨k+1,E,F,s,by go_num,hkn,Vr.out,L1,Tg,hK3⟩
      case measure=>simp [intOf];omega
    ·have C3:k=ws.length:=(by omega);subst C3;have NX:decide (ws.length<ws.length)=false:=(by simp);have Ai6:decide ((ws.length:Int)<(ws.length:Int))=false:=(by simp);rw [List.take_length,←HST.out]at hs;subst hs;obtain⟨oE,cE,rfl,WQ,BA,CG⟩:=Ad.of_own' (by omega) hC.own;obtain⟨oF,cF,rfl,hF9,kN,hF2⟩:=Ad.of_own' (by omega) hC.fc.fac;have FD:=(hK.bl.block _ (by rw [HC.out];show w.heap.size+1<w.heap.size+2;omega)).trans Abo;have M6:=hC.fc.cM;have hcb:c.bm=bm/\c.P=.slice pA pts.length pc/\c.B=w.heap.size+2:=(by rw [HC.out];exact⟨rfl,rfl,rfl⟩);rw [hcb.1,hcb.2.1]at M6;have PV:=vV Abl hK (by decide) (by decide) (by decide);have Dh:Aa w wr:=lS.trans_below hK.bl (by rw [hcb.2.2];omega);have m0:=Ab (o:=0) M6 rfl;have m1:=Ab (o:=1) M6 rfl;have m2:=Ab (o:=2) M6 rfl;have r0:=Ab (o:=0) FD rfl;have r1:=Ab (o:=1) FD rfl;have r2:=Ab (o:=2) FD rfl;have r3:=Ao (o:=0) FD;have r4:=Ao (o:=1) FD;have r5:=Ao (o:=2) FD;have AZ:=GB (.slice pA pts.length pc) (.slice oE s.ed.length cE) (.slice oF s.fa.length cF) FD;have bb:=(((Al.refl (fun q=>q=w.heap.size+1) wr).setCell (p:=⟨w.heap.size+1,0,none⟩) (.inl rfl) (.slice pA pts.length pc)).setCell (p:=⟨w.heap.size+1,1,none⟩) (.inl rfl) (.slice oE s.ed.length cE)).setCell (p:=⟨w.heap.size+1,2,none⟩) (.inl rfl) (.slice oF s.fa.length cF);have f1:=Re (by omega) (Bf PV bb (fun q hq e=>by subst e;exact Ap PV FD (by decide) hq));have f2:=Re (by omega) (Bf hC.own bb (fun q hq e=>by subst e;exact Ap hC.own FD (by decide) hq));have f3:=Re (by omega) (Bf hC.fc.fac bb (fun q hq e=>by subst e;exact Ap hC.fc.fac FD (by decide) hq));have y1:BS (((wr.setCell ⟨w.heap.size+1,0,none⟩ (.slice pA pts.length pc)).setCell ⟨w.heap.size+1,1,none⟩ (.slice oE s.ed.length cE)).setCell ⟨w.heap.size+1,2,none⟩ (.slice oF s.fa.length cF)) pA 28:=BS.of_own (Bf PV bb (fun q hq e=>by subst e;exact Ap PV FD (by decide) hq));have y2:BS (((wr.setCell ⟨w.heap.size+1,0,none⟩ (.slice pA pts.length pc)).setCell ⟨w.heap.size+1,1,none⟩ (.slice oE s.ed.length cE)).setCell ⟨w.heap.size+1,2,none⟩ (.slice oF s.fa.length cF)) oE 119:=BS.of_own (Bf hC.own bb (fun q hq e=>by subst e;exact Ap hC.own FD (by decide) hq));have y3:BS (((wr.setCell ⟨w.heap.size+1,0,none⟩ (.slice pA pts.length pc)).setCell ⟨w.heap.size+1,1,none⟩ (.slice oE s.ed.length cE)).setCell ⟨w.heap.size+1,2,none⟩ (.slice oF s.fa.length cF)) oF 9:=BS.of_own (Bf hC.fc.fac bb (fun q hq e=>by subst e;exact Ap hC.fc.fac FD (by decide) hq));have GM:=bb.toExt Dh (fun q e=>by subst e;omega);have t1:=Ab (o:=0) AZ rfl;have t2:=Ab (o:=1) AZ rfl;have t3:=Ab (o:=2) AZ rfl
     have AU:cG w ⟨pts,s.ed,s.fa.length⟩ s.fa (.returned (AE pA oE oF ⟨pts,s.ed,s.fa.length⟩ pc cE cF)) (((wr.setCell ⟨w.heap.size+1,0,none⟩ (.slice pA pts.length pc)).setCell ⟨w.heap.size+1,1,none⟩ (.slice oE s.ed.length cE)).setCell ⟨w.heap.size+1,2,none⟩ (.slice oF s.fa.length cF)):=
      ⟨pA,oE,oF,pc,cE,cF,rfl,⟨pA,oE,oF,pc,cE,cF,rfl,⟨qX,qY,BA,CG,kN,hF2⟩,f1,f2,f3,rfl,GM⟩,⟨qX,qY,BA,CG,kN,hF2⟩,f1,f2,f3,rfl,GM,y1,y2,y3⟩
     have Bb:=AjK AU;clear AU GM f1 f2 f3 y1 y2 y3 bb AZ FD M6 hC hK PV Dh;go_wp2;refine bodyPost_ret (v:=.agg #[.slice pA pts.length pc,.slice oE s.ed.length cE,.slice oF s.fa.length cF]) (by simp [results,Tryz.results72,go_sem,t1,t2,t3]) rfl ?_;exact Bb.out
end Go.Proofs.YtnfedbopbcegjaaGreatDoor
