/- Z38: C4 D1 D3 D6. -/
import Derived.Test.YtdaefncphfeaeaaGreatDoorZ37
set_option maxRecDepth 100000
set_option maxHeartbeats 16000000
namespace Go.Proofs.YtdaefncphfeaeaaGreatDoor
open Go.RowKit Kl
theorem Af9{w0 w:World}(hw:Ai w0)(hx:Aa w0 w){B:Nat}{r b1 b2:Nat}{L:List (Sg×Int)}{E:List (Pt×Value×Nat)}{R0:List (Pt×List Pt)}(h:Cl B w r b1 b2 L E R0)(hN:G5 (L.map (·.1)) R0)(hW:Wv (L.map (·.1)))(hlen:L.length<=100000)(hrl:∀e∈R0,e.2.length<100000) :
  Calls Tryz.prog 124 #[.pointer (some ⟨r,0,none⟩)] w fun e w'=>∃A cap,e=.returned (.slice A (OD (L.map (·.1)) R0).length cap)/\MC w' A cap (OD (L.map (·.1)) R0)/\Aa w w':=by
 have hmm:=@run_makeMap Tryz.prog;have n1:=Ab (o:=0) h.cell rfl;obtain⟨Ws,Nl⟩:=AcG (L.map (·.1));have yW:Ws.length=L.length:=(by rw [Nl];simp);obtain⟨C,hC⟩:=AcG (OD Ws R0);rw [←Nl]at hN hW ⊢;rw [←hC];have HC:=Asb hC;have HN:=Asb hN;have HW:=Asb hW;have Sw:=Asb hrl;have QA:=Ase w (.map #[] 0);have ER:=(Aa.refl w).alloc (.map #[] 0);have fH:=h.ext ER;have hs1:(w.alloc (.map #[] 0)).heap.size=w.heap.size+1:=(by simp);have kw:=fun mb W=>Akx mb W;have hb0:=h.left;have hlr:=Asd h.cell;have hsw:∀e∈L,DK 200 e.1:=fun e he=>hW.sz e.1 (by rw [Nl];exact List.mem_map_of_mem he);have HSW:=Asb hsw;have Wi:=Asb yW;have HWS:=Asb Nl;clear hC hN hW hrl hsw yW Nl;go_enter Tryz.func124,Tryz.ntmps124
 go_upto_region 3 with fail
 generalize w.alloc (.map #[] 0)=W1 at *;obtain⟨bu,bj⟩:=AcG w.heap.size;rw [←bj]at QA ⊢;have Re:w.heap.size<=bu:=(by omega);have Hm:bu<W1.heap.size:=(by omega);clear bj hs1;have m1:=Ab (o:=0) fH.cell rfl;(go_wp2_with fail);(with_reducible refine(kw _ _).mono ?_);rintro e w2 ⟨rfl,hw2⟩;have Hd:Aa W1 w2:=(by rw [hw2];exact(Aa.refl W1).alloc _);have Jn:=Ase W1 (.cells #[.map (some b1)] 108);rw [←hw2]at Jn;have OQ:=fH.ext Hd;have hx2:=(hx.trans ER).trans Hd;have hBm:W1.heap.size<w2.heap.size:=Asd Jn;have sk:=Aoh hw hx2 W1.heap.size b1 L hBm (Ab Jn rfl) OQ.left HSW.out (by omega);clear hw2 m1 n1 kw;(go_wp2_with fail);(with_reducible refine sk.mono ?_);rintro e w3 ⟨sv,rfl,KY,DU⟩;rw [←HWS.out]at KY;have Xx:Aa w w3:=(ER.trans Hd).trans DU;have Tu:=OQ.ext DU;have lK:w3.heap[bu]?=some (.map #[] 0):=((Hd.trans DU).block bu Hm).trans QA;have XI:EL w3 bu []:=lK;have Fw:(Cr Ws).length=L.length:=(by rw [(PN Ws).length_eq];exact Wi.out);obtain⟨sA,sc,rfl,-,-,-⟩:=Am.of_own' (by omega) KY;have hx3:Aa w0 w3:=hx.trans Xx;have Aqg:bu<w3.heap.size:=Asd lK;have L6:=Asb Fw;have rC:=Asb KY;have VV:=Asb h;clear sk Jn hBm OQ hx2 Hd ER DU QA Hm fH hb0 Fw KY h hx Tu;have hl0:(0:Int)<=(L.length:Int):=by omega
 go_upto_region 4 with fail
 go_loopw [3,16] (fun out i wr=>∃(k:Nat) (st:List Sg×List (List Sg)),i=.int .i64 (k:Nat)/\k<=L.length/\st=((Cr Ws).take k).foldl (Hy Ws.length R0) ([],[])/\Iy w3.heap.size wr out st.2/\EL wr bu st.1/\AH (fun j=>j=bu) w3 wr) (fun _ i _=>L.length-(intOf i).toNat)
 case atStart=>exact⟨0,([],[]),rfl,by omega,by simp,Iy.nil _ _,XI,AH.refl _ _⟩
 case round=>
  obtain⟨k,st,rfl,hk,hst,hO,hU,hB⟩:=hrel;have HST:=Asb hst;clear hst;have KY:=DG rC.out hB (fun j hj e=>ze rC.out lK (fun _ e=>by cases e) j hj e);have FG:Aa w wr:=hB.toExt Xx (fun j e=>by subst e;exact Re);by_cases hlt:k<L.length
  ·obtain⟨sA',sc',pz,U6,-,-⟩:=Am.of_own' (by omega) KY;simp only [Value.slice.injEq,true_and]at pz;obtain⟨rfl,rfl⟩:=pz;obtain⟨b,o,rfl,g1,g2,g3,g4⟩:=RH U6 (show k<(Cr Ws).length by rw [L6.out];exact hlt);obtain⟨s0,hs0⟩:∃s,s=(Cr Ws)[k]'(by rw [L6.out];exact hlt):=⟨_,rfl⟩;rw [←hs0]at g1 g2 g3 g4
   have hstep:((Cr Ws).take (k+1)).foldl (Hy Ws.length R0) ([],[])=Hy Ws.length R0 st s0:=by rw [Asi (show k<(Cr Ws).length by rw [L6.out];exact hlt),List.foldl_append,←HST.out,←hs0];rfl
   have lC:s0∈Ws:=(PN Ws).mem_iff.1 (by rw [hs0];exact Asg _);obtain⟨En,-⟩:=uY HN.out k (by rw [L6.out];omega);rw [←HST.out]at En;have hlU:=Ld En.nd En.sub;obtain⟨dd,e1,e2,e3,-,-⟩:=oL HN.out (Ws.length-st.1.length+1) st.1 s0 [] En.nd En.sub lC (by omega);have FM:dd.length<=Ws.length:=Ld (List.nodup_append.1 e2).2.1 e3;have HDL:=Asb FM;have bV:=Asb e1;have Wh:=Asb hstep;have MF:=Asb En;have HS0:=Asb lC;have As:=Ase wr (.cells #[S (R s0.a.x),S (R s0.a.y),S (R s0.b.x),S (R s0.b.y)] 183);have E4:=(Aa.refl wr).alloc (.cells #[S (R s0.a.x),S (R s0.a.y),S (R s0.b.x),S (R s0.b.y)] 183);have YN:wr.heap.size<(wr.alloc (.cells #[S (R s0.a.x),S (R s0.a.y),S (R s0.b.x),S (R s0.b.y)] 183)).heap.size:=(by simp);have k0:(0:Int)<=(k:Int):=(by omega);have k1:(k:Int)<(L.length:Int):=(by omega);clear hs0 hstep En e1 e2 e3 FM lC KY U6 hlU
   go_upto_region 6 with fail
   unfold S at As E4 YN;generalize hW4:wr.alloc (.cells #[.string ⟨(R s0.a.x).toArray⟩,.string ⟨(R s0.a.y).toArray⟩,.string ⟨(R s0.b.x).toArray⟩,.string ⟨(R s0.b.y).toArray⟩] 183)=W4 at *;obtain⟨bs,TL⟩:=AcG wr.heap.size;rw [←TL]at As YN ⊢;have Aj6:bu<wr.heap.size:=Asd hU;have hne:bu≠bs:=(by omega);have Nl:wr.heap.size<=bs:=(by omega);have Arx:=hB.size;clear hW4 TL g1 g2 g3 g4;have Tr:IZ W4 W4 bu bs (.slice none 0 0) st.1 s0 []:=⟨(E4.block bu Aj6).trans hU,As,⟨rfl,.inl ⟨rfl,rfl⟩⟩,AH.refl _ _⟩;have HI0:=Asb Tr;clear Tr As
   go_upto_region 7 with fail
   go_loopw [7] (fun cv wi=>∃(U:List Sg) (s:Sg) (c:List Sg),IZ W4 wi bu bs cv U s c/\s∈Ws/\U.Nodup/\(∀t∈U,t∈Ws)/\Iq R0 (Ws.length-U.length+1) U s c=(st.1++dd,dd)) (fun _ wi=>L.length-mQ wi bu)
   case atStart=>exact⟨st.1,s0,[],HI0.out,HS0.out,MF.out.nd,MF.out.sub,by rw [bV.out];simp⟩
   case round=>
    obtain⟨U,s,c,hI,YM,XJ,Tx,hrun⟩:=hrel;have xC:=tQ E4 hI.but Nl;have BV:=hB.trans xC;have XN:Aa w wr:=BV.toExt Xx (fun j e=>by subst e;exact Re);have yC:=VV.out.ext XN;have z0:=Ab (o:=0) hI.box rfl;have z1:=Ab (o:=1) hI.box rfl;have z2:=Ab (o:=2) hI.box rfl;have z3:=Ab (o:=3) hI.box rfl;have Yu:=hI.used.look s;obtain⟨cA,cc,rfl,-,-,-⟩:=Am.of_own' (by omega) hI.row;have yV:=Ld XJ Tx;by_cases hu:U.any (Bc s)=true
    ·rw [hu]at Yu
     have AP:U=st.1++dd/\c=dd:=by unfold Iq at hrun;rw [if_pos hu]at hrun;simp only [Prod.mk.injEq]at hrun;exact hrun
     obtain⟨rfl,rfl⟩:=AP
     have yD:=hO.keep xC (fun j _ e cs ee h=>by
      subst e;have h1:=hU;unfold EL at h1;rw [h1]at h
      cases h)
     have fP:=hI.used;unfold Ax at Yu;have HI:=Asb hI;clear hrun hI hO yV XJ Tx yC;by_cases hc0:c.length=0
     ·have By:c = []:=List.eq_nil_of_length_eq_zero hc0
      have hcs:Hy Ws.length R0 st s0=(st.1++c,st.2):=by unfold Hy;rw [bV.out,By];rfl
      have Ou:=Asb hcs;have iR:(c.length:Int)=0:=(by omega);rw [hc0];clear hc0 By hcs iR;go_wp2;go_roundw
      case rel=>exact⟨k+1,(st.1++c,st.2),by go_num,hlt,by rw [Wh.out,Ou.out],yD,fP,BV⟩
      case measure=>simp [intOf];omega
     ·have hcs:Hy Ws.length R0 st s0=(st.1++c,st.2 ++ [c]):=by unfold Hy;rw [bV.out];simp only [List.nil_append];rw [if_pos (by omega)]
      have Ou:=Asb hcs;have QG:(0:Int)<(c.length:Int):=(by omega);have dt:decide ((c.length:Int)>0)=true:=decide_eq_true QG;obtain⟨vs,UF,EJ⟩:=yD
      have Ajy:st.2.length<200000:=by have h1:=MF.out.flat;have h2:=Ld MF.out.nd MF.out.sub;have h3:st.2.length<=st.2.flatten.length:=Ze MF.out.ne;rw [h1]at h3;have:=Wi.out;omega
      have hrow:=zh HI.out.row (B':=w3.heap.size) (by have:=hB.size;have:=E4.size;omega);have hbase:w3.heap.size<=wr.heap.size:=BV.size;have HVR:=Asb EJ;clear hc0 hcs EJ
      go_wp2_with (at_builtin;go_loud (refine appRow rfl _ _ rfl _ w3.heap.size u3 st.2.length vs rfl (Ap UF ((Aa.refl wr).alloc _)) Ajy (.slice cA c.length cc) rfl wr.heap.size (Ase wr _) rfl (by simp;omega) ?_);intro v9 w9 BN Bh)
      have Nm:=(Aa.refl wr).alloc (.cells #[.slice cA c.length cc] 190);have hO9:=AlI (Ap UF Nm) (fun j hj=>by obtain⟨v,q1,q2⟩:=HVR.out j hj;exact⟨v,q1,Ap q2 Nm⟩) (Ap hrow Nm) Bh BN;have fQ:EL (wr.alloc (.cells #[.slice cA c.length cc] 190)) bu (st.1++c):=(Nm.block bu (Asd fP)).trans fP;have hU9:=fQ.far Bh (nH (Ap UF Nm) fQ);have JO:=(BV.ext Nm).own Bh (Ap UF Nm) (Asf _);clear Nm fQ BN Bh UF hrow;go_wp2;go_roundw
      case rel=>exact⟨k+1,(st.1++c,st.2 ++ [c]),by go_num,hlt,by rw [Wh.out,Ou.out],hO9,hU9,JO⟩
      case measure=>simp [intOf];omega
    ·have hno:U.any (Bc s)=false:=(by simpa using hu);rw [hno]at Yu
     have hcl:c.length<200000:=by have h1:=AaK R0 (Ws.length-U.length+1) U s c;rw [hrun]at h1;have:=HDL.out;have:=Wi.out;simp only at h1;omega
     have pw:s∉U:=Ael.1 hno
     have fS:(U ++ [s]).Nodup:=by rw [List.nodup_append];refine⟨XJ,by simp,?_⟩;intro a ha b hb;simp only [Ass]at hb;subst hb;rintro rfl;exact pw ha
     have fV:∀t∈U ++ [s],t∈Ws:=by
      intro t ht
      rcases List.mem_append.1 ht with ht|ht
      ·exact Tx t ht
      ·simp only [Ass]at ht;exact ht▸YM
     have fR:=Ld fS fV;rw [List.length_append,List.length_singleton]at fR
     have hrun':Iq R0 (Ws.length-(U ++ [s]).length+1) (U ++ [s]) (NX R0 s) (c ++ [s])=(st.1++dd,dd):=by unfold Iq at hrun;rw [if_neg (by rw [hno];simp)]at hrun;rw [List.length_append,List.length_singleton,show Ws.length-(U.length+1)+1=Ws.length-U.length by omega];exact hrun
     obtain⟨Wp,hput,Ni⟩:=hI.put hne hno;obtain⟨e,hf,j,m,hj,hi,hm,Hk,Ep,Yy⟩:=HN.out.step YM;rw [←Ep]at Yy;have cn:=fun (W7:World) (BW:Aa w W7)=>Alm (VV.out.ext BW) s hf hj hi hm Hk (Sw.out e (List.mem_of_find?_eq_some hf));rw [←Ep]at cn;obtain⟨t,ht⟩:=AcG (NX R0 s);rw [←ht]at Yy hrun' cn;have y0:=Ab (o:=0) Ni.box rfl;have y1:=Ab (o:=1) Ni.box rfl;have y2:=Ab (o:=2) Ni.box rfl;have y3:=Ab (o:=3) Ni.box rfl;have Gv:=hI.used.size;have HMS:=Asb (And.intro Gv (And.intro fR Wi.out));have HR:=Asb (And.intro hrun' (And.intro fS (And.intro fV Yy)));have AS:W4.heap.size<=Wp.heap.size:=Ni.but.size;have ID:=Ni.row;have HIP:=Asb Ni;unfold Ax at Yu hput cn;clear hrun hrun' XJ fS Tx fV Yy Gv yV fR hI Ni ht Ep Hk hm hi hj hf hno pw hu yC
     go_wp2_with (at_builtin;go_loud (refine Aes rfl _ _ rfl _ W4.heap.size (.slice cA c.length cc) c.length c rfl (Ap ID ((Aa.refl Wp).alloc _)) hcl s Wp.heap.size (Ase Wp _) rfl (by simp;omega) ?_);intro v7 w7 Gw Gt;have LM:=IZ.app HIP.out YN Gt Gw;have x0:=Ab (o:=0) LM.box rfl;have x1:=Ab (o:=1) LM.box rfl;have x2:=Ab (o:=2) LM.box rfl;have x3:=Ab (o:=3) LM.box rfl)
     have BW:Aa w w7:=(hB.trans (tQ E4 LM.but Nl)).toExt Xx (fun j e=>by subst e;exact Re);(with_reducible refine(cn w7 BW).mono ?_);rintro e w8 ⟨rfl,AE⟩;have ET:=(AE.block bs (Asd LM.box)).trans LM.box;have y0:=An (o:=0) ET;have y1:=An (o:=1) ET;have y2:=An (o:=2) ET;have y3:=An (o:=3) ET;have q0:=Ab (o:=0) ET rfl;have q1:=Ab (o:=1) ET rfl;have q2:=Ab (o:=2) ET rfl;have q3:=Ab (o:=3) ET rfl;have xT:=LM.nxt AE hne YN t;have qO:=Asb xT;clear xT ET x0 x1 x2 x3 BW AE LM Gw Gt ID cn;go_wp2;go_roundw
     case rel=>exact⟨U ++ [s],t,c ++ [s],qO.out,HR.out.2.2.2,HR.out.2.1,HR.out.2.2.1,HR.out.1⟩
     case measure=>have h1:=qO.out.used.size;have h2:=HMS.out;rw [List.length_append,List.length_singleton]at h1;rw [h1,h2.1];omega
  ·have hk2:k=L.length:=by omega
   have AP:st.2=C:=by rw [HC.out];unfold OD;rw [HST.out,hk2,←L6.out,List.take_length]
   have hle:(L.length:Int)<=(k:Int):=(by omega);rw [AP]at hO;obtain⟨A,cap,rfl,hcs⟩:=hO.cycs;have Ou:=Asb hcs;clear hcs hO hU KY hB hk2;go_wp2;go_ret;exact⟨A,cap,rfl,Ou.out,FG⟩
def DI(C:List (List Sg)):List (Sg×Int):=C.zipIdx.flatMap (fun ci=>ci.1.map (fun s=>(s,(ci.2:Int))))
theorem zv(C:List (List Sg))(c:List Sg):DI (C ++ [c])=DI C++c.map (fun s=>(s,(C.length:Int))):=by
 unfold DI;rw [List.zipIdx_append,List.flatMap_append];simp
theorem zt(C:List (List Sg)):(DI C).map (·.1)=C.flatten:=by
 have main:∀n,n<=C.length→(DI (C.take n)).map (·.1)=(C.take n).flatten:=by
  intro n
  induction n with
  | zero=>intro _;simp [DI]
  | succ n ih=>
   intro hn;rw [Asi (by omega),zv,List.map_append,ih (by omega),List.flatten_append,List.map_map]
   congr 1
   simp [Function.comp_def]
 have:=main C.length (Asf _)
 rwa [List.take_length]at this
theorem AlO{C:List (List Sg)}{e:Sg×Int}(h:e∈DI C):∃i,∃hi:i<C.length,e.2=(i:Int)/\e.1∈C[i]:=by
 unfold DI at h;rw [List.mem_flatMap]at h;obtain⟨ci,h1,h2⟩:=h;rw [List.mem_map]at h2;obtain⟨s,hs,rfl⟩:=h2;obtain⟨c,i⟩:=ci;rw [List.mem_zipIdx_iff_getElem?]at h1;simp only at h1 hs;rw [Ast]at h1;obtain⟨hi,rfl⟩:=h1;exact⟨i,hi,rfl,hs⟩
def Qx(C:List (List Sg))(s:Sg):Int:=match (DI C).find? (fun e=>Bc s e.1)with|some e=>e.2|none=>0
theorem Af7{C:List (List Sg)}{s:Sg}(h:s∈C.flatten):∃i,∃hi:i<C.length,Qx C s=(i:Int)/\s∈C[i]:=by
 unfold Qx;rw [←zt,List.mem_map]at h;obtain⟨e,he,rfl⟩:=h
 cases hf:(DI C).find? (fun x=>Bc e.1 x.1)with
 | none=>
  rw [List.find?_eq_none]at hf;exact absurd (Ls.2 rfl) (hf e he)
 | some x=>obtain⟨i,hi,h1,h2⟩:=AlO (List.mem_of_find?_eq_some hf);have h3:=List.find?_some hf;rw [Ls]at h3;exact⟨i,hi,h1,h3▸h2⟩
def findNext(f:Nat→Int)(C:List (List Sg)):Option (Sg×Rat)→Int
 | none=>-1
 | some x=>f (Qx C x.1).toNat
def CE(W:List Sg)(C:List (List Sg)):Nat→Nat→Int
 | 0,_=>-1
 | n+1,i=>
  if 0<MV (C.getD i [])then (i:Int)
  else findNext (fun j=>CE W C n j) C (Ef (aOf (C.getD i [])) W)
where aOf:List Sg→Pt
 | []=>⟨0,0⟩
 | s::_=>s.a
def leftOf(W:List Sg)(X:Rat):Nat:=W.countP (fun s=>decide (s.a.x<X))
theorem uS{α:Type}{p q:α→Bool} : ∀{l:List α},(∀x∈l,p x=true→q x=true)→(∃x∈l,q x=true/\p x=false)→l.countP p<l.countP q
 | [],_,h=>by obtain⟨x,hx,_⟩:=h;cases hx
 | a::l,h1,h2=>by
  have hle:l.countP p<=l.countP q:=List.countP_mono_left (fun x hx=>h1 x (List.mem_cons_of_mem _ hx));obtain⟨x,hx,hq,hp⟩:=h2
  rcases List.mem_cons.1 hx with rfl|hx
  ·rw [List.countP_cons,List.countP_cons,hq,hp];simp;omega
  ·have:=uS (fun x hx=>h1 x (List.mem_cons_of_mem _ hx)) ⟨x,hx,hq,hp⟩;have ha:=h1 a List.mem_cons_self;rw [List.countP_cons,List.countP_cons]
   cases FU:p a
   ·cases q a<;>simp<;>omega
   ·rw [ha FU];simp;omega
theorem sE{c:List Sg}(h:0<c.length):CE.aOf c=c[0].a:=by
 cases c with
 | nil=>simp at h
 | cons s c=>rfl
theorem AgD{W U:List Sg}{C:List (List Sg)}(hC:VM W U C)(hall:∀s∈W,s∈U)(hG:L0 W){i:Nat}(hi:i<C.length){x:Sg×Rat}(hb:Ef (CE.aOf C[i]) W=some x) :
  x.1∈W/\∃j,∃hj:j<C.length,Qx C x.1=(j:Int)/\leftOf W (CE.aOf C[j]).x<leftOf W (CE.aOf C[i]).x:=by
 have h1:=dL hG (CE.aOf C[i]) W (fun _ h=>h);rw [hb]at h1;obtain⟨s,Dc⟩:=x;obtain⟨hs,hc,-,-⟩:=h1;obtain⟨j,hj,e,hm⟩:=Af7 (C:=C) (s:=s) (by rw [hC.flat];exact hall s hs);refine⟨hs,j,hj,e,?_⟩;have hl0:0<C[j].length:=List.length_pos_iff.2 (hC.ne _ (Asg hj));have hle:=hC.least _ (Asg hj) s hm hl0;rw [Rs]at hle;rw [sE hl0];refine uS (fun y _ hy=>?_) ⟨s,hs,?_,?_⟩
 ·simp only [decide_eq_true_eq]at hy ⊢;have:=hc.1
  grind
 ·simp only [decide_eq_true_eq];exact hc.1
 ·simp only [decide_eq_false_iff_not];grind
theorem wJ(s:Sg):∀(L:List (Sg×Int)) (k:Nat),(L.mapIdx (fun i e=>(e.1,Value.int .i64 e.2,i+k))).find? (fun e=>Bc s e.1)=none/\L.find? (fun e=>Bc s e.1)=none∨∃x e,(L.mapIdx (fun i e=>(e.1,Value.int .i64 e.2,i+k))).find? (fun e=>Bc s e.1)=some x/\L.find? (fun e=>Bc s e.1)=some e/\x.2.1=.int .i64 e.2
 | [],_=>.inl ⟨by simp,by simp⟩
 | e::L,k=>by
  rw [List.mapIdx_cons,List.find?_cons,List.find?_cons]
  cases h:Bc s e.1
  ·have:=wJ s L (k+1)
   simpa only [Nat.add_assoc,Nat.add_comm 1 k]using this
  ·exact .inr ⟨_,e,rfl,rfl,rfl⟩
theorem named{a b:World}(_:Aa a b):∃x,x=b:=⟨b,rfl⟩
def IH(s:Sg)(L:List (Sg×Int)):Int:=match L.find? (fun e=>Bc s e.1)with|some e=>e.2|none=>0
theorem AkE(s:Sg)(L:List (Sg×Int)):Le Bc (.int .i64 0) s (stamp L)=.int .i64 (IH s L):=by
 have h:=wJ s L 0;simp only [Nat.add_zero]at h;unfold Le IH stamp
 rcases h with⟨h1,h2⟩|⟨x,e,h1,h2,h3⟩
 ·rw [h1,h2]
 ·rw [h1,h2];exact h3
theorem AaP(s:Sg)(L:List (Sg×Int)){b:Nat}{W:World}(hb:W.heap[b]?=some (.map (AK Ax (stamp L)).toArray L.length)) :
  (Instr.lookup 108 (.map (some b)) (Ax s) false).run Tryz.prog W=.ok (.int .i64 (IH s L)) W:=by
 rw [ZQ mJ s (stamp L) hb,AkE]
structure S4(B:Nat)(w:World)(r b1 b2:Nat)(L:List (Sg×Int))(E:List (Pt×Value×Nat))(R0:List (Pt×List Pt))(bc bn bf ba bm:Nat)(A:Option Addr)(cap:Nat)(C:List (List Sg)):Prop where
 net:Cl B w r b1 b2 L E R0
 cyc:MC w A cap C
 cc:w.cell? ⟨bc,0,none⟩=some (.slice A C.length cap)
 cn:w.cell? ⟨bn,0,none⟩=some (.pointer (some ⟨r,0,none⟩))
 cf:w.cell? ⟨bf,0,none⟩=some (.func (.func 199) #[] #[.pointer (some ⟨bc,0,none⟩),.pointer (some ⟨bn,0,none⟩),.pointer (some ⟨bf,0,none⟩),.pointer (some ⟨ba,0,none⟩)])
 ca:w.cell? ⟨ba,0,none⟩=some (.map (some bm))
 m:w.heap[bm]?=some (.map (AK Ax (stamp (DI C))).toArray (DI C).length)
theorem S4.ext{B:Nat}{w w':World}{r b1 b2:Nat}{L:List (Sg×Int)}{E:List (Pt×Value×Nat)}{R0:List (Pt×List Pt)}{bc bn bf ba bm:Nat}{A:Option Addr}{cap:Nat}{C:List (List Sg)}(h:S4 B w r b1 b2 L E R0 bc bn bf ba bm A cap C)(hx:Aa w w'):S4 B w' r b1 b2 L E R0 bc bn bf ba bm A cap C:=
 ⟨h.net.ext hx,h.cyc.ext hx,hx.cellS h.cc,hx.cellS h.cn,hx.cellS h.cf,hx.cellS h.ca,(hx.block _ (Asd h.m)).trans h.m⟩
structure Sp(W:List Sg)(U:List Sg)(C:List (List Sg)):Prop where
 ok:VM W U C
 all:∀s∈W,s∈U
 good:L0 W
 grid:∀s∈W,MO s
 len:W.length<=100000
theorem Abq{α:Type} : ∀{l:List (List α)} {i:Nat} (h:i<l.length),l[i].length<=l.flatten.length
 | a::l,0,_=>by simp
 | a::l,i+1,h=>by have:=Abq (l:=l) (i:=i) (by simpa using h);simp only [List.getElem_cons_succ,List.flatten_cons,List.length_append];omega
theorem Sp.row{W U:List Sg}{C:List (List Sg)}(h:Sp W U C){i:Nat}(hi:i<C.length):(∀s∈C[i],MO s)/\0<C[i].length/\C[i].length<=100000:=by
 refine⟨fun s hs=>h.grid s (h.ok.sub s ?_),List.length_pos_iff.2 (h.ok.ne _ (Asg hi)),?_⟩
 ·rw [←h.ok.flat];exact List.mem_flatten.2 ⟨_,Asg hi,hs⟩
 ·have h1:=Abq hi;rw [h.ok.flat]at h1;have h2:=Ld h.ok.nd h.ok.sub;have:=h.len;omega
theorem AgC{B:Nat}{r b1 b2:Nat}{L:List (Sg×Int)}{E:List (Pt×Value×Nat)}{R0:List (Pt×List Pt)}{bc bn bf ba bm:Nat}{A:Option Addr}{cap:Nat}{C:List (List Sg)}{W U:List Sg}(hW:W=L.map (·.1))(hG:Sp W U C) :
  ∀(n i:Nat) (hi:i<C.length),leftOf W (CE.aOf C[i]).x<n→∀w,Ai w→S4 B w r b1 b2 L E R0 bc bn bf ba bm A cap C→
  Calls Tryz.prog 199 #[.int .i64 (i:Nat),.pointer (some ⟨bc,0,none⟩),.pointer (some ⟨bn,0,none⟩),.pointer (some ⟨bf,0,none⟩),.pointer (some ⟨ba,0,none⟩)] w (AQ (CE W C n i) w):=by
 intro n
 induction n with
 | zero=>intro i hi hlt;omega
 | succ n ih=>
  intro i hi hlt w hw h;obtain⟨g1,g2,g3⟩:=hG.row hi;obtain⟨bA,oA,A',c',rfl,hcell,AU,hc1,hc2⟩:=h.cyc.row i hi;have sS:=Aez C[i] A' c' g1 g2 g3 hc1 hc2;have ar:=fun (w1:World) (hw1:Ai w1) (hE:Aa w w1)=>sS w1 hw1 (AU.ext hE);clear sS;have sg:=Lo (MV C[i]);have hd:=fun x=>AgD hG.ok hG.all hG.good hi (x:=x);have ip:C.getD i []=C[i]:=by rw [List.getD_eq_getElem?_getD,Asl hi];rfl
  have Uc:CE W C (n+1) i=if 0<MV C[i] then (i:Int)else findNext (CE W C n) C (Ef (CE.aOf C[i]) W):=by rw [CE,ip]
  have hc0:(0:Int)<(c':Int):=(by omega);have hl0:(0:Int)<(C[i].length:Int):=(by omega);have KR:(0:Int)<=(i:Int):=(by omega);have Pg:(i:Int)<(C.length:Int):=(by omega);have FU:=sE g2;have kL:=(g1 _ (Asg g2)).a;rw [←FU]at kL;have bl:=fun (w1:World) (hw1:Ai w1) (h1:Cl B w1 r b1 b2 L E R0)=>AeH h1 (CE.aOf C[i]) (k:=200) (fun e he=>(hG.grid e.1 (by rw [hW];exact List.mem_map_of_mem he)).sz (by omega)) (kL.sz (by omega)) (by omega) (by omega) hw1
  have AS:∀l:List Sg,l.Perm (L.map (·.1))→Ef (CE.aOf C[i]) l=Ef (CE.aOf C[i]) W:=fun l hl=>by rw [←hW]at hl;exact AeI hG.good _ hl (fun t ht=>hl.mem_iff.1 ht)
  have oo:=RH AU g2;have hsp:=ZU (MV C[i])
  have I8:∀x,Ef (CE.aOf C[i]) W=some x→∃j,∃hj:j<C.length,IH x.1 (DI C)=(j:Int)/\(Qx C x.1).toNat=j/\leftOf W (CE.aOf C[j]).x<n:=by intro x hx;obtain⟨-,j,hj,e,hl⟩:=hd x hx;exact⟨j,hj,e,by rw [e];omega,by omega⟩
  obtain⟨st,hst⟩:=AcG (Ef (CE.aOf C[i]) W);rw [←hst]at Uc AS I8;obtain⟨p,hp⟩:=AcG (CE.aOf C[i]);rw [←hp]at bl AS;rw [←FU,←hp]at oo;obtain⟨q,hq⟩:=AcG (MV C[i]);rw [←hq]at ar sg hsp Uc;obtain⟨m,hm⟩:=AcG (C[i].length);rw [←hm]at ar hl0 hcell;obtain⟨z,hz⟩:=AcG (CE W C (n+1) i);rw [←hz]at Uc ⊢;obtain⟨bB,oB,hAB,k1,k2,-,-⟩:=oo;subst hAB;obtain⟨sq,Jy⟩:=AcG (AN q);rw [←Jy]at sg hsp;have aZ:=Asb Uc;have VR:=Asb I8;have VO:=Asb AS;have m1:=h.cc;have m2:=h.cn;clear Uc I8 AS hp hq hm hz FU kL hd hst Jy g1 g2 g3 ip AU hlt;rw [Nat.zero_mul,Nat.add_zero]at k1 k2;go_enter Tryz.func199,Tryz.ntmps199;(go_wp2_with fail);(with_reducible refine(ar w hw (Aa.refl w)).mono ?_);rintro e w1 ⟨rfl,hx1⟩;(go_wp2_with fail);(with_reducible refine(sg _).mono ?_);rintro e w2 ⟨rfl,hx2⟩;have BB:=hx1.trans hx2;replace m1:=BB.cellS m1;replace m2:=BB.cellS m2;replace hcell:=BB.cellS hcell;replace k1:=BB.cellS k1;replace k2:=BB.cellS k2;clear ar sg hx1 hx2;by_cases Fu:0<q
  ·have Aj0:0<sq:=hsp.2 Fu;have hz:z=(i:Int):=(by rw [aZ.out,if_pos Fu]);subst hz;go_wp2;go_ret;exact⟨rfl,BB⟩
  ·have Aj0:¬0<sq:=fun h=>Fu (hsp.1 h);have HZ:=Asb (show z=findNext (CE W C n) C st by rw [aZ.out,if_neg Fu]);obtain⟨c0,c1,c2,c3,hc⟩:=dP st;obtain⟨eJ,jF⟩:=AcG st.isSome;have hw2:=hw.ext BB;have h2:=h.ext BB
   have bl':∀w',Aa w2 w'→Calls Tryz.prog 185 #[.pointer (some ⟨r,0,none⟩),.agg #[S (R p.x),S (R p.y)]] w' (Bg (.tuple #[.agg #[S c0,S c1,S c2,S c3],.bool eJ]) w'):=fun w' hx=>(bl w' (hw2.ext hx) (h2.net.ext hx)).mono fun e w'' ⟨l,hl,he,hx'⟩=>⟨by rw [he,VO.out l hl];unfold WM;rw [hc,jF],hx'⟩
   have qL:=Asb jF;clear aZ hsp Fu bl jF
   have SO:∀w',Aa w2 w'→(w'.cell? ⟨bc,0,none⟩=some (.slice (some ⟨bA,oA,none⟩) C.length cap)/\w'.cell? ⟨bn,0,none⟩=some (.pointer (some ⟨r,0,none⟩))/\w'.cell? ⟨bA,oA+i,none⟩=some (.slice (some ⟨bB,oB,none⟩) m c')/\w'.cell? ⟨bB,oB,none⟩=some (S (R p.x))/\w'.cell? ⟨bB,oB+1,none⟩=some (S (R p.y))):=fun w' h=>⟨h.cellS m1,h.cellS m2,h.cellS hcell,h.cellS k1,h.cellS k2⟩
   have X:Aa w2 w2:=Aa.refl w2;have e0:(0:Int)<(m:Int):=hl0;have e00:0<m:=by omega
   go_upto_region 3 with fail
   go_cut [7,8] (fun v7 v8 wx=>∃b,v7=.pointer (some ⟨b,0,none⟩)/\v8=.bool eJ/\wx.heap[b]?=some (.cells #[S c0,S c1,S c2,S c3] 183)/\Aa w2 wx)
   case first=>
    go_region_held3 (fun w'=>w'.cell? ⟨bc,0,none⟩=some (.slice (some ⟨bA,oA,none⟩) C.length cap)/\w'.cell? ⟨bn,0,none⟩=some (.pointer (some ⟨r,0,none⟩))/\w'.cell? ⟨bA,oA+i,none⟩=some (.slice (some ⟨bB,oB,none⟩) m c')/\w'.cell? ⟨bB,oB,none⟩=some (S (R p.x))/\w'.cell? ⟨bB,oB+1,none⟩=some (S (R p.y)))
     (first|with_reducible exact SO _ X|with_reducible exact SO _ X.drew|with_reducible exact SO _ (X.alloc _)|with_reducible exact SO _ (X.alloc _).drew|exact SO _ ((((X.setCell (Asf _) _).setCell (Asf _) _).setCell (Asf _) _).setCell (Asf _) _)|exact SO _ (((((X.alloc _).setCell X.size _).setCell X.size _).setCell X.size _).setCell X.size _))
     (first|((with_reducible refine(bl' _ (by first|exact X|exact X.alloc _|exact X.drew|exact(X.alloc _).drew)).mono ?_);rintro e w5 ⟨rfl,Ae⟩;(first|(have Z:=(Ae.block _ (Asd (Ase _ _))).trans (Ase _ _))|skip);replace X:Aa w2 w5:=(by first|exact X.trans Ae|exact(X.alloc _).trans Ae|exact X.drew.trans Ae|exact(X.alloc _).drew.trans Ae);(first|(have y1:=Ab (o:=0) Z rfl;have y2:=Ab (o:=1) Z rfl;have y3:=Ab (o:=2) Z rfl;have y4:=Ab (o:=3) Z rfl;have z1:=An (o:=0) Z;have z2:=An (o:=1) Z;have z3:=An (o:=2) Z;have z4:=An (o:=3) Z)|skip)))
    all_goals go_wp2
    all_goals go_meet
    all_goals first
     | exact⟨w5.heap.size,rfl,rfl,by unfold S;exact Ase w5 _,X.alloc _⟩
     | exact⟨w2.heap.size,rfl,rfl,by unfold S;exact Qn _ _ _ _ Z,(((X.setCell (p:=⟨w2.heap.size,0,none⟩) (Asf _) _).setCell (p:=⟨w2.heap.size,1,none⟩) (Asf _) _).setCell (p:=⟨w2.heap.size,2,none⟩) (Asf _) _).setCell (p:=⟨w2.heap.size,3,none⟩) (Asf _) _⟩
   case rest=>
    obtain⟨b,rfl,rfl,As,Dz⟩:=hcut;obtain⟨wx,rfl⟩:=named Dz;have Nn:=BB.trans Dz;have XH:=h.ext Nn;have hwc:=hw.ext Nn;clear SO X m1 m2 hcell k1 k2
    cases eJ
    ·have hz:z = -1:=by
      rw [HZ.out]
      cases st with
      | none=>rfl
      | some x=>have:=qL.out;cases this
     subst hz;go_wp2;go_ret;exact⟨rfl,Nn⟩
    ·obtain⟨x,rfl⟩:∃x,st=some x:=by
      cases st with
      | none=>have:=qL.out;cases this
      | some x=>exact⟨x,rfl⟩
     obtain⟨j,hj,hl,hjn,hlt⟩:=VR.out x rfl;have hz:z=CE W C n j:=(by rw [HZ.out];show CE W C n (Qx C x.1).toNat=_;rw [hjn]);have hq:=fun (q:Ad wx)=>AaP x.1 (DI C) (XH.ext q.h).m;rw [hl]at hq;have hcc:#[S c0,S c1,S c2,S c3]=(#[S (R x.1.a.x),S (R x.1.a.y),S (R x.1.b.x),S (R x.1.b.y)]:Array Value):=(by rw [←hc];rfl);rw [hcc]at As;have q1:∀q:Ad wx,q.w.cell? ⟨bf,0,none⟩=some (.func (.func 199) #[] #[.pointer (some ⟨bc,0,none⟩),.pointer (some ⟨bn,0,none⟩),.pointer (some ⟨bf,0,none⟩),.pointer (some ⟨ba,0,none⟩)]):=Ad.cell XH.cf;have q2:∀q:Ad wx,q.w.cell? ⟨ba,0,none⟩=some (.map (some bm)):=Ad.cell XH.ca;have q3:∀q:Ad wx,q.w.cell? ⟨b,0,none⟩=some (S (R x.1.a.x)):=Ad.cell (Ab As rfl);have q4:∀q:Ad wx,q.w.cell? ⟨b,1,none⟩=some (S (R x.1.a.y)):=Ad.cell (Ab As rfl);have q5:∀q:Ad wx,q.w.cell? ⟨b,2,none⟩=some (S (R x.1.b.x)):=Ad.cell (Ab As rfl);have q6:∀q:Ad wx,q.w.cell? ⟨b,3,none⟩=some (S (R x.1.b.y)):=Ad.cell (Ab As rfl);have cs:=fun (q:Ad wx)=>ih j hj hlt q.w (hwc.ext q.h) (XH.ext q.h);rw [←hz]at cs;unfold Ax at hq;clear hc hz hl hjn hlt VR VO HZ As hcc ih
     go_upto_region 6 with fail
     refine Bi (by kernel_rfl) (by kernel_rfl) ?_
     repeat (go_big_quiet_step (first|(with_reducible refine D7 (cs _))|(go_simp;with_reducible refine D7 (cs _))))
     refine wpQuiet_nil ?_;rintro _ ⟨q,rfl⟩;go_wp2;go_ret;exact⟨rfl,Nn.trans q.h⟩
def RP(W:List Sg)(C:List (List Sg)):List Int:=(List.range C.length).map (CE W C (W.length+1))
structure Fg where
 ok:Bool
 op:Bool
 face:List (Int×Int)
 seen:List Bool
def Ee(r left:Int)(st:Fg):Fg:=
 match II r st.face with
 | some old=>⟨st.ok && decide (old=left),st.op,st.face,st.seen⟩
 | none=>
  if left<0 then ⟨false,true,st.face ++ [(r,left)],st.seen⟩
  else ⟨st.ok && !(st.seen.getD left.toNat false),st.op,st.face ++ [(r,left)],st.seen.set left.toNat true⟩
def Ja(L:List (Sg×Int))(r:Int)(st:Fg)(c:List Sg):Fg:=c.foldl (fun st s=>Ee r (IH s L) st) st
def Iz(L:List (Sg×Int))(l:List (List Sg×Int))(st:Fg):Fg:=l.foldl (fun st cr=>Ja L cr.2 st cr.1) st
def Jb(nf:Nat):Fg:=⟨true,false,[(-1,-1)],List.replicate nf false⟩
def Qj(L:List (Sg×Int))(nf:Nat)(C:List (List Sg))(rg:List Int):Fg:=Iz L (C.zip rg) (Jb nf)
theorem Aeg(r left:Int)(st:Fg):(Ee r left st).seen.length=st.seen.length:=by
 unfold Ee
 split
 ·rfl
 ·split
  ·rfl
  ·simp
theorem Aee(L:List (Sg×Int))(r:Int)(st:Fg)(c:List Sg)(s:Sg):Ja L r st (c ++ [s])=Ee r (IH s L) (Ja L r st c):=by simp [Ja]
theorem Aef(L:List (Sg×Int))(l:List (List Sg×Int))(st:Fg)(x:List Sg×Int):Iz L (l ++ [x]) st=Ja L x.2 (Iz L l st) x.1:=by simp [Iz]
theorem sL(L:List (Sg×Int))(r:Int)(c:List Sg):∀st:Fg,(Ja L r st c).seen.length=st.seen.length:=by
 induction c with
 | nil=>intro st;rfl
 | cons s c ih=>intro st;show (Ja L r (Ee r (IH s L) st) c).seen.length=_;rw [ih,Aeg]
theorem sM(L:List (Sg×Int))(l:List (List Sg×Int)):∀st:Fg,(Iz L l st).seen.length=st.seen.length:=by
 induction l with
 | nil=>intro st;rfl
 | cons x l ih=>intro st;show (Iz L l (Ja L x.2 st x.1)).seen.length=_;rw [ih,sL]
def SD(L:List (Sg×Int))(nf:Nat)(C:List (List Sg))(rg:List Int):Bool:=(Qj L nf C rg).ok && !((Qj L nf C rg).seen.contains false)
end Go.Proofs.YtdaefncphfeaeaaGreatDoor
