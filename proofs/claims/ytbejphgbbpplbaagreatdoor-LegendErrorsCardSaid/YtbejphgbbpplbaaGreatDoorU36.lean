/- U36: ShBT ShBU. -/
import Derived.Test.YtbejphgbbpplbaaGreatDoorU34
set_option maxRecDepth 100000
set_option maxHeartbeats 16000000
namespace Go.Proofs.YtbejphgbbpplbaaGreatDoor
open Go.RowKit Kl Go.Shelf
def B7(units:List Bs)(nm:List (Int×Int))(fa:List Bs)(f:Int):Int×List (Int×Int)×List Bs:=match CU f nm with
 | some z=>(z,nm,fa)
 | none=>((fa.length:Int),nm ++ [(f,(fa.length:Int))],fa ++ [units.getD f.toNat []])
structure Hl where
 nm:List (Int×Int)
 fa:List Bs
 ed:List AD
def MK(units:List Bs)(idx:List (Pt×Int))(L:List (Sg×Int))(st:Hl)(s:Sg):Hl:=
 ⟨(B7 units (B7 units st.nm st.fa (AL s L)).2.1 (B7 units st.nm st.fa (AL s L)).2.2 (AL (AY s) L)).2.1,(B7 units (B7 units st.nm st.fa (AL s L)).2.1 (B7 units st.nm st.fa (AL s L)).2.2 (AL (AY s) L)).2.2,
  st.ed ++ [⟨Hb s.a idx,Hb s.b idx,(B7 units st.nm st.fa (AL s L)).1,(B7 units (B7 units st.nm st.fa (AL s L)).2.1 (B7 units st.nm st.fa (AL s L)).2.2 (AL (AY s) L)).1⟩]⟩
def Lf(units:List Bs)(idx:List (Pt×Int))(L:List (Sg×Int))(st:Hl)(s:Sg):Hl:=if AX s.a s.b<0 then MK units idx L st s else st
def Jf(units:List Bs)(idx:List (Pt×Int))(L:List (Sg×Int))(ws:List Sg):Hl:=ws.foldl (Lf units idx L) ⟨[(-1,-1)],[],[]⟩
def Ci(l:List Pt):List (Pt×Int):=l.zipIdx.map fun e=>(e.1,(e.2:Int))
theorem Aj2(l:List Pt)(p:Pt):Ci (l ++ [p])=Ci l ++ [(p,(l.length:Int))]:=by simp [Ci,List.zipIdx_append]
theorem Aj1(l:List Pt):(Ci l).map (·.1)=l:=by
 unfold Ci;rw [List.map_map];have:((fun x:Pt×Int=>x.1) ∘ fun e:Pt×Nat=>(e.1,(e.2:Int)))=Prod.fst:=rfl;rw [this,List.zipIdx_map_fst]
theorem lP(units:List Bs)(nm:List (Int×Int))(fa:List Bs)(f:Int):(B7 units nm fa f).2.2.length<=fa.length+1:=by
 unfold B7;split<;>simp
theorem lO(units:List Bs){nm:List (Int×Int)}(fa:List Bs)(f:Int)(h:CU (-1) nm=some (-1)):CU (-1) (B7 units nm fa f).2.1=some (-1):=by
 unfold B7
 split
 ·exact h
 ·unfold CU at h ⊢;simp only;rw [List.find?_append]
  cases hq:nm.find? (fun e=>(-1:Int) == e.1)with
  | none=>rw [hq]at h;cases h
  | some e=>rw [hq]at h;simpa using h
structure RQ(k:Nat)(st:Hl):Prop where
 h:CU (-1) st.nm=some (-1)
 fa:st.fa.length<=2*k
 ed:st.ed.length<=k
theorem RQ.step{k:Nat}{st:Hl}(h:RQ k st)(units:List Bs)(idx:List (Pt×Int))(L:List (Sg×Int))(s:Sg):RQ (k+1) (Lf units idx L st s):=by
 unfold Lf
 split
 ·unfold MK;refine⟨lO _ _ _ (lO _ _ _ h.h),?_,?_⟩
  ·have h1:=lP units st.nm st.fa (AL s L);have h2:=lP units (B7 units st.nm st.fa (AL s L)).2.1 (B7 units st.nm st.fa (AL s L)).2.2 (AL (AY s) L);have:=h.fa;simp only;omega
  ·have:=h.ed;simp only [List.length_append,List.length_singleton];omega
 ·exact⟨h.h,by have:=h.fa;omega,by have:=h.ed;omega⟩
theorem Aez(units:List Bs)(idx:List (Pt×Int))(L:List (Sg×Int))(ws:List Sg)(s:Sg):Jf units idx L (ws ++ [s])=Lf units idx L (Jf units idx L ws) s:=by simp [Jf]
theorem wW{c:Cn}(ok:c.Ok){E F:Value}{nm:List (Int×Int)}{Ag:List Bs}{eds:List AD}{w:World}(h:Cs c E F nm Ag eds w)(hh:CU (-1) nm=some (-1))(f:Int)(hf0:-1<=f)(OJ:f<(c.units.length:Int))(D2:c.units.length<=100000)(DJ:Ag.length<=100000) :
  Calls Tryz.prog 187 #[.int .i64 f,.pointer (some ⟨c.bx,0,none⟩),.pointer (some ⟨c.bm,0,none⟩),.pointer (some ⟨c.bu,0,none⟩)] w (PD w c.B c.bx c.bn c.bm c.bu c.U c.cu c.units c.P E F (B7 c.units nm Ag f).1 (B7 c.units nm Ag f).2.1 (B7 c.units nm Ag f).2.2):=by
 cases hl:CU f nm with
 | some z=>
  have e:B7 c.units nm Ag f=(z,nm,Ag):=(by unfold B7;rw [hl]);rw [e];exact Agx h.fc f z hl
 | none=>
  have hne:f≠-1:=(by rintro rfl;rw [hh]at hl;cases hl);obtain⟨m,rfl⟩:∃m:Nat,f=(m:Int):=⟨f.toNat,by omega⟩;have hm:m<c.units.length:=by omega
  have e:B7 c.units nm Ag (m:Int)=((Ag.length:Int),nm ++ [((m:Int),(Ag.length:Int))],Ag ++ [c.units[m]]):=by unfold B7;rw [hl];simp [List.getD_eq_getElem?_getD,Asf hm]
  rw [e];exact Agw h.fc h.size ok.bn ok.bm m hl hm D2 DJ
def pG(w:World)(m:Bz)(Ag:List Bs)(e:Ending)(w':World):Prop:=
 ∃A Bk F c d g,e=.returned (Bv A Bk F m c d g)/\JJ m c d g/\Ae w' A (flat (Ak m.pts))/\Ae w' Bk (B6 m.eds)/\Ae w' F (Ag.map S)/\m.nf=Ag.length/\Aa w w'
theorem Ael{w:World}{b:Nat}{a0 a1 a2:Value}{t:TypeId}(v:Value)(h:w.heap[b]?=some (.cells #[a0,a1,a2] t)):(w.setCell ⟨b,0,none⟩ v).heap[b]?=some (.cells #[v,a1,a2] t):=by
 simp only [World.setCell,Array.getElem?_modify,h];simp
theorem Aep{w:World}{b o:Nat}{cs:Array Value}{t:TypeId}{fz:Nat×Nat}{v:Value}(h:w.heap[b]?=some (.cells cs t fz))(hc:w.cell? ⟨b,o,none⟩=some v):cs[o]?=some v:=by
 cases e:cs[o]? with
 | some u=>
  have h2:=hc;simp [World.cell?,h,e]at h2;rw [←h2]
 | none=>simp [World.cell?,h,e]at hc
theorem dA{l:List Pt}{j:Nat}(hj:j<(flat (Ak l)).length):∃s,(flat (Ak l))[j]=S s:=by
 have:=Asa hj;unfold flat at this;rw [List.mem_flatMap]at this;obtain⟨p,_,h⟩:=this;simp only [List.mem_cons,Asm,or_false]at h
 rcases h with h|h
 ·exact⟨_,h⟩
 ·exact⟨_,h⟩
theorem Alb{c:Cn}{E F:Value}{nm:List (Int×Int)}{Ag:List Bs}{eds:List AD}{w:World}(_:Cs c E F nm Ag eds w):∃x,x=w:=⟨w,rfl⟩
theorem NQ{w:World}{B:Nat}{e:TypeId}{s n c:Nat}{A:Option Addr}{xs:List Value}(hs:0<s)(h:w.ownsRow B e s (.slice A n c) n xs):Ae w A xs:=by
 obtain⟨A',c',e',h1,-,-⟩:=Ae.of_own' hs h;simp only [Value.slice.injEq]at e';rw [e'.1];exact h1
theorem yg{B B':Nat}{w w':World}{e:TypeId}{s n:Nat}{v:Value}{xs:List Value}(h:w.ownsRow B' e s v n xs)(hk:KB B w w')(h1:e≠36)(h2:e≠9)(h3:e≠126):w'.ownsRow B' e s v n xs:=by
 refine⟨h.1,?_⟩
 rcases h.2 with h'|⟨g,cap,cur,e1,e2,hgb,e4⟩
 ·exact .inl h'
 ·exact .inr ⟨g,cap,cur,e1,e2,hk.kp g cur e (0,0) h1 h2 h3 hgb,e4⟩
theorem Aj7{pts:List Pt}(Cr:pts.Nodup){k:Nat}(hk:k<pts.length):∀e∈Ci (pts.take k),An pts[k] e.1=false:=by
 intro e he
 have h1:e.1∈pts.take k:=by
  have:=List.mem_map_of_mem (f:=(·.1)) he
  rwa [Aj1]at this
 refine Aab.2 fun h2=>?_;obtain⟨j,hj,h3⟩:=List.getElem_of_mem h1;rw [List.getElem_take]at h3;have hj':j<k:=(by rw [List.length_take]at hj;omega);have:=(List.getElem_inj (h₀:=by omega) (h₁:=hk) Cr).1 (h3.trans h2.symm);omega
theorem Ae0{w0 w:World}(hw:Al w0)(hx:Aa w0 w){B0 r b1 b2:Nat}{L:List (Sg×Int)}{E:List (Pt×Value×Nat)}{R0:List (Pt×List Pt)}(h:B5 B0 w r b1 b2 L E R0)
  (hz:∀e∈R0,Aq 1 e.1/\∀p∈e.2,Aq 1 p) (hlen:R0.length<=100000) (hrl:∀e∈R0,e.2.length<100000) (Cr:(R0.map (·.1)).Nodup) (hno:∀e∈R0,∀p q,e.2 = [p,q]→AI (Ai p e.1 q)≠0)
  (hL:∀e∈L,Gk 1 e.1) (hLl:L.length<=40000) (hback:∀e∈L,∃e'∈L,e'.1=AY e.1) (U:Option Addr) (cu:Nat) (units:List Bs) (hU:Ae w U (units.map S)) (LS:∀x,U=some x→x.block<w.heap.size) (D2:units.length<=100000)
  (OU:∀x∈L,-1<=x.2/\x.2<(units.length:Int)) {pts:List Pt} (OZ:pts=Fo (R0.map (·.1))) {ws:List Sg} (Pg:ws=BH (L.map (·.1))) {st:Hl} (hst:st=Jf units (Ci pts) L ws) :
  Calls Tryz.prog 112 #[.pointer (some ⟨r,0,none⟩),.slice U units.length cu] w (pG w ⟨pts,st.ed,st.fa.length⟩ st.fa):=by
 have hmm:=@run_makeMap Tryz.prog;have Ark:=ArX h.cell;have Aqp:=ArX h.left;have kj:pts.Nodup:=(by rw [OZ];exact(KH _).nodup_iff.2 Cr);have AiI:pts.length=R0.length:=(by rw [OZ,(KH _).length_eq];simp);have E1:=((Aa.refl w).alloc (.cells #[.slice U units.length cu] 23)).alloc (.cells #[.slice none 0 0,.slice none 0 0,.slice none 0 0] 36);have L1:=ArY w (.cells #[.slice U units.length cu] 23);have hbr:=ArY (w.alloc (.cells #[.slice U units.length cu] 23)) (.cells #[.slice none 0 0,.slice none 0 0,.slice none 0 0] 36);rw [Ash]at hbr;have ej:=(Below.heap_alloc (w.alloc (.cells #[.slice U units.length cu] 23)) (.cells #[.slice none 0 0,.slice none 0 0,.slice none 0 0] 36) w.heap.size (by simp)).trans L1;have lv:=Akc hw (hx.trans E1) (h.ext E1) hz hlen hrl Cr hno;have Ki:=h.ar.len;have Eo:=h.ar.keys;have AcI:=ArW (fun i (hi:i<E.length)=>(h.ar.row i hi (by rw [←Ki];exact hi)).2.1)
 have yD:∀e∈E,Aq 1 e.1:=fun e he=>by have:e.1∈R0.map (·.1):=(by rw [←Eo];exact List.mem_map_of_mem he);obtain⟨e',he',h1⟩:=List.mem_map.1 this;rw [←h1];exact(hz e' he').1
 have Ip:=ArW h;have HEZ:=ArW yD;have HST:=ArW hst;have MB:=ArW Pg;have Vo:=ArW OZ;have HKE:=ArW Eo;have PG:=ArW (show E.length=pts.length by omega);have HU:=ArW hU;have HU2:=ArW LS;have HL:=ArW hL;have HBK:=ArW hback;have qE:=ArW OU;have HPN:=ArW kj;have hpl:pts.length<=100000:=(by omega);clear L1 h yD hst Pg OZ Eo Ki hU LS hL hback OU kj AiI hz hlen hrl Cr hno;go_enter Tryz.func112,Tryz.ntmps112;have hs1:((w.alloc (.cells #[.slice U units.length cu] 23)).alloc (.cells #[.slice none 0 0,.slice none 0 0,.slice none 0 0] 36)).heap.size=w.heap.size+2:=by simp only [Ash]
 go_upto_region 1 with fail
 generalize (w.alloc (.cells #[.slice U units.length cu] 23)).alloc (.cells #[.slice none 0 0,.slice none 0 0,.slice none 0 0] 36)=W1 at *;(go_wp2_with fail);(with_reducible refine lv.mono ?_);rintro e w2 ⟨rfl,hx2⟩;clear lv;have BN:=E1.trans hx2;have eO:=(hx2.block _ (ArX ej)).trans ej;have hR2:=(hx2.block _ (ArX hbr)).trans hbr;have hs2:=hx2.size;have Kk:=Ip.out.ext BN;have m1:=Ab (o:=1) Kk.cell rfl;obtain⟨bm,CN⟩:=ArV w2.heap.size;have kp:=fun W=>rx (some b2) W;have E3:=(Aa.refl w2).alloc (.cells #[.slice none 0 0,.slice none 0 0,.slice none 0 0] 36);have EY:=ArY w2 (.cells #[.slice none 0 0,.slice none 0 0,.slice none 0 0] 36);have m3:=E3.cellS m1
 go_upto_region 3 with fail
 rw [←CN]at EY ⊢;generalize w2.alloc (.cells #[.slice none 0 0,.slice none 0 0,.slice none 0 0] 36)=W3 at *;have Cq:=BN.trans E3;have GK:=Ip.out.ext Cq;have AhG:w.heap.size+2<=bm:=(by omega);have dm:w.heap.size<=bm:=(by omega);have Lx:=(E3.block _ (ArX eO)).trans eO;have eI:=(E3.block _ (ArX hR2)).trans hR2;clear CN m1 Kk hx2 eO hR2 hs2;have E4:=(Aa.refl W3).alloc (.cells #[.map (some b2)] 132);have CH:=ArY W3 (.cells #[.map (some b2)] 132);have sk:=AaZ hw ((hx.trans Cq).trans E4) W3.heap.size b2 E AcI.out (ArX CH) (Ab CH rfl) (GK.ext E4).ar.blk HEZ.out (by have:=PG.out;omega);rw [HKE.out,←Vo.out,PG.out]at sk;(go_wp2_with fail);(with_reducible refine(kp _).mono ?_);rintro e w4 ⟨rfl,rfl⟩;(go_wp2_with fail);(with_reducible refine sk.mono ?_);rintro e w5 ⟨sv,rfl,Dp,Gn⟩;obtain⟨pA,pc,rfl,FY,AiE,AiF⟩:=Ae.of_own' (by omega) Dp;have P9:=E4.trans Gn;have FX:=(P9.block _ (ArX EY)).trans EY;have y0:=Ab (o:=0) FX rfl;have y1:=AB (o:=0) FX;have Tu:=(P9.block _ (ArX Lx)).trans Lx;have zA:=(P9.block _ (ArX eI)).trans eI;clear sk kp CH E4 Gn EY m3 Lx eI
 go_upto_region 5 with fail
 have dX:=Ael (.slice pA pts.length pc) FX;have Xs5:Aa W3 w5:=P9;have CL:=Cq.trans P9;have zK:Aa w (w5.setCell ⟨bm,0,none⟩ (.slice pA pts.length pc)):=CL.setCell (p:=⟨bm,0,none⟩) dm _;have yP:=BG (K:=fun k=>k=bm) Dp ((Ar.refl (fun k=>k=bm) w5).setCell (p:=⟨bm,0,none⟩) (.inl rfl) (.slice pA pts.length pc)) (fun k hk e=>by subst e;exact A8 Dp FX (by decide) hk);have EI:=(Aa.refl (w5.setCell ⟨bm,0,none⟩ (.slice pA pts.length pc))).alloc (.map #[] 0)
 have O7:Iv ((w5.setCell ⟨bm,0,none⟩ (.slice pA pts.length pc)).alloc (.map #[] 0)) w5.heap.size (Ci (pts.take 0)):=by have:=ArY (w5.setCell ⟨bm,0,none⟩ (.slice pA pts.length pc)) (.map #[] 0);rw [World.size_setCell]at this;exact this
 have Ls:=(EI.block _ (ArX dX)).trans dX;have BO:=zK.trans EI;have Qs:=Ao yP EI;have Qv:=(Da (w:=w5) (p:=⟨bm,0,none⟩) (v:=.slice pA pts.length pc) (show w.heap.size≠bm by omega)).trans Tu;have eJ:=(Da (w:=w5) (p:=⟨bm,0,none⟩) (v:=.slice pA pts.length pc) (show w.heap.size+1≠bm by omega)).trans zA;have WB:=(EI.block _ (ArX Qv)).trans Qv;have Na:=(EI.block _ (ArX eJ)).trans eJ;obtain⟨bi,IA⟩:=ArV w5.heap.size;rw [←IA]at O7 ⊢;have df:w.heap.size<=bi:=(by have:=CL.size;omega);generalize (w5.setCell ⟨bm,0,none⟩ (.slice pA pts.length pc)).alloc (.map #[] 0)=W6 at *;clear FX y0 y1 dX Xs5 CL zK yP EI FY P9 IA GK Cq Dp Tu zA Qv eJ;have z0:=Ab (o:=0) Ls rfl;have hl0:(0:Int)<=(pts.length:Int):=by omega
 go_upto_region 6 with fail
 clear z0
 go_loopw [27] (fun iv wr=>∃k:Nat,iv=.int .i64 (k:Nat)/\k<=pts.length/\Iv wr bi (Ci (pts.take k))/\Ar (fun q=>q=bi) W6 wr) (fun iv _=>pts.length-(intOf iv).toNat)
 case atStart=>exact⟨0,rfl,by omega,O7,Ar.refl _ _⟩
 case round=>
  obtain⟨k,rfl,hk,hI,hB⟩:=hrel;have eE:=BG Qs hB (fun k hk e=>by subst e;exact Y8 Qs O7 hk);have Lu:Ae wr pA (flat (Ak pts)):=NQ (by omega) eE;by_cases hkn:k<pts.length
  ·obtain⟨b,o,rfl,f1,f2⟩:=Ca Lu hkn;have hnew:=Aj7 HPN.out hkn
   have Cf:Ci (pts.take (k+1))=Ci (pts.take k) ++ [(pts[k],(k:Int))]:=by rw [Asd hkn,Aj2,List.length_take,Nat.min_eq_left (by omega)]
   obtain⟨p,hp⟩:=ArV (pts[k]);rw [←hp]at f1 f2 hnew Cf;have EA:=(Aa.refl wr).alloc (.cells #[S (R p.x),S (R p.y)] 94);have Aw:=ArY wr (.cells #[S (R p.x),S (R p.y)] 94);obtain⟨W8,hput,Kj,Nx,-⟩:=(hI.ext EA).put p hnew (k:Int);rw [←Cf]at Kj;unfold Af at hput;have hk0:(0:Int)<=(k:Int):=(by omega);have BX:(k:Int)<(pts.length:Int):=(by omega);have q1:=Ab (o:=0) Aw rfl;have q2:=Ab (o:=1) Aw rfl;have Gh:=ArW Cf;clear hp hnew Cf
   go_upto_region 8 with fail
   unfold S at Aw q1 q2 hput Nx EA;have EX:=(hB.ext EA).grown Nx (fun q e=>by cases e;exact .inl rfl);generalize wr.alloc (.cells #[.string ⟨(R p.x).toArray⟩,.string ⟨(R p.y).toArray⟩] 94)=V at *;clear Aw EA Nx;go_wp2;go_roundw
   case rel=>exact⟨k+1,by go_num,hkn,Kj,EX⟩
   case measure=>simp [intOf];omega
  ·have Bf:k=pts.length:=(by omega);subst Bf;have hd:decide (pts.length<pts.length)=false:=(by simp);have CO:decide ((pts.length:Int)<(pts.length:Int))=false:=(by simp);rw [List.take_length]at hI;have yJ:bm≠bi:=fun e=>ML Ls O7 e;have EZ:=(hB.block _ (ArX Ls) yJ).trans Ls;have Ng:=(hB.block _ (ArX WB) (fun e=>ML WB O7 e)).trans WB;have Qu:=(hB.block _ (ArX Na) (fun e=>ML Na O7 e)).trans Na;have BD:Aa w wr:=hB.toExt BO (fun q e=>by subst e;exact df);have dc:=ArX hI;have E9:=(Aa.refl wr).alloc (.map #[] 0);have yG:Gi (wr.alloc (.map #[] 0)) wr.heap.size []:=ArY wr (.map #[] 0);obtain⟨Ot,hput,dS,ik,jV⟩:=yG.put (-1) (-1) rfl;have M1:=(Aa.refl Ot).alloc (.cells #[.map (some wr.heap.size)] 212);have Ap:=ArY Ot (.cells #[.map (some wr.heap.size)] 212);rw [Ash]at jV;have Km:Ar (fun j=>j=wr.heap.size) wr Ot:=((Ar.refl _ wr).ext E9).grown ik (fun k e=>by cases e;exact .inl rfl);have Wq:Aa wr Ot:=Km.toExt (Aa.refl wr) (fun k e=>by subst e;exact ArZ _);have Oc:=Wq.trans M1
   go_upto_region 10 with fail
   go_upto_region 12 with fail
   rw [jV]at Ap;have dZ:Gi (Ot.alloc (.cells #[.map (some wr.heap.size)] 212)) wr.heap.size [(-1,-1)]:=(M1.block _ (ArX dS)).trans dS;have To:=(Oc.block _ (ArX EZ)).trans EZ;have zC:=(Oc.block _ (ArX Ng)).trans Ng;have Wv:=(Oc.block _ (ArX Qu)).trans Qu;have Lr:=hI.ext Oc;have yO:=Ao eE Oc;have Kn:=BD.trans Oc;have Wy:=ArX Qu;have AiT:=Kn.size;clear yG hput dS ik M1 Km Wq EZ Ng Qu hI eE BD E9 Lu hB Ls O7 BO Qs WB Na yJ;clear hmm jV Oc;generalize Ot.alloc (.cells #[.map (some wr.heap.size)] 212)=W11 at *;obtain⟨bn,Cm⟩:=ArV wr.heap.size;rw [←Cm]at Ap dZ dc Wy ⊢;clear Cm;have Tq:=Ip.out.ext Kn;have Lx:Ae W11 U (units.map S):=HU.out.ext Kn;have xW:w.heap.size+2<=W11.heap.size:=(by have:=ArX Wv;omega);obtain⟨c,hc⟩:=ArV (⟨w.heap.size+2,bn+1,bn,bm,w.heap.size,bi,r,b1,b2,U,cu,units,.slice pA pts.length pc,Ci pts,L⟩:Cn)
   have ok:c.Ok:=by subst hc;exact⟨show r<w.heap.size+2 by omega,show b1<w.heap.size+2 by omega,show w.heap.size+2<=bn by omega,show w.heap.size+2<=bm by omega,show bi≠bn by omega⟩
   have xY:Cs c (.slice none 0 0) (.slice none 0 0) [(-1,-1)] [] [] W11:=by subst hc;exact⟨⟨Ap,dZ,To,⟨rfl,.inl ⟨rfl,rfl⟩⟩,zC,Lx,fun x hx=>by have:=HU2.out x hx;simp only;omega⟩,⟨Tq.cell,Tq.left,Lr⟩,⟨rfl,.inl ⟨rfl,rfl⟩⟩,xW⟩
   have m11:=Ab (o:=0) Tq.cell rfl;have kw:=fun W=>lB (some b1) W;have Vb:=(Aa.refl W11).alloc (.cells #[.map (some b1)] 131);have CH:=ArY W11 (.cells #[.map (some b1)] 131);have sk:=nY hw ((hx.trans Kn).trans Vb) W11.heap.size b1 L (ArX CH) (Ab CH rfl) (Tq.ext Vb).left HL.out (by omega);rw [←MB.out]at sk;have hwl:ws.length=L.length:=by rw [MB.out,(JD _).length_eq];simp
   have pp:∀s∈ws,∃e∈L,e.1=s:=fun s hs=>by rw [MB.out]at hs;obtain⟨e,he,h1⟩:=List.mem_map.1 ((JD _).mem_iff.1 hs);exact⟨e,he,h1⟩
   rw [←hwl]at sk hLl;have ZI:=ArW pp;have HC:=ArW hc;clear hwl pp hc Ap dZ To zC Lr Lx;(go_wp2_with fail);(with_reducible refine(kw _).mono ?_);rintro e UU ⟨rfl,rfl⟩;(go_wp2_with fail);(with_reducible refine sk.mono ?_);rintro e w13 ⟨sv,rfl,hS13,Jm⟩;obtain⟨sA,sc,rfl,-,-,-⟩:=Ae.of_own' (by omega) hS13;have RS:=Vb.trans Jm;have Ahd:=xY.ext RS;have zI:=Kn.trans RS;have Ahp:=Ao yO RS;have Ahs:=(RS.block _ (ArX Wv)).trans Wv;have hf0:(⟨[(-1,-1)],[],[]⟩:Hl)=Jf units (Ci pts) L (ws.take 0):=rfl;have hk0:RQ 0 (⟨[(-1,-1)],[],[]⟩:Hl):=⟨rfl,ArZ _,ArZ _⟩;clear kw sk CH Vb Jm m11 xY Kn Tq yO Wv RS xW AhG dm df dc Wy AiT hd CO;have hl2:(0:Int)<=(ws.length:Int):=by omega
   go_upto_region 13 with fail
   go_loopw [46] (fun iv wr=>∃(k:Nat) (E F:Value) (s:Hl),iv=.int .i64 (k:Nat)/\k<=ws.length/\s=Jf units (Ci pts) L (ws.take k)/\RQ k s/\Cs c E F s.nm s.fa s.ed wr/\KB c.B w13 wr) (fun iv _=>ws.length-(intOf iv).toNat)
   case atStart=>exact⟨0,_,_,_,rfl,by omega,hf0,hk0,Ahd,KB.refl _ _⟩
   case round=>
    obtain⟨k,E,F,s,rfl,hk,hs,Ah,hC,hK⟩:=hrel;have Nf:=yg hS13 hK (by decide) (by decide) (by decide);by_cases hkn:k<ws.length
    ·obtain⟨b,o,rfl,f1,f2,f3,f4⟩:=NV (NQ (by omega) Nf) hkn;obtain⟨e1,L9,LA⟩:=ZI.out _ (Asa hkn);have hsz:Gk 1 ws[k]:=by rw [←LA];exact HL.out e1 L9
     have iV:-1<=AL ws[k] L/\AL ws[k] L<(units.length:Int):=by obtain⟨e2,Gv,h2⟩:=Yf (s:=ws[k]) (L:=L) (by rw [←LA];exact List.mem_map_of_mem L9);rw [h2];exact qE.out e2 Gv
     have iW:-1<=AL (AY ws[k]) L/\AL (AY ws[k]) L<(units.length:Int):=by obtain⟨e3,Kr,h3⟩:=HBK.out e1 L9;obtain⟨e2,Gv,h2⟩:=Yf (s:=AY ws[k]) (L:=L) (by rw [←LA,←h3];exact List.mem_map_of_mem Kr);rw [h2];exact qE.out e2 Gv
     have Cf:Jf units (Ci pts) L (ws.take (k+1))=Lf units (Ci pts) L s ws[k]:=by rw [Asd hkn,Aez,←hs]
     have N2:=Ah.step units (Ci pts) L ws[k];obtain⟨x,hxx⟩:=ArV (ws[k]);rw [←hxx]at f1 f2 f3 f4 hsz iV iW Cf N2;have Gh:=ArW Cf;have HS:=ArW hs;have AqK:(0:Int)<=(k:Int):=(by omega);have BX:(k:Int)<(ws.length:Int):=(by omega);have EA:=(Aa.refl wr).alloc (.cells #[S (R x.a.x),S (R x.a.y),S (R x.b.x),S (R x.b.y)] 155);have Aw:=ArY wr (.cells #[S (R x.a.x),S (R x.a.y),S (R x.b.x),S (R x.b.y)] 155);have BD:Aa w wr:=zI.trans_below hK.bl (by have:=HC.out;rw [this];simp only;omega);have Rt:=fun (V:World) (hV:Aa wr V)=>IO x.a x.b hsz.a hsz.b (by omega) (by omega) V (hw.ext ((hx.trans BD).trans hV));clear hxx Cf hs LA L9 e1
     go_upto_region 15 with fail
     unfold S at Aw EA;have WH:Kb (wr.alloc (.cells #[.string ⟨(R x.a.x).toArray⟩,.string ⟨(R x.a.y).toArray⟩,.string ⟨(R x.b.x).toArray⟩,.string ⟨(R x.b.y).toArray⟩] 155)) wr.heap.size x:=Aw;generalize wr.alloc (.cells #[.string ⟨(R x.a.x).toArray⟩,.string ⟨(R x.a.y).toArray⟩,.string ⟨(R x.b.x).toArray⟩,.string ⟨(R x.b.y).toArray⟩] 155)=V at *;obtain⟨C9,zX⟩:=ArV wr.heap.size;rw [←zX]at Aw WH ⊢;clear zX f1 f2 f3 f4;have y0:=Ab (o:=0) Aw rfl;have y1:=Ab (o:=1) Aw rfl;have y2:=Ab (o:=2) Aw rfl;have y3:=Ab (o:=3) Aw rfl;have p1:=Rt V EA;obtain⟨z,hz⟩:=ArV (AX x.a x.b);rw [←hz]at p1;unfold Af S at p1;(go_wp2_with fail);(with_reducible refine p1.mono ?_);rintro e w3 ⟨rfl,hx3⟩;have X3:=EA.trans hx3;have Wm:=hC.ext X3;have hK3:=hK.trans (KB.ext X3 hC.size);have hW3:Kb w3 C9 x:=(hx3.block _ (ArX WH)).trans WH;clear p1 Rt y0 y1 y2 y3 Aw WH;by_cases LI:z<0
     ·have hce:Lf units (Ci pts) L s x=MK units (Ci pts) L s x:=(by unfold Lf;rw [if_pos (by rw [←hz];exact LI)]);rw [hce]at N2;have JL:=ArW hce;have Xh:=Ah.fa;have TL:=Ah.ed;have Az:c.units=units:=(by rw [HC.out]);have cT:=fun (V:World) (F':Value) (h:Cs c E F' s.nm s.fa s.ed V)=>wW ok h Ah.h (AL x L) iV.1 (by rw [Az];exact iV.2) (by rw [Az];exact D2) (by omega);have Fe:=lP units s.nm s.fa (AL x L);have hh1:=lO units s.fa (AL x L) Ah.h;have wY:=fun (V:World) (F':Value) (h:Cs c E F' (B7 units s.nm s.fa (AL x L)).2.1 (B7 units s.nm s.fa (AL x L)).2.2 s.ed V)=>wW ok h hh1 (AL (AY x) L) iW.1 (by rw [Az];exact iW.2) (by rw [Az];exact D2) (by omega);rw [Az]at cT wY
      have wX:∀(V:World) (F':Value) (h:Cs c E F' s.nm s.fa s.ed V),Calls Tryz.prog 187 #[.int .i64 (AL x L),.pointer (some ⟨bn+1,0,none⟩),.pointer (some ⟨bm,0,none⟩),.pointer (some ⟨w.heap.size,0,none⟩)] V (PD V c.B c.bx c.bn c.bm c.bu c.U c.cu c.units c.P E F' (B7 units s.nm s.fa (AL x L)).1 (B7 units s.nm s.fa (AL x L)).2.1 (B7 units s.nm s.fa (AL x L)).2.2):=by intro V F' h;have t:=cT V F' h;rw [←Az]at t;rw [←Az];have hc:=HC.out;rw [show (bn+1)=c.bx by rw [hc],show bm=c.bm by rw [hc],show w.heap.size=c.bu by rw [hc]];exact t
      have Sp:=ArW Az;have HFM:=ArW wY;have Ql:=Wm.ext (Aa.refl w3).drew;have lk:=R7 x L (W:=w3.drew) (by have:=Ql.rd.left;rw [HC.out]at this;exact this);have XB:=Ql.rd.net;rw [HC.out]at XB;simp only at XB;have m1:=Ab (o:=0) XB rfl;have hwd:Kb w3.drew C9 x:=hW3;have g0:=Ab (o:=0) hwd rfl;have g1:=Ab (o:=1) hwd rfl;have g2:=Ab (o:=2) hwd rfl;have g3:=Ab (o:=3) hwd rfl;unfold AA at lk;have cS:=wX _ F Ql;have Ajp:w3.drew.heap[C9]?=some (.cells #[S (R x.a.x),S (R x.a.y),S (R x.b.x),S (R x.b.y)] 155 (0,0)):=hW3;clear cT wX Fe Az XB hwd hce;obtain⟨zl,hzl⟩:=ArV ((B7 units s.nm s.fa (AL x L)).1);rw [←hzl]at cS;have HZL:=ArW hzl;clear hzl
      go_upto_region 16 with fail
      go_cut [13] (fun v13 wx=>v13=.int .i64 zl/\∃F',Cs c E F' (B7 units s.nm s.fa (AL x L)).2.1 (B7 units s.nm s.fa (AL x L)).2.2 s.ed wx/\KB c.B w13 wx/\Kb wx C9 x)
      case first=>
       go_region_with ((with_reducible refine cS.mono ?_);rintro e w4 ⟨F4,rfl,hF4,Hw⟩)
       all_goals go_wp2
       all_goals go_meet
       all_goals (
        have Hz:=KB.named ok Ql Hw
        refine⟨rfl,F4,Ql.named ok (by rw [Sp.out]at hF4 ⊢;exact hF4) Hw,(hK3.trans (KB.ext (Aa.refl w3).drew Wm.size)).trans Hz,Hz.kp C9 _ _ _ (by decide) (by decide) (by decide) Ajp⟩)
      case rest=>
       obtain⟨rfl,F4,xZ,hK4,eX⟩:=hcut;obtain⟨W9,rfl⟩:=Alb xZ;have ig:=HFM.out
       have Xi:∀(V:World) (F':Value),Cs c E F' (B7 units s.nm s.fa (AL x L)).2.1 (B7 units s.nm s.fa (AL x L)).2.2 s.ed V→Calls Tryz.prog 187 #[.int .i64 (AL (AY x) L),.pointer (some ⟨c.bx,0,none⟩),.pointer (some ⟨c.bm,0,none⟩),.pointer (some ⟨c.bu,0,none⟩)] V (PD V c.B c.bx c.bn c.bm c.bu c.U c.cu c.units c.P E F' (B7 units (B7 units s.nm s.fa (AL x L)).2.1 (B7 units s.nm s.fa (AL x L)).2.2 (AL (AY x) L)).1 (B7 units (B7 units s.nm s.fa (AL x L)).2.1 (B7 units s.nm s.fa (AL x L)).2.2 (AL (AY x) L)).2.1 (B7 units (B7 units s.nm s.fa (AL x L)).2.1 (B7 units s.nm s.fa (AL x L)).2.2 (AL (AY x) L)).2.2):=by intro V F' h';have t:=ig V F' h';rw [←Sp.out]at t;rw [←Sp.out];exact t
       clear ig lk m1 g0 g1 g2 g3 cS Ql Wm hK3 hW3;have hel:s.ed.length<200000:=by omega
       go_upto_region 17 with fail
       refine Anc (c:=c) ok xZ eX hel zl (Hb x.a (Ci pts)) (Hb x.b (Ci pts)) (AL (AY x) L) _ (by rw [HC.out]) (by rw [HC.out]) (by rw [HC.out]) Xi rfl (by kernel_rfl) (by kernel_rfl) (by simp) (by rw [HC.out];rfl) (by rw [HC.out];rfl) rfl rfl (by rw [HC.out];rfl) (by rw [HC.out];rfl) ?_;intro v w9 E9 F9 dN hK9;simp only [List.take_succ_cons,List.take_zero,List.drop_succ_cons,List.drop_zero,List.cons_append,List.nil_append,show List.range 24 = [0,1,2,3,4,5,6,7,8,9,10,11,12,13,14,15,16,17,18,19,20,21,22,23] from rfl,List.map_cons,List.map_nil];clear Xi;have Zt:=ArW (show MK units (Ci pts) L s x=Jf units (Ci pts) L (ws.take (k+1))by rw [Gh.out,JL.out])
       have Ahe:Cs c E9 F9 (MK units (Ci pts) L s x).nm (MK units (Ci pts) L s x).fa (MK units (Ci pts) L s x).ed w9:=by have hz:=HZL.out;rw [hz]at dN;exact dN
       clear dN;go_wp2;go_roundw
       case rel=>exact⟨k+1,E9,F9,MK units (Ci pts) L s x,by go_num,hkn,Zt.out,N2,Ahe,hK4.trans hK9⟩
       case measure=>simp [intOf];omega
     ·have hce:Lf units (Ci pts) L s x=s:=(by unfold Lf;rw [if_neg (by rw [←hz];exact LI)]);rw [hce]at N2;have Zt:=ArW (show s=Jf units (Ci pts) L (ws.take (k+1))by rw [Gh.out,hce]);clear hce hz;go_wp2;go_roundw
      case rel=>exact⟨k+1,E,F,s,by go_num,hkn,Zt.out,N2,Wm,hK3⟩
      case measure=>simp [intOf];omega
    ·have Bf:k=ws.length:=(by omega);subst Bf;have GO:decide (ws.length<ws.length)=false:=(by simp);have AqB:decide ((ws.length:Int)<(ws.length:Int))=false:=(by simp);rw [List.take_length,←HST.out]at hs;subst hs;obtain⟨oE,cE,rfl,dO,CG,Em⟩:=Ae.of_own' (by omega) hC.own;obtain⟨oF,cF,rfl,hF9,hF1,hF2⟩:=Ae.of_own' (by omega) hC.fc.fac;have Jo:=(hK.bl.block _ (by rw [HC.out];show w.heap.size+1<w.heap.size+2;omega)).trans Ahs;have OE:=hC.fc.cM;have hcb:c.bm=bm/\c.P=.slice pA pts.length pc/\c.B=w.heap.size+2:=(by rw [HC.out];exact⟨rfl,rfl,rfl⟩);rw [hcb.1,hcb.2.1]at OE;have eG:=yg Ahp hK (by decide) (by decide) (by decide);have By:Aa w wr:=zI.trans_below hK.bl (by rw [hcb.2.2];omega);have m0:=Ab (o:=0) OE rfl;have m1:=Ab (o:=1) OE rfl;have m2:=Ab (o:=2) OE rfl;have r0:=Ab (o:=0) Jo rfl;have r1:=Ab (o:=1) Jo rfl;have r2:=Ab (o:=2) Jo rfl;have r3:=AB (o:=0) Jo;have r4:=AB (o:=1) Jo;have r5:=AB (o:=2) Jo;have CS:=PX (.slice pA pts.length pc) (.slice oE s.ed.length cE) (.slice oF s.fa.length cF) Jo;have bb:=(((Ar.refl (fun q=>q=w.heap.size+1) wr).setCell (p:=⟨w.heap.size+1,0,none⟩) (.inl rfl) (.slice pA pts.length pc)).setCell (p:=⟨w.heap.size+1,1,none⟩) (.inl rfl) (.slice oE s.ed.length cE)).setCell (p:=⟨w.heap.size+1,2,none⟩) (.inl rfl) (.slice oF s.fa.length cF);have f1:=NQ (by omega) (BG eG bb (fun q hq e=>by subst e;exact A8 eG Jo (by decide) hq));have f2:=NQ (by omega) (BG hC.own bb (fun q hq e=>by subst e;exact A8 hC.own Jo (by decide) hq));have f3:=NQ (by omega) (BG hC.fc.fac bb (fun q hq e=>by subst e;exact A8 hC.fc.fac Jo (by decide) hq));have Nj:=bb.toExt By (fun q e=>by subst e;omega);have t1:=Ab (o:=0) CS rfl;have t2:=Ab (o:=1) CS rfl;have t3:=Ab (o:=2) CS rfl
     have Ay:pG w ⟨pts,s.ed,s.fa.length⟩ s.fa (.returned (Bv pA oE oF ⟨pts,s.ed,s.fa.length⟩ pc cE cF)) (((wr.setCell ⟨w.heap.size+1,0,none⟩ (.slice pA pts.length pc)).setCell ⟨w.heap.size+1,1,none⟩ (.slice oE s.ed.length cE)).setCell ⟨w.heap.size+1,2,none⟩ (.slice oF s.fa.length cF)):=
      ⟨pA,oE,oF,pc,cE,cF,rfl,⟨AiE,AiF,CG,Em,hF1,hF2⟩,f1,f2,f3,rfl,Nj⟩
     have AP:=ArW Ay;clear Ay Nj f1 f2 f3 bb CS Jo OE hC hK eG By;go_wp2;refine bodyPost_ret (v:=.agg #[.slice pA pts.length pc,.slice oE s.ed.length cE,.slice oF s.fa.length cF]) (by simp [results,Tryz.results112,go_sem,t1,t2,t3]) rfl ?_;exact AP.out
end Go.Proofs.YtbejphgbbpplbaaGreatDoor
