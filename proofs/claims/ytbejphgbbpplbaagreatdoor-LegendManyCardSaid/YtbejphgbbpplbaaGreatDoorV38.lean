/- V38: BT BU. -/
import Derived.Test.YtbejphgbbpplbaaGreatDoorV36
import Derived.Test.YtbejphgbbpplbaaGreatDoorV35
set_option maxRecDepth 100000
set_option maxHeartbeats 16000000
namespace Go.Proofs.YtbejphgbbpplbaaGreatDoor
open Go.RowKit Kl Go.Shelf
def Br(units:List Bs)(nm:List (Int×Int))(fa:List Bs)(f:Int):Int×List (Int×Int)×List Bs:=match C0 f nm with
 | some z=>(z,nm,fa)
 | none=>((fa.length:Int),nm ++ [(f,(fa.length:Int))],fa ++ [units.getD f.toNat []])
structure G7 where
 nm:List (Int×Int)
 fa:List Bs
 ed:List Av
def LN(units:List Bs)(idx:List (Pt×Int))(L:List (Sg×Int))(st:G7)(s:Sg):G7:=
 ⟨(Br units (Br units st.nm st.fa (AI s L)).2.1 (Br units st.nm st.fa (AI s L)).2.2 (AI (AP s) L)).2.1,(Br units (Br units st.nm st.fa (AI s L)).2.1 (Br units st.nm st.fa (AI s L)).2.2 (AI (AP s) L)).2.2,
  st.ed ++ [⟨G3 s.a idx,G3 s.b idx,(Br units st.nm st.fa (AI s L)).1,(Br units (Br units st.nm st.fa (AI s L)).2.1 (Br units st.nm st.fa (AI s L)).2.2 (AI (AP s) L)).1⟩]⟩
def Kp(units:List Bs)(idx:List (Pt×Int))(L:List (Sg×Int))(st:G7)(s:Sg):G7:=if AW s.a s.b<0 then LN units idx L st s else st
def I1(units:List Bs)(idx:List (Pt×Int))(L:List (Sg×Int))(ws:List Sg):G7:=ws.foldl (Kp units idx L) ⟨[(-1,-1)],[],[]⟩
def BM(l:List Pt):List (Pt×Int):=l.zipIdx.map fun e=>(e.1,(e.2:Int))
theorem Afz(l:List Pt)(p:Pt):BM (l ++ [p])=BM l ++ [(p,(l.length:Int))]:=by simp [BM,List.zipIdx_append]
theorem Afy(l:List Pt):(BM l).map (·.1)=l:=by
 unfold BM;rw [List.map_map];have:((fun x:Pt×Int=>x.1) ∘ fun e:Pt×Nat=>(e.1,(e.2:Int)))=Prod.fst:=rfl;rw [this,List.zipIdx_map_fst]
theorem eU(units:List Bs)(nm:List (Int×Int))(fa:List Bs)(f:Int):(Br units nm fa f).2.2.length<=fa.length+1:=by
 unfold Br;split<;>simp
theorem eT(units:List Bs){nm:List (Int×Int)}(fa:List Bs)(f:Int)(h:C0 (-1) nm=some (-1)):C0 (-1) (Br units nm fa f).2.1=some (-1):=by
 unfold Br
 split
 ·exact h
 ·unfold C0 at h ⊢;simp only;rw [List.find?_append]
  cases hq:nm.find? (fun e=>(-1:Int) == e.1)with
  | none=>rw [hq]at h;cases h
  | some e=>rw [hq]at h;simpa using h
structure Qu(k:Nat)(st:G7):Prop where
 h:C0 (-1) st.nm=some (-1)
 fa:st.fa.length<=2*k
 ed:st.ed.length<=k
theorem Qu.step{k:Nat}{st:G7}(h:Qu k st)(units:List Bs)(idx:List (Pt×Int))(L:List (Sg×Int))(s:Sg):Qu (k+1) (Kp units idx L st s):=by
 unfold Kp
 split
 ·unfold LN;refine⟨eT _ _ _ (eT _ _ _ h.h),?_,?_⟩
  ·have h1:=eU units st.nm st.fa (AI s L);have h2:=eU units (Br units st.nm st.fa (AI s L)).2.1 (Br units st.nm st.fa (AI s L)).2.2 (AI (AP s) L);have:=h.fa;simp only;omega
  ·have:=h.ed;simp only [List.length_append,List.length_singleton];omega
 ·exact⟨h.h,by have:=h.fa;omega,by have:=h.ed;omega⟩
theorem AaA(units:List Bs)(idx:List (Pt×Int))(L:List (Sg×Int))(ws:List Sg)(s:Sg):I1 units idx L (ws ++ [s])=Kp units idx L (I1 units idx L ws) s:=by simp [I1]
theorem rA{c:Cn}(ok:c.Ok){E F:Value}{nm:List (Int×Int)}{Am:List Bs}{eds:List Av}{w:World}(h:Cs c E F nm Am eds w)(hh:C0 (-1) nm=some (-1))(f:Int)(hf0:-1<=f)(vT:f<(c.units.length:Int))(EZ:c.units.length<=100000)(NE:Am.length<=100000) :
  Calls Tryz.prog 187 #[.int .i64 f,.pointer (some ⟨c.bx,0,none⟩),.pointer (some ⟨c.bm,0,none⟩),.pointer (some ⟨c.bu,0,none⟩)] w (Ov w c.B c.bx c.bn c.bm c.bu c.U c.cu c.units c.P E F (Br c.units nm Am f).1 (Br c.units nm Am f).2.1 (Br c.units nm Am f).2.2):=by
 cases hl:C0 f nm with
 | some z=>
  have e:Br c.units nm Am f=(z,nm,Am):=(by unfold Br;rw [hl]);rw [e];exact Acy h.fc f z hl
 | none=>
  have hne:f≠-1:=(by rintro rfl;rw [hh]at hl;cases hl);obtain⟨m,rfl⟩:∃m:Nat,f=(m:Int):=⟨f.toNat,by omega⟩;have hm:m<c.units.length:=by omega
  have e:Br c.units nm Am (m:Int)=((Am.length:Int),nm ++ [((m:Int),(Am.length:Int))],Am ++ [c.units[m]]):=by unfold Br;rw [hl];simp [List.getD_eq_getElem?_getD,Anc hm]
  rw [e];exact Acx h.fc h.size ok.bn ok.bm m hl hm EZ NE
def jT(w:World)(m:Cm)(Am:List Bs)(e:Ending)(w':World):Prop:=
 ∃A Bk F c d g,e=.returned (C2 A Bk F m c d g)/\Jm m c d g/\Ae w' A (flat (Ao m.pts))/\Ae w' Bk (Bt m.eds)/\Ae w' F (Am.map S)/\m.nf=Am.length/\Aa w w'
theorem Aa1{w:World}{b:Nat}{a0 a1 a2:Value}{t:TypeId}(v:Value)(h:w.heap[b]?=some (.cells #[a0,a1,a2] t)):(w.setCell ⟨b,0,none⟩ v).heap[b]?=some (.cells #[v,a1,a2] t):=by
 simp only [World.setCell,Array.getElem?_modify,h];simp
theorem Aa5{w:World}{b o:Nat}{cs:Array Value}{t:TypeId}{fz:Nat×Nat}{v:Value}(h:w.heap[b]?=some (.cells cs t fz))(hc:w.cell? ⟨b,o,none⟩=some v):cs[o]?=some v:=by
 cases e:cs[o]? with
 | some u=>
  have h2:=hc;simp [World.cell?,h,e]at h2;rw [←h2]
 | none=>simp [World.cell?,h,e]at hc
theorem rJ{l:List Pt}{j:Nat}(hj:j<(flat (Ao l)).length):∃s,(flat (Ao l))[j]=S s:=by
 have:=AmY hj;unfold flat at this;rw [List.mem_flatMap]at this;obtain⟨p,_,h⟩:=this;simp only [List.mem_cons,Anj,or_false]at h
 rcases h with h|h
 ·exact⟨_,h⟩
 ·exact⟨_,h⟩
theorem AgP{c:Cn}{E F:Value}{nm:List (Int×Int)}{Am:List Bs}{eds:List Av}{w:World}(_:Cs c E F nm Am eds w):∃x,x=w:=⟨w,rfl⟩
theorem MK{w:World}{B:Nat}{e:TypeId}{s n c:Nat}{A:Option Addr}{xs:List Value}(hs:0<s)(h:w.ownsRow B e s (.slice A n c) n xs):Ae w A xs:=by
 obtain⟨A',c',e',h1,-,-⟩:=Ae.of_own' hs h;simp only [Value.slice.injEq]at e';rw [e'.1];exact h1
theorem iy{B B':Nat}{w w':World}{e:TypeId}{s n:Nat}{v:Value}{xs:List Value}(h:w.ownsRow B' e s v n xs)(hk:KB B w w')(h1:e≠36)(h2:e≠9)(h3:e≠126):w'.ownsRow B' e s v n xs:=by
 refine⟨h.1,?_⟩
 rcases h.2 with h'|⟨g,cap,cur,e1,e2,hgb,e4⟩
 ·exact .inl h'
 ·exact .inr ⟨g,cap,cur,e1,e2,hk.kp g cur e (0,0) h1 h2 h3 hgb,e4⟩
theorem Af6{pts:List Pt}(Cj:pts.Nodup){k:Nat}(hk:k<pts.length):∀e∈BM (pts.take k),Ap pts[k] e.1=false:=by
 intro e he
 have h1:e.1∈pts.take k:=by
  have:=List.mem_map_of_mem (f:=(·.1)) he
  rwa [Afy]at this
 refine ju.2 fun h2=>?_;obtain⟨j,hj,h3⟩:=List.getElem_of_mem h1;rw [List.getElem_take]at h3;have hj':j<k:=(by rw [List.length_take]at hj;omega);have:=(List.getElem_inj (h₀:=by omega) (h₁:=hk) Cj).1 (h3.trans h2.symm);omega
theorem AaB{w0 w:World}(hw:An w0)(hx:Aa w0 w){B0 r b1 b2:Nat}{L:List (Sg×Int)}{E:List (Pt×Value×Nat)}{R0:List (Pt×List Pt)}(h:Bo B0 w r b1 b2 L E R0)
  (hz:∀e∈R0,Ar 200 e.1/\∀p∈e.2,Ar 200 p) (hlen:R0.length<=100000) (hrl:∀e∈R0,e.2.length<100000) (Cj:(R0.map (·.1)).Nodup) (hno:∀e∈R0,∀p q,e.2 = [p,q]→AD (Al p e.1 q)≠0)
  (hL:∀e∈L,Ei 200 e.1) (hLl:L.length<=40000) (hback:∀e∈L,∃e'∈L,e'.1=AP e.1) (U:Option Addr) (cu:Nat) (units:List Bs) (hU:Ae w U (units.map S)) (P6:∀x,U=some x→x.block<w.heap.size) (EZ:units.length<=100000)
  (NL:∀x∈L,-1<=x.2/\x.2<(units.length:Int)) {pts:List Pt} (NN:pts=ED (R0.map (·.1))) {ws:List Sg} (NW:ws=B7 (L.map (·.1))) {st:G7} (hst:st=I1 units (BM pts) L ws) :
  Calls Tryz.prog 112 #[.pointer (some ⟨r,0,none⟩),.slice U units.length cu] w (jT w ⟨pts,st.ed,st.fa.length⟩ st.fa):=by
 have hmm:=@run_makeMap Tryz.prog;have Amq:=AmV h.cell;have Al4:=AmV h.left;have xN:pts.Nodup:=(by rw [NN];exact(JV _).nodup_iff.2 Cj);have Ae7:pts.length=R0.length:=(by rw [NN,(JV _).length_eq];simp);have E1:=((Aa.refl w).alloc (.cells #[.slice U units.length cu] 23)).alloc (.cells #[.slice none 0 0,.slice none 0 0,.slice none 0 0] 36);have Pi:=AmW w (.cells #[.slice U units.length cu] 23);have hbr:=AmW (w.alloc (.cells #[.slice U units.length cu] 23)) (.cells #[.slice none 0 0,.slice none 0 0,.slice none 0 0] 36);rw [Anf]at hbr;have uT:=(Below.heap_alloc (w.alloc (.cells #[.slice U units.length cu] 23)) (.cells #[.slice none 0 0,.slice none 0 0,.slice none 0 0] 36) w.heap.size (by simp)).trans Pi;have lv:=AfT hw (hx.trans E1) (h.ext E1) hz hlen hrl Cj hno;have J5:=h.ar.len;have DI:=h.ar.keys;have wd:=AmU (fun i (hi:i<E.length)=>(h.ar.row i hi (by rw [←J5];exact hi)).2.1)
 have sK:∀e∈E,Ar 200 e.1:=fun e he=>by have:e.1∈R0.map (·.1):=(by rw [←DI];exact List.mem_map_of_mem he);obtain⟨e',he',h1⟩:=List.mem_map.1 this;rw [←h1];exact(hz e' he').1
 have Hg:=AmU h;have td:=AmU sK;have HST:=AmU hst;have LI:=AmU NW;have TM:=AmU NN;have uq:=AmU DI;have Ox:=AmU (show E.length=pts.length by omega);have HU:=AmU hU;have xi:=AmU P6;have HL:=AmU hL;have r6:=AmU hback;have kQ:=AmU NL;have vt:=AmU xN;have hpl:pts.length<=100000:=(by omega);clear Pi h sK hst NW NN DI J5 hU P6 hL hback NL xN Ae7 hz hlen hrl Cj hno;go_enter Tryz.func112,Tryz.ntmps112;have hs1:((w.alloc (.cells #[.slice U units.length cu] 23)).alloc (.cells #[.slice none 0 0,.slice none 0 0,.slice none 0 0] 36)).heap.size=w.heap.size+2:=by simp only [Anf]
 go_upto_region 1 with fail
 generalize (w.alloc (.cells #[.slice U units.length cu] 23)).alloc (.cells #[.slice none 0 0,.slice none 0 0,.slice none 0 0] 36)=W1 at *;(go_wp2_with fail);(with_reducible refine lv.mono ?_);rintro e w2 ⟨rfl,hx2⟩;clear lv;have C7:=E1.trans hx2;have ZD:=(hx2.block _ (AmV uT)).trans uT;have hR2:=(hx2.block _ (AmV hbr)).trans hbr;have hs2:=hx2.size;have IA:=Hg.out.ext C7;have m1:=Ab (o:=1) IA.cell rfl;obtain⟨bm,Dk⟩:=AmT w2.heap.size;have kp:=fun W=>bj (some b2) W;have E3:=(Aa.refl w2).alloc (.cells #[.slice none 0 0,.slice none 0 0,.slice none 0 0] 36);have GL:=AmW w2 (.cells #[.slice none 0 0,.slice none 0 0,.slice none 0 0] 36);have m3:=E3.cellS m1
 go_upto_region 3 with fail
 rw [←Dk]at GL ⊢;generalize w2.alloc (.cells #[.slice none 0 0,.slice none 0 0,.slice none 0 0] 36)=W3 at *;have CY:=C7.trans E3;have Gn:=Hg.out.ext CY;have AdA:w.heap.size+2<=bm:=(by omega);have uN:w.heap.size<=bm:=(by omega);have Pd:=(E3.block _ (AmV ZD)).trans ZD;have Z8:=(E3.block _ (AmV hR2)).trans hR2;clear Dk m1 IA hx2 ZD hR2 hs2;have E4:=(Aa.refl W3).alloc (.cells #[.map (some b2)] 132);have BO:=AmW W3 (.cells #[.map (some b2)] 132);have sk:=nc hw ((hx.trans CY).trans E4) W3.heap.size b2 E wd.out (AmV BO) (Ab BO rfl) (Gn.ext E4).ar.blk td.out (by have:=Ox.out;omega);rw [uq.out,←TM.out,Ox.out]at sk;(go_wp2_with fail);(with_reducible refine(kp _).mono ?_);rintro e w4 ⟨rfl,rfl⟩;(go_wp2_with fail);(with_reducible refine sk.mono ?_);rintro e w5 ⟨sv,rfl,CO,OT⟩;obtain⟨pA,pc,rfl,hP5,Ae4,Ae5⟩:=Ae.of_own' (by omega) CO;have Ou:=E4.trans OT;have R2:=(Ou.block _ (AmV GL)).trans GL;have y0:=Ab (o:=0) R2 rfl;have y1:=AU (o:=0) R2;have tI:=(Ou.block _ (AmV Pd)).trans Pd;have tB:=(Ou.block _ (AmV Z8)).trans Z8;clear sk kp BO E4 OT GL m3 Pd Z8
 go_upto_region 5 with fail
 have Zz:=Aa1 (.slice pA pts.length pc) R2;have ym:Aa W3 w5:=Ou;have RE:=CY.trans Ou;have tP:Aa w (w5.setCell ⟨bm,0,none⟩ (.slice pA pts.length pc)):=RE.setCell (p:=⟨bm,0,none⟩) uN _;have sX:=CC (K:=fun k=>k=bm) CO ((Au.refl (fun k=>k=bm) w5).setCell (p:=⟨bm,0,none⟩) (.inl rfl) (.slice pA pts.length pc)) (fun k hk e=>by subst e;exact Bn CO R2 (by decide) hk);have EI:=(Aa.refl (w5.setCell ⟨bm,0,none⟩ (.slice pA pts.length pc))).alloc (.map #[] 0)
 have N4:Hk ((w5.setCell ⟨bm,0,none⟩ (.slice pA pts.length pc)).alloc (.map #[] 0)) w5.heap.size (BM (pts.take 0)):=by have:=AmW (w5.setCell ⟨bm,0,none⟩ (.slice pA pts.length pc)) (.map #[] 0);rw [World.size_setCell]at this;exact this
 have Kz:=(EI.block _ (AmV Zz)).trans Zz;have Mh:=tP.trans EI;have Pa:=AH sX EI;have ZE:=(DF (w:=w5) (p:=⟨bm,0,none⟩) (v:=.slice pA pts.length pc) (show w.heap.size≠bm by omega)).trans tI;have Z9:=(DF (w:=w5) (p:=⟨bm,0,none⟩) (v:=.slice pA pts.length pc) (show w.heap.size+1≠bm by omega)).trans tB;have UR:=(EI.block _ (AmV ZE)).trans ZE;have Md:=(EI.block _ (AmV Z9)).trans Z9;obtain⟨bi,H6⟩:=AmT w5.heap.size;rw [←H6]at N4 ⊢;have uK:w.heap.size<=bi:=(by have:=RE.size;omega);generalize (w5.setCell ⟨bm,0,none⟩ (.slice pA pts.length pc)).alloc (.map #[] 0)=W6 at *;clear R2 y0 y1 Zz ym RE tP sX EI hP5 Ou H6 Gn CY CO tI tB ZE Z9;have z0:=Ab (o:=0) Kz rfl;have hl0:(0:Int)<=(pts.length:Int):=by omega
 go_upto_region 6 with fail
 clear z0
 go_loopw [27] (fun iv wr=>∃k:Nat,iv=.int .i64 (k:Nat)/\k<=pts.length/\Hk wr bi (BM (pts.take k))/\Au (fun q=>q=bi) W6 wr) (fun iv _=>pts.length-(intOf iv).toNat)
 case atStart=>exact⟨0,rfl,by omega,N4,Au.refl _ _⟩
 case round=>
  obtain⟨k,rfl,hk,hI,hB⟩:=hrel;have Z5:=CC Pa hB (fun k hk e=>by subst e;exact WL Pa N4 hk);have sY:Ae wr pA (flat (Ao pts)):=MK (by omega) Z5;by_cases hkn:k<pts.length
  ·obtain⟨b,o,rfl,f1,f2⟩:=Cy sY hkn;have hnew:=Af6 vt.out hkn
   have C9:BM (pts.take (k+1))=BM (pts.take k) ++ [(pts[k],(k:Int))]:=by rw [Ana hkn,Afz,List.length_take,Nat.min_eq_left (by omega)]
   obtain⟨p,hp⟩:=AmT (pts[k]);rw [←hp]at f1 f2 hnew C9;have EA:=(Aa.refl wr).alloc (.cells #[S (R p.x),S (R p.y)] 94);have Aq:=AmW wr (.cells #[S (R p.x),S (R p.y)] 94);obtain⟨W8,hput,J6,aY,-⟩:=(hI.ext EA).put p hnew (k:Int);rw [←C9]at J6;unfold Ak at hput;have hk0:(0:Int)<=(k:Int):=(by omega);have Ci:(k:Int)<(pts.length:Int):=(by omega);have q1:=Ab (o:=0) Aq rfl;have q2:=Ab (o:=1) Aq rfl;have Hi:=AmU C9;clear hp hnew C9
   go_upto_region 8 with fail
   unfold S at Aq q1 q2 hput aY EA;have UB:=(hB.ext EA).grown aY (fun q e=>by cases e;exact .inl rfl);generalize wr.alloc (.cells #[.string ⟨(R p.x).toArray⟩,.string ⟨(R p.y).toArray⟩] 94)=V at *;clear Aq EA aY;go_wp2;go_roundw
   case rel=>exact⟨k+1,by go_num,hkn,J6,UB⟩
   case measure=>simp [intOf];omega
  ·have B6:k=pts.length:=(by omega);subst B6;have hd:decide (pts.length<pts.length)=false:=(by simp);have BW:decide ((pts.length:Int)<(pts.length:Int))=false:=(by simp);rw [List.take_length]at hI;have sS:bm≠bi:=fun e=>LO Kz N4 e;have Ep:=(hB.block _ (AmV Kz) sS).trans Kz;have ZJ:=(hB.block _ (AmV UR) (fun e=>LO UR N4 e)).trans UR;have Pb:=(hB.block _ (AmV Md) (fun e=>LO Md N4 e)).trans Md;have BJ:Aa w wr:=hB.toExt Mh (fun q e=>by subst e;exact uK);have uJ:=AmV hI;have E9:=(Aa.refl wr).alloc (.map #[] 0);have sO:FB (wr.alloc (.map #[] 0)) wr.heap.size []:=AmW wr (.map #[] 0);obtain⟨OC,hput,Zv,wA,dA⟩:=sO.put (-1) (-1) rfl;have LA:=(Aa.refl OC).alloc (.cells #[.map (some wr.heap.size)] 212);have Ay:=AmW OC (.cells #[.map (some wr.heap.size)] 212);rw [Anf]at dA;have Pe:Au (fun j=>j=wr.heap.size) wr OC:=((Au.refl _ wr).ext E9).grown wA (fun k e=>by cases e;exact .inl rfl);have sF:Aa wr OC:=Pe.toExt (Aa.refl wr) (fun k e=>by subst e;exact AmX _);have MU:=sF.trans LA
   go_upto_region 10 with fail
   go_upto_region 12 with fail
   rw [dA]at Ay;have Z0:FB (OC.alloc (.cells #[.map (some wr.heap.size)] 212)) wr.heap.size [(-1,-1)]:=(LA.block _ (AmV Zv)).trans Zv;have Rz:=(MU.block _ (AmV Ep)).trans Ep;have tH:=(MU.block _ (AmV ZJ)).trans ZJ;have UN:=(MU.block _ (AmV Pb)).trans Pb;have Ky:=hI.ext MU;have sW:=AH Z5 MU;have N7:=BJ.trans MU;have UQ:=AmV Pb;have AeJ:=N7.size;clear sO hput Zv wA LA Pe sF Ep ZJ Pb hI Z5 BJ E9 sY hB Kz N4 Mh Pa UR Md sS;clear hmm dA MU;generalize OC.alloc (.cells #[.map (some wr.heap.size)] 212)=W11 at *;obtain⟨bn,BR⟩:=AmT wr.heap.size;rw [←BR]at Ay Z0 uJ UQ ⊢;clear BR;have R9:=Hg.out.ext N7;have Pd:Ae W11 U (units.map S):=HU.out.ext N7;have rW:w.heap.size+2<=W11.heap.size:=(by have:=AmV UN;omega);obtain⟨c,hc⟩:=AmT (⟨w.heap.size+2,bn+1,bn,bm,w.heap.size,bi,r,b1,b2,U,cu,units,.slice pA pts.length pc,BM pts,L⟩:Cn)
   have ok:c.Ok:=by subst hc;exact⟨show r<w.heap.size+2 by omega,show b1<w.heap.size+2 by omega,show w.heap.size+2<=bn by omega,show w.heap.size+2<=bm by omega,show bi≠bn by omega⟩
   have rX:Cs c (.slice none 0 0) (.slice none 0 0) [(-1,-1)] [] [] W11:=by subst hc;exact⟨⟨Ay,Z0,Rz,⟨rfl,.inl ⟨rfl,rfl⟩⟩,tH,Pd,fun x hx=>by have:=xi.out x hx;simp only;omega⟩,⟨R9.cell,R9.left,Ky⟩,⟨rfl,.inl ⟨rfl,rfl⟩⟩,rW⟩
   have m11:=Ab (o:=0) R9.cell rfl;have kw:=fun W=>eG (some b1) W;have TF:=(Aa.refl W11).alloc (.cells #[.map (some b1)] 131);have BO:=AmW W11 (.cells #[.map (some b1)] 131);have sk:=jA hw ((hx.trans N7).trans TF) W11.heap.size b1 L (AmV BO) (Ab BO rfl) (R9.ext TF).left HL.out (by omega);rw [←LI.out]at sk;have hwl:ws.length=L.length:=by rw [LI.out,(Jh _).length_eq];simp
   have zA:∀s∈ws,∃e∈L,e.1=s:=fun s hs=>by rw [LI.out]at hs;obtain⟨e,he,h1⟩:=List.mem_map.1 ((Jh _).mem_iff.1 hs);exact⟨e,he,h1⟩
   rw [←hwl]at sk hLl;have XO:=AmU zA;have HC:=AmU hc;clear hwl zA hc Ay Z0 Rz tH Ky Pd;(go_wp2_with fail);(with_reducible refine(kw _).mono ?_);rintro e Tw ⟨rfl,rfl⟩;(go_wp2_with fail);(with_reducible refine sk.mono ?_);rintro e w13 ⟨sv,rfl,hS13,I9⟩;obtain⟨sA,sc,rfl,-,-,-⟩:=Ae.of_own' (by omega) hS13;have Qv:=TF.trans I9;have Adb:=rX.ext Qv;have tN:=N7.trans Qv;have Adr:=AH sW Qv;have Adu:=(Qv.block _ (AmV UN)).trans UN;have hf0:(⟨[(-1,-1)],[],[]⟩:G7)=I1 units (BM pts) L (ws.take 0):=rfl;have hk0:Qu 0 (⟨[(-1,-1)],[],[]⟩:G7):=⟨rfl,AmX _,AmX _⟩;clear kw sk BO TF I9 m11 rX N7 R9 sW UN Qv rW AdA uN uK uJ UQ AeJ hd BW;have hl2:(0:Int)<=(ws.length:Int):=by omega
   go_upto_region 13 with fail
   go_loopw [46] (fun iv wr=>∃(k:Nat) (E F:Value) (s:G7),iv=.int .i64 (k:Nat)/\k<=ws.length/\s=I1 units (BM pts) L (ws.take k)/\Qu k s/\Cs c E F s.nm s.fa s.ed wr/\KB c.B w13 wr) (fun iv _=>ws.length-(intOf iv).toNat)
   case atStart=>exact⟨0,_,_,_,rfl,by omega,hf0,hk0,Adb,KB.refl _ _⟩
   case round=>
    obtain⟨k,E,F,s,rfl,hk,hs,Aj,hC,hK⟩:=hrel;have Mf:=iy hS13 hK (by decide) (by decide) (by decide);by_cases hkn:k<ws.length
    ·obtain⟨b,o,rfl,f1,f2,f3,f4⟩:=MO (MK (by omega) Mf) hkn;obtain⟨e1,KE,KF⟩:=XO.out _ (AmY hkn);have hsz:Ei 200 ws[k]:=by rw [←KF];exact HL.out e1 KE
     have bL:-1<=AI ws[k] L/\AI ws[k] L<(units.length:Int):=by obtain⟨e2,H9,h2⟩:=Wm (s:=ws[k]) (L:=L) (by rw [←KF];exact List.mem_map_of_mem KE);rw [h2];exact kQ.out e2 H9
     have bN:-1<=AI (AP ws[k]) L/\AI (AP ws[k]) L<(units.length:Int):=by obtain⟨e3,J9,h3⟩:=r6.out e1 KE;obtain⟨e2,H9,h2⟩:=Wm (s:=AP ws[k]) (L:=L) (by rw [←KF,←h3];exact List.mem_map_of_mem J9);rw [h2];exact kQ.out e2 H9
     have C9:I1 units (BM pts) L (ws.take (k+1))=Kp units (BM pts) L s ws[k]:=by rw [Ana hkn,AaA,←hs]
     have Sy:=Aj.step units (BM pts) L ws[k];obtain⟨x,hxx⟩:=AmT (ws[k]);rw [←hxx]at f1 f2 f3 f4 hsz bL bN C9 Sy;have Hi:=AmU C9;have HS:=AmU hs;have AlV:(0:Int)<=(k:Int):=(by omega);have Ci:(k:Int)<(ws.length:Int):=(by omega);have EA:=(Aa.refl wr).alloc (.cells #[S (R x.a.x),S (R x.a.y),S (R x.b.x),S (R x.b.y)] 155);have Aq:=AmW wr (.cells #[S (R x.a.x),S (R x.a.y),S (R x.b.x),S (R x.b.y)] 155);have BJ:Aa w wr:=tN.trans_below hK.bl (by have:=HC.out;rw [this];simp only;omega);have PY:=fun (V:World) (hV:Aa wr V)=>Il x.a x.b hsz.a hsz.b (by omega) (by omega) V (hw.ext ((hx.trans BJ).trans hV));clear hxx C9 hs KF KE e1
     go_upto_region 15 with fail
     unfold S at Aq EA;have UV:Jz (wr.alloc (.cells #[.string ⟨(R x.a.x).toArray⟩,.string ⟨(R x.a.y).toArray⟩,.string ⟨(R x.b.x).toArray⟩,.string ⟨(R x.b.y).toArray⟩] 155)) wr.heap.size x:=Aq;generalize wr.alloc (.cells #[.string ⟨(R x.a.x).toArray⟩,.string ⟨(R x.a.y).toArray⟩,.string ⟨(R x.b.x).toArray⟩,.string ⟨(R x.b.y).toArray⟩] 155)=V at *;obtain⟨Co,uC⟩:=AmT wr.heap.size;rw [←uC]at Aq UV ⊢;clear uC f1 f2 f3 f4;have y0:=Ab (o:=0) Aq rfl;have y1:=Ab (o:=1) Aq rfl;have y2:=Ab (o:=2) Aq rfl;have y3:=Ab (o:=3) Aq rfl;have p1:=PY V EA;obtain⟨z,hz⟩:=AmT (AW x.a x.b);rw [←hz]at p1;unfold Ak S at p1;(go_wp2_with fail);(with_reducible refine p1.mono ?_);rintro e w3 ⟨rfl,hx3⟩;have X3:=EA.trans hx3;have UE:=hC.ext X3;have hK3:=hK.trans (KB.ext X3 hC.size);have hW3:Jz w3 Co x:=(hx3.block _ (AmV UV)).trans UV;clear p1 PY y0 y1 y2 y3 Aq UV;by_cases Mw:z<0
     ·have hce:Kp units (BM pts) L s x=LN units (BM pts) L s x:=(by unfold Kp;rw [if_pos (by rw [←hz];exact Mw)]);rw [hce]at Sy;have LD:=AmU hce;have hfa:=Aj.fa;have RX:=Aj.ed;have Ax:c.units=units:=(by rw [HC.out]);have YX:=fun (V:World) (F':Value) (h:Cs c E F' s.nm s.fa s.ed V)=>rA ok h Aj.h (AI x L) bL.1 (by rw [Ax];exact bL.2) (by rw [Ax];exact EZ) (by omega);have FS:=eU units s.nm s.fa (AI x L);have hh1:=eT units s.fa (AI x L) Aj.h;have rD:=fun (V:World) (F':Value) (h:Cs c E F' (Br units s.nm s.fa (AI x L)).2.1 (Br units s.nm s.fa (AI x L)).2.2 s.ed V)=>rA ok h hh1 (AI (AP x) L) bN.1 (by rw [Ax];exact bN.2) (by rw [Ax];exact EZ) (by omega);rw [Ax]at YX rD
      have rC:∀(V:World) (F':Value) (h:Cs c E F' s.nm s.fa s.ed V),Calls Tryz.prog 187 #[.int .i64 (AI x L),.pointer (some ⟨bn+1,0,none⟩),.pointer (some ⟨bm,0,none⟩),.pointer (some ⟨w.heap.size,0,none⟩)] V (Ov V c.B c.bx c.bn c.bm c.bu c.U c.cu c.units c.P E F' (Br units s.nm s.fa (AI x L)).1 (Br units s.nm s.fa (AI x L)).2.1 (Br units s.nm s.fa (AI x L)).2.2):=by intro V F' h;have t:=YX V F' h;rw [←Ax]at t;rw [←Ax];have hc:=HC.out;rw [show (bn+1)=c.bx by rw [hc],show bm=c.bm by rw [hc],show w.heap.size=c.bu by rw [hc]];exact t
      have XM:=AmU Ax;have tz:=AmU rD;have OS:=UE.ext (Aa.refl w3).drew;have lk:=Qi x L (W:=w3.drew) (by have:=OS.rd.left;rw [HC.out]at this;exact this);have VI:=OS.rd.net;rw [HC.out]at VI;simp only at VI;have m1:=Ab (o:=0) VI rfl;have hwd:Jz w3.drew Co x:=hW3;have g0:=Ab (o:=0) hwd rfl;have g1:=Ab (o:=1) hwd rfl;have g2:=Ab (o:=2) hwd rfl;have g3:=Ab (o:=3) hwd rfl;unfold As at lk;have YW:=rC _ F OS;have Aff:w3.drew.heap[Co]?=some (.cells #[S (R x.a.x),S (R x.a.y),S (R x.b.x),S (R x.b.y)] 155 (0,0)):=hW3;clear YX rC FS Ax VI hwd hce;obtain⟨zl,hzl⟩:=AmT ((Br units s.nm s.fa (AI x L)).1);rw [←hzl]at YW;have xn:=AmU hzl;clear hzl
      go_upto_region 16 with fail
      go_cut [13] (fun v13 wx=>v13=.int .i64 zl/\∃F',Cs c E F' (Br units s.nm s.fa (AI x L)).2.1 (Br units s.nm s.fa (AI x L)).2.2 s.ed wx/\KB c.B w13 wx/\Jz wx Co x)
      case first=>
       go_region_with ((with_reducible refine YW.mono ?_);rintro e w4 ⟨F4,rfl,hF4,Gk⟩)
       all_goals go_wp2
       all_goals go_meet
       all_goals (
        have GM:=KB.named ok OS Gk
        refine⟨rfl,F4,OS.named ok (by rw [XM.out]at hF4 ⊢;exact hF4) Gk,(hK3.trans (KB.ext (Aa.refl w3).drew UE.size)).trans GM,GM.kp Co _ _ _ (by decide) (by decide) (by decide) Aff⟩)
      case rest=>
       obtain⟨rfl,F4,rY,hK4,ZN⟩:=hcut;obtain⟨W9,rfl⟩:=AgP rY;have vW:=tz.out
       have Vq:∀(V:World) (F':Value),Cs c E F' (Br units s.nm s.fa (AI x L)).2.1 (Br units s.nm s.fa (AI x L)).2.2 s.ed V→Calls Tryz.prog 187 #[.int .i64 (AI (AP x) L),.pointer (some ⟨c.bx,0,none⟩),.pointer (some ⟨c.bm,0,none⟩),.pointer (some ⟨c.bu,0,none⟩)] V (Ov V c.B c.bx c.bn c.bm c.bu c.U c.cu c.units c.P E F' (Br units (Br units s.nm s.fa (AI x L)).2.1 (Br units s.nm s.fa (AI x L)).2.2 (AI (AP x) L)).1 (Br units (Br units s.nm s.fa (AI x L)).2.1 (Br units s.nm s.fa (AI x L)).2.2 (AI (AP x) L)).2.1 (Br units (Br units s.nm s.fa (AI x L)).2.1 (Br units s.nm s.fa (AI x L)).2.2 (AI (AP x) L)).2.2):=by intro V F' h';have t:=vW V F' h';rw [←XM.out]at t;rw [←XM.out];exact t
       clear vW lk m1 g0 g1 g2 g3 YW OS UE hK3 hW3;have hel:s.ed.length<200000:=by omega
       go_upto_region 17 with fail
       refine AiF (c:=c) ok rY ZN hel zl (G3 x.a (BM pts)) (G3 x.b (BM pts)) (AI (AP x) L) _ (by rw [HC.out]) (by rw [HC.out]) (by rw [HC.out]) Vq rfl (by kernel_rfl) (by kernel_rfl) (by simp) (by rw [HC.out];rfl) (by rw [HC.out];rfl) rfl rfl (by rw [HC.out];rfl) (by rw [HC.out];rfl) ?_;intro v w9 E9 F9 Zr hK9;simp only [List.take_succ_cons,List.take_zero,List.drop_succ_cons,List.drop_zero,List.cons_append,List.nil_append,show List.range 24 = [0,1,2,3,4,5,6,7,8,9,10,11,12,13,14,15,16,17,18,19,20,21,22,23] from rfl,List.map_cons,List.map_nil];clear Vq;have Xs:=AmU (show LN units (BM pts) L s x=I1 units (BM pts) L (ws.take (k+1))by rw [Hi.out,LD.out])
       have Adc:Cs c E9 F9 (LN units (BM pts) L s x).nm (LN units (BM pts) L s x).fa (LN units (BM pts) L s x).ed w9:=by have hz:=xn.out;rw [hz]at Zr;exact Zr
       clear Zr;go_wp2;go_roundw
       case rel=>exact⟨k+1,E9,F9,LN units (BM pts) L s x,by go_num,hkn,Xs.out,Sy,Adc,hK4.trans hK9⟩
       case measure=>simp [intOf];omega
     ·have hce:Kp units (BM pts) L s x=s:=(by unfold Kp;rw [if_neg (by rw [←hz];exact Mw)]);rw [hce]at Sy;have Xs:=AmU (show s=I1 units (BM pts) L (ws.take (k+1))by rw [Hi.out,hce]);clear hce hz;go_wp2;go_roundw
      case rel=>exact⟨k+1,E,F,s,by go_num,hkn,Xs.out,Sy,UE,hK3⟩
      case measure=>simp [intOf];omega
    ·have B6:k=ws.length:=(by omega);subst B6;have vP:decide (ws.length<ws.length)=false:=(by simp);have AlL:decide ((ws.length:Int)<(ws.length:Int))=false:=(by simp);rw [List.take_length,←HST.out]at hs;subst hs;obtain⟨oE,cE,rfl,hE9,ER,ES⟩:=Ae.of_own' (by omega) hC.own;obtain⟨oF,cF,rfl,hF9,hF1,hF2⟩:=Ae.of_own' (by omega) hC.fc.fac;have IC:=(hK.bl.block _ (by rw [HC.out];show w.heap.size+1<w.heap.size+2;omega)).trans Adu;have RU:=hC.fc.cM;have hcb:c.bm=bm/\c.P=.slice pA pts.length pc/\c.B=w.heap.size+2:=(by rw [HC.out];exact⟨rfl,rfl,rfl⟩);rw [hcb.1,hcb.2.1]at RU;have Z6:=iy Adr hK (by decide) (by decide) (by decide);have BQ:Aa w wr:=tN.trans_below hK.bl (by rw [hcb.2.2];omega);have m0:=Ab (o:=0) RU rfl;have m1:=Ab (o:=1) RU rfl;have m2:=Ab (o:=2) RU rfl;have r0:=Ab (o:=0) IC rfl;have r1:=Ab (o:=1) IC rfl;have r2:=Ab (o:=2) IC rfl;have r3:=AU (o:=0) IC;have r4:=AU (o:=1) IC;have r5:=AU (o:=2) IC;have FX:=Yy (.slice pA pts.length pc) (.slice oE s.ed.length cE) (.slice oF s.fa.length cF) IC;have bb:=(((Au.refl (fun q=>q=w.heap.size+1) wr).setCell (p:=⟨w.heap.size+1,0,none⟩) (.inl rfl) (.slice pA pts.length pc)).setCell (p:=⟨w.heap.size+1,1,none⟩) (.inl rfl) (.slice oE s.ed.length cE)).setCell (p:=⟨w.heap.size+1,2,none⟩) (.inl rfl) (.slice oF s.fa.length cF);have f1:=MK (by omega) (CC Z6 bb (fun q hq e=>by subst e;exact Bn Z6 IC (by decide) hq));have f2:=MK (by omega) (CC hC.own bb (fun q hq e=>by subst e;exact Bn hC.own IC (by decide) hq));have f3:=MK (by omega) (CC hC.fc.fac bb (fun q hq e=>by subst e;exact Bn hC.fc.fac IC (by decide) hq));have RG:=bb.toExt BQ (fun q e=>by subst e;omega);have t1:=Ab (o:=0) FX rfl;have t2:=Ab (o:=1) FX rfl;have t3:=Ab (o:=2) FX rfl
     have AX:jT w ⟨pts,s.ed,s.fa.length⟩ s.fa (.returned (C2 pA oE oF ⟨pts,s.ed,s.fa.length⟩ pc cE cF)) (((wr.setCell ⟨w.heap.size+1,0,none⟩ (.slice pA pts.length pc)).setCell ⟨w.heap.size+1,1,none⟩ (.slice oE s.ed.length cE)).setCell ⟨w.heap.size+1,2,none⟩ (.slice oF s.fa.length cF)):=
      ⟨pA,oE,oF,pc,cE,cF,rfl,⟨Ae4,Ae5,ER,ES,hF1,hF2⟩,f1,f2,f3,rfl,RG⟩
     have Cu:=AmU AX;clear AX RG f1 f2 f3 bb FX IC RU hC hK Z6 BQ;go_wp2;refine bodyPost_ret (v:=.agg #[.slice pA pts.length pc,.slice oE s.ed.length cE,.slice oF s.fa.length cF]) (by simp [results,Tryz.results112,go_sem,t1,t2,t3]) rfl ?_;exact Cu.out
end Go.Proofs.YtbejphgbbpplbaaGreatDoor
