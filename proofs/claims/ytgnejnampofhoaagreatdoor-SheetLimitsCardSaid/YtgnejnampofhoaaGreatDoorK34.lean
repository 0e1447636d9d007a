/- K34: ShBT ShBU. -/
import Derived.Test.YtgnejnampofhoaaGreatDoorK32
import Derived.Test.YtgnejnampofhoaaGreatDoorK31
set_option maxRecDepth 100000
set_option maxHeartbeats 16000000
namespace Go.Proofs.YtgnejnampofhoaaGreatDoor
open Go.RowKit Kl Go.Shelf
def Bv(units:List Bs)(nm:List (Int×Int))(fa:List Bs)(f:Int):Int×List (Int×Int)×List Bs:=match BU f nm with
 | some z=>(z,nm,fa)
 | none=>((fa.length:Int),nm ++ [(f,(fa.length:Int))],fa ++ [units.getD f.toNat []])
structure Fy where
 nm:List (Int×Int)
 fa:List Bs
 ed:List EdZ
def L1(units:List Bs)(idx:List (Pt×Int))(L:List (Sg×Int))(st:Fy)(s:Sg):Fy:=
 ⟨(Bv units (Bv units st.nm st.fa (AI s L)).2.1 (Bv units st.nm st.fa (AI s L)).2.2 (AI (AV s) L)).2.1,(Bv units (Bv units st.nm st.fa (AI s L)).2.1 (Bv units st.nm st.fa (AI s L)).2.2 (AI (AV s) L)).2.2,
  st.ed ++ [⟨G0 s.a idx,G0 s.b idx,(Bv units st.nm st.fa (AI s L)).1,(Bv units (Bv units st.nm st.fa (AI s L)).2.1 (Bv units st.nm st.fa (AI s L)).2.2 (AI (AV s) L)).1⟩]⟩
def JO(units:List Bs)(idx:List (Pt×Int))(L:List (Sg×Int))(st:Fy)(s:Sg):Fy:=if Bd s.a s.b<0 then L1 units idx L st s else st
def GH(units:List Bs)(idx:List (Pt×Int))(L:List (Sg×Int))(ws:List Sg):Fy:=ws.foldl (JO units idx L) ⟨[(-1,-1)],[],[]⟩
def BR(l:List Pt):List (Pt×Int):=l.zipIdx.map fun e=>(e.1,(e.2:Int))
theorem Ac2(l:List Pt)(p:Pt):BR (l ++ [p])=BR l ++ [(p,(l.length:Int))]:=by simp [BR,List.zipIdx_append]
theorem Ac1(l:List Pt):(BR l).map (·.1)=l:=by
 unfold BR;rw [List.map_map];have:((fun x:Pt×Int=>x.1) ∘ fun e:Pt×Nat=>(e.1,(e.2:Int)))=Prod.fst:=rfl;rw [this,List.zipIdx_map_fst]
theorem aO(units:List Bs)(nm:List (Int×Int))(fa:List Bs)(f:Int):(Bv units nm fa f).2.2.length<=fa.length+1:=by
 unfold Bv;split<;>simp
theorem aN(units:List Bs){nm:List (Int×Int)}(fa:List Bs)(f:Int)(h:BU (-1) nm=some (-1)):BU (-1) (Bv units nm fa f).2.1=some (-1):=by
 unfold Bv
 split
 ·exact h
 ·unfold BU at h ⊢;simp only;rw [List.find?_append]
  cases hq:nm.find? (fun e=>(-1:Int) == e.1)with
  | none=>rw [hq]at h;cases h
  | some e=>rw [hq]at h;simpa using h
structure PD(k:Nat)(st:Fy):Prop where
 h:BU (-1) st.nm=some (-1)
 fa:st.fa.length<=2*k
 ed:st.ed.length<=k
theorem PD.step{k:Nat}{st:Fy}(h:PD k st)(units:List Bs)(idx:List (Pt×Int))(L:List (Sg×Int))(s:Sg):PD (k+1) (JO units idx L st s):=by
 unfold JO
 split
 ·unfold L1;refine⟨aN _ _ _ (aN _ _ _ h.h),?_,?_⟩
  ·have h1:=aO units st.nm st.fa (AI s L);have h2:=aO units (Bv units st.nm st.fa (AI s L)).2.1 (Bv units st.nm st.fa (AI s L)).2.2 (AI (AV s) L);have:=h.fa;simp only;omega
  ·have:=h.ed;simp only [List.length_append,List.length_singleton];omega
 ·exact⟨h.h,by have:=h.fa;omega,by have:=h.ed;omega⟩
theorem su(units:List Bs)(idx:List (Pt×Int))(L:List (Sg×Int))(ws:List Sg)(s:Sg):GH units idx L (ws ++ [s])=JO units idx L (GH units idx L ws) s:=by simp [GH]
theorem mA{c:Cn}(ok:c.Ok){E F:Value}{nm:List (Int×Int)}{A8:List Bs}{eds:List EdZ}{w:World}(h:Cs c E F nm A8 eds w)(hh:BU (-1) nm=some (-1))(f:Int)(hf0:-1<=f)(YQ:f<(c.units.length:Int))(If:c.units.length<=100000)(CN:A8.length<=100000) :
  Calls Tryz.prog 198 #[.int .i64 f,.pointer (some ⟨c.bx,0,none⟩),.pointer (some ⟨c.bm,0,none⟩),.pointer (some ⟨c.bu,0,none⟩)] w (NM w c.B c.bx c.bn c.bm c.bu c.U c.cu c.units c.P E F (Bv c.units nm A8 f).1 (Bv c.units nm A8 f).2.1 (Bv c.units nm A8 f).2.2):=by
 cases hl:BU f nm with
 | some z=>
  have e:Bv c.units nm A8 f=(z,nm,A8):=(by unfold Bv;rw [hl]);rw [e];exact zh h.fc f z hl
 | none=>
  have hne:f≠-1:=(by rintro rfl;rw [hh]at hl;cases hl);obtain⟨m,rfl⟩:∃m:Nat,f=(m:Int):=⟨f.toNat,by omega⟩;have hm:m<c.units.length:=by omega
  have e:Bv c.units nm A8 (m:Int)=((A8.length:Int),nm ++ [((m:Int),(A8.length:Int))],A8 ++ [c.units[m]]):=by unfold Bv;rw [hl];simp [List.getD_eq_getElem?_getD,Aj4 hm]
  rw [e];exact zf h.fc h.size ok.bn ok.bm m hl hm If CN
def dZ(w:World)(m:MapZ)(A8:List Bs)(e:Ending)(w':World):Prop:=
 ∃A Bk F c d g,e=.returned (As A Bk F m c d g)/\Bj m c d g/\Ae w' A (flat (Ai m.pts))/\Ae w' Bk (Au m.eds)/\Ae w' F (A8.map S)/\m.nf=A8.length/\Ac w w'
theorem rk{w:World}{b:Nat}{a0 a1 a2:Value}{t:TypeId}(v:Value)(h:w.heap[b]?=some (.cells #[a0,a1,a2] t)):(w.setCell ⟨b,0,none⟩ v).heap[b]?=some (.cells #[v,a1,a2] t):=by
 simp only [World.setCell,Array.getElem?_modify,h];simp
theorem ry{w:World}{b o:Nat}{cs:Array Value}{t:TypeId}{fz:Nat×Nat}{v:Value}(h:w.heap[b]?=some (.cells cs t fz))(hc:w.cell? ⟨b,o,none⟩=some v):cs[o]?=some v:=by
 cases e:cs[o]? with
 | some u=>
  have h2:=hc;simp [World.cell?,h,e]at h2;rw [←h2]
 | none=>simp [World.cell?,h,e]at hc
theorem Ht{l:List Pt}{j:Nat}(hj:j<(flat (Ai l)).length):∃s,(flat (Ai l))[j]=S s:=by
 have:=Aj0 hj;unfold flat at this;rw [List.mem_flatMap]at this;obtain⟨p,_,h⟩:=this;simp only [List.mem_cons,AjA,or_false]at h
 rcases h with h|h
 ·exact⟨_,h⟩
 ·exact⟨_,h⟩
theorem AdF{c:Cn}{E F:Value}{nm:List (Int×Int)}{A8:List Bs}{eds:List EdZ}{w:World}(_:Cs c E F nm A8 eds w):∃x,x=w:=⟨w,rfl⟩
theorem M1{w:World}{B:Nat}{e:TypeId}{s n c:Nat}{A:Option Addr}{xs:List Value}(hs:0<s)(h:w.ownsRow B e s (.slice A n c) n xs):Ae w A xs:=by
 obtain⟨A',c',e',h1,-,-⟩:=Ae.of_own' hs h;simp only [Value.slice.injEq]at e';rw [e'.1];exact h1
theorem wT{B B':Nat}{w w':World}{e:TypeId}{s n:Nat}{v:Value}{xs:List Value}(h:w.ownsRow B' e s v n xs)(hk:KB B w w')(h1:e≠35)(h2:e≠9)(h3:e≠118):w'.ownsRow B' e s v n xs:=by
 refine⟨h.1,?_⟩
 rcases h.2 with h'|⟨g,cap,cur,e1,e2,hgb,e4⟩
 ·exact .inl h'
 ·exact .inr ⟨g,cap,cur,e1,e2,hk.kp g cur e (0,0) h1 h2 h3 hgb,e4⟩
theorem AcA{pts:List Pt}(Ci:pts.Nodup){k:Nat}(hk:k<pts.length):∀e∈BR (pts.take k),Ay pts[k] e.1=false:=by
 intro e he
 have h1:e.1∈pts.take k:=by
  have:=List.mem_map_of_mem (f:=(·.1)) he
  rwa [Ac1]at this
 refine xW.2 fun h2=>?_;obtain⟨j,hj,h3⟩:=List.getElem_of_mem h1;rw [List.getElem_take]at h3;have hj':j<k:=(by rw [List.length_take]at hj;omega);have:=(List.getElem_inj (h₀:=by omega) (h₁:=hk) Ci).1 (h3.trans h2.symm);omega
def BP(w:World)(A:Option Addr)(t:TypeId):Prop:=∀x,A=some x→∃cs r,w.heap[x.block]?=some (.cells cs t r)
theorem BP.ext{w w':World}{A:Option Addr}{t:TypeId}(h:BP w A t)(hx:Ac w w'):BP w' A t:=fun x e=>by
 obtain⟨cs,r,hb⟩:=h x e;exact⟨cs,r,(hx.block _ (Ajx hb)).trans hb⟩
theorem BP.of_own{w:World}{B:Nat}{e:TypeId}{s n k c:Nat}{A:Option Addr}{xs:List Value}(h:w.ownsRow B e s (.slice A k c) n xs):BP w A e:=fun x hx=>by
 subst hx
 rcases h.2 with⟨h',_⟩|⟨g,cap,cur,h',_,hgb,_⟩
 ·simp at h'
 ·simp only [Value.slice.injEq,Aj3]at h';obtain⟨rfl,-,-⟩:=h';exact⟨_,_,hgb⟩
def eA(w:World)(m:MapZ)(A8:List Bs)(e:Ending)(w':World):Prop:=
 ∃A B F c d g,e=.returned (As A B F m c d g)/\dZ w m A8 e w'/\Bj m c d g/\Ae w' A (flat (Ai m.pts))/\Ae w' B (Au m.eds)/\Ae w' F (A8.map S)/\m.nf=A8.length/\Ac w w'/\BP w' A 27/\BP w' B 118/\BP w' F 9
theorem jO{w0 w:World}(hw:Ao w0)(hx:Ac w0 w){B0 r b1 b2:Nat}{L:List (Sg×Int)}{E:List (Pt×Value×Nat)}{R0:List (Pt×List Pt)}(h:Br B0 w r b1 b2 L E R0)
  (hz:∀e∈R0,Az 1 e.1/\∀p∈e.2,Az 1 p) (hlen:R0.length<=100000) (hrl:∀e∈R0,e.2.length<100000) (Ci:(R0.map (·.1)).Nodup) (hno:∀e∈R0,∀p q,e.2 = [p,q]→AM (Ar p e.1 q)≠0)
  (hL:∀e∈L,EW 1 e.1) (XV:L.length<=40000) (hback:∀e∈L,∃e'∈L,e'.1=AV e.1) (U:Option Addr) (cu:Nat) (units:List Bs) (hU:Ae w U (units.map S)) (FT:∀x,U=some x→x.block<w.heap.size) (If:units.length<=100000)
  (Kv:∀x∈L,-1<=x.2/\x.2<(units.length:Int)) {pts:List Pt} (K3:pts=Eh (R0.map (·.1))) {ws:List Sg} (KD:ws=BB (L.map (·.1))) {st:Fy} (hst:st=GH units (BR pts) L ws) :
  Calls Tryz.prog 110 #[.pointer (some ⟨r,0,none⟩),.slice U units.length cu] w (eA w ⟨pts,st.ed,st.fa.length⟩ st.fa):=by
 have hmm:=@run_makeMap Tryz.prog;have AiH:=Ajx h.cell;have AhW:=Ajx h.left;have sP:pts.Nodup:=(by rw [K3];exact(JA _).nodup_iff.2 Ci);have AbG:pts.length=R0.length:=(by rw [K3,(JA _).length_eq];simp);have E1:=((Ac.refl w).alloc (.cells #[.slice U units.length cu] 33)).alloc (.cells #[.slice none 0 0,.slice none 0 0,.slice none 0 0] 35);have O8:=Ajy w (.cells #[.slice U units.length cu] 33);have hbr:=Ajy (w.alloc (.cells #[.slice U units.length cu] 33)) (.cells #[.slice none 0 0,.slice none 0 0,.slice none 0 0] 35);rw [Aj6]at hbr;have qC:=(Below.heap_alloc (w.alloc (.cells #[.slice U units.length cu] 33)) (.cells #[.slice none 0 0,.slice none 0 0,.slice none 0 0] 35) w.heap.size (by simp)).trans O8;have lv:=Adf hw (hx.trans E1) (h.ext E1) hz hlen hrl Ci hno;have Dc:=h.ar.len;have DL:=h.ar.keys;have j8:=Ajw (fun i (hi:i<E.length)=>(h.ar.row i hi (by rw [←Dc];exact hi)).2.1)
 have nI:∀e∈E,Az 1 e.1:=fun e he=>by have:e.1∈R0.map (·.1):=(by rw [←DL];exact List.mem_map_of_mem he);obtain⟨e',he',h1⟩:=List.mem_map.1 this;rw [←h1];exact(hz e' he').1
 have Hg:=Ajw h;have ic:=Ajw nI;have HST:=Ajw hst;have Ls:=Ajw KD;have SN:=Ajw K3;have PM:=Ajw DL;have NQ:=Ajw (show E.length=pts.length by omega);have HU:=Ajw hU;have kq:=Ajw FT;have HL:=Ajw hL;have fq:=Ajw hback;have eW:=Ajw Kv;have jx:=Ajw sP;have hpl:pts.length<=100000:=(by omega);clear O8 h nI hst KD K3 DL Dc hU FT hL hback Kv sP AbG hz hlen hrl Ci hno;go_enter Tryz.func110,Tryz.ntmps110;have hs1:((w.alloc (.cells #[.slice U units.length cu] 33)).alloc (.cells #[.slice none 0 0,.slice none 0 0,.slice none 0 0] 35)).heap.size=w.heap.size+2:=by simp only [Aj6]
 go_upto_region 1 with fail
 generalize (w.alloc (.cells #[.slice U units.length cu] 33)).alloc (.cells #[.slice none 0 0,.slice none 0 0,.slice none 0 0] 35)=W1 at *;(go_wp2_with fail);(with_reducible refine lv.mono ?_);rintro e w2 ⟨rfl,hx2⟩;clear lv;have Ce:=E1.trans hx2;have Yp:=(hx2.block _ (Ajx qC)).trans qC;have hR2:=(hx2.block _ (Ajx hbr)).trans hbr;have hs2:=hx2.size;have Ji:=Hg.out.ext Ce;have m1:=Aa (o:=1) Ji.cell rfl;obtain⟨bm,AD⟩:=Ajv w2.heap.size;have kp:=fun W=>uS (some b2) W;have E3:=(Ac.refl w2).alloc (.cells #[.slice none 0 0,.slice none 0 0,.slice none 0 0] 35);have Cd:=Ajy w2 (.cells #[.slice none 0 0,.slice none 0 0,.slice none 0 0] 35);have m3:=E3.cellS m1
 go_upto_region 3 with fail
 rw [←AD]at Cd ⊢;generalize w2.alloc (.cells #[.slice none 0 0,.slice none 0 0,.slice none 0 0] 35)=W3 at *;have BL:=Ce.trans E3;have Gh:=Hg.out.ext BL;have AaS:w.heap.size+2<=bm:=(by omega);have pX:w.heap.size<=bm:=(by omega);have O3:=(E3.block _ (Ajx Yp)).trans Yp;have AA:=(E3.block _ (Ajx hR2)).trans hR2;clear AD m1 Ji hx2 Yp hR2 hs2;have E4:=(Ac.refl W3).alloc (.cells #[.map (some b2)] 163);have C2:=Ajy W3 (.cells #[.map (some b2)] 163);have sk:=zV hw ((hx.trans BL).trans E4) W3.heap.size b2 E j8.out (Ajx C2) (Aa C2 rfl) (Gh.ext E4).ar.blk ic.out (by have:=NQ.out;omega);rw [PM.out,←SN.out,NQ.out]at sk;(go_wp2_with fail);(with_reducible refine(kp _).mono ?_);rintro e w4 ⟨rfl,rfl⟩;(go_wp2_with fail);(with_reducible refine sk.mono ?_);rintro e w5 ⟨sv,rfl,Df,Ov⟩;obtain⟨pA,pc,rfl,hP5,sM,sN⟩:=Ae.of_own' (by omega) Df;have NL:=E4.trans Ov;have Jg:=(NL.block _ (Ajx Cd)).trans Cd;have y0:=Aa (o:=0) Jg rfl;have y1:=Aj (o:=0) Jg;have oL:=(NL.block _ (Ajx O3)).trans O3;have Gk:=(NL.block _ (Ajx AA)).trans AA;clear sk kp C2 E4 Ov Cd m3 O3 AA
 go_upto_region 5 with fail
 have XZ:=rk (.slice pA pts.length pc) Jg;have mr:Ac W3 w5:=NL;have QN:=BL.trans NL;have oV:Ac w (w5.setCell ⟨bm,0,none⟩ (.slice pA pts.length pc)):=QN.setCell (p:=⟨bm,0,none⟩) pX _;have nX:=Bw (K:=fun k=>k=bm) Df ((Ax.refl (fun k=>k=bm) w5).setCell (p:=⟨bm,0,none⟩) (.inl rfl) (.slice pA pts.length pc)) (fun k hk e=>by subst e;exact Bo Df Jg (by decide) hk);have EI:=(Ac.refl (w5.setCell ⟨bm,0,none⟩ (.slice pA pts.length pc))).alloc (.map #[] 0)
 have Nf:Hj ((w5.setCell ⟨bm,0,none⟩ (.slice pA pts.length pc)).alloc (.map #[] 0)) w5.heap.size (BR (pts.take 0)):=by have:=Ajy (w5.setCell ⟨bm,0,none⟩ (.slice pA pts.length pc)) (.map #[] 0);rw [World.size_setCell]at this;exact this
 have Fg:=(EI.block _ (Ajx XZ)).trans XZ;have LQ:=oV.trans EI;have O0:=A9 nX EI;have Yq:=(B7 (w:=w5) (p:=⟨bm,0,none⟩) (v:=.slice pA pts.length pc) (show w.heap.size≠bm by omega)).trans oL;have Yi:=(B7 (w:=w5) (p:=⟨bm,0,none⟩) (v:=.slice pA pts.length pc) (show w.heap.size+1≠bm by omega)).trans Gk;have TZ:=(EI.block _ (Ajx Yq)).trans Yq;have LL:=(EI.block _ (Ajx Yi)).trans Yi;obtain⟨bi,Uj⟩:=Ajv w5.heap.size;rw [←Uj]at Nf ⊢;have pU:w.heap.size<=bi:=(by have:=QN.size;omega);generalize (w5.setCell ⟨bm,0,none⟩ (.slice pA pts.length pc)).alloc (.map #[] 0)=W6 at *;clear Jg y0 y1 XZ mr QN oV nX EI hP5 NL Uj Gh BL Df oL Gk Yq Yi;have z0:=Aa (o:=0) Fg rfl;have hl0:(0:Int)<=(pts.length:Int):=by omega
 go_upto_region 6 with fail
 clear z0
 go_loopw [27] (fun iv wr=>∃k:Nat,iv=.int .i64 (k:Nat)/\k<=pts.length/\Hj wr bi (BR (pts.take k))/\Ax (fun q=>q=bi) W6 wr) (fun iv _=>pts.length-(intOf iv).toNat)
 case atStart=>exact⟨0,rfl,by omega,Nf,Ax.refl _ _⟩
 case round=>
  obtain⟨k,rfl,hk,hI,hB⟩:=hrel;have Ye:=Bw O0 hB (fun k hk e=>by subst e;exact Vi O0 Nf hk);have oC:Ae wr pA (flat (Ai pts)):=M1 (by omega) Ye;by_cases hkn:k<pts.length
  ·obtain⟨b,o,rfl,f1,f2⟩:=BW oC hkn;have hnew:=AcA jx.out hkn
   have Fo:BR (pts.take (k+1))=BR (pts.take k) ++ [(pts[k],(k:Int))]:=by rw [Aj2 hkn,Ac2,List.length_take,Nat.min_eq_left (by omega)]
   obtain⟨p,hp⟩:=Ajv (pts[k]);rw [←hp]at f1 f2 hnew Fo;have EA:=(Ac.refl wr).alloc (.cells #[S (R p.x),S (R p.y)] 27);have Av:=Ajy wr (.cells #[S (R p.x),S (R p.y)] 27);obtain⟨W8,hput,Jf,GT,-⟩:=(hI.ext EA).put p hnew (k:Int);rw [←Fo]at Jf;unfold Ak at hput;have hk0:(0:Int)<=(k:Int):=(by omega);have Dn:(k:Int)<(pts.length:Int):=(by omega);have q1:=Aa (o:=0) Av rfl;have q2:=Aa (o:=1) Av rfl;have Lq:=Ajw Fo;clear hp hnew Fo
   go_upto_region 8 with fail
   unfold S at Av q1 q2 hput GT EA;have TJ:=(hB.ext EA).grown GT (fun q e=>by cases e;exact .inl rfl);generalize wr.alloc (.cells #[.string ⟨(R p.x).toArray⟩,.string ⟨(R p.y).toArray⟩] 27)=V at *;clear Av EA GT;go_wp2;go_roundw
   case rel=>exact⟨k+1,by go_num,hkn,Jf,TJ⟩
   case measure=>simp [intOf];omega
  ·have CP:k=pts.length:=(by omega);subst CP;have hd:decide (pts.length<pts.length)=false:=(by simp);have C9:decide ((pts.length:Int)<(pts.length:Int))=false:=(by simp);rw [List.take_length]at hI;have nP:bm≠bi:=fun e=>L6 Fg Nf e;have Ep:=(hB.block _ (Ajx Fg) nP).trans Fg;have Yv:=(hB.block _ (Ajx TZ) (fun e=>L6 TZ Nf e)).trans TZ;have O1:=(hB.block _ (Ajx LL) (fun e=>L6 LL Nf e)).trans LL;have BQ:Ac w wr:=hB.toExt LQ (fun q e=>by subst e;exact pU);have pT:=Ajx hI;have E9:=(Ac.refl wr).alloc (.map #[] 0);have QC:CE (wr.alloc (.map #[] 0)) wr.heap.size []:=Ajy wr (.map #[] 0);obtain⟨Ly,hput,XR,qU,ZB⟩:=QC.put (-1) (-1) rfl;have Lj:=(Ac.refl Ly).alloc (.cells #[.map (some wr.heap.size)] 237);have AO:=Ajy Ly (.cells #[.map (some wr.heap.size)] 237);rw [Aj6]at ZB;have LP:Ax (fun j=>j=wr.heap.size) wr Ly:=((Ax.refl _ wr).ext E9).grown qU (fun k e=>by cases e;exact .inl rfl);have nD:Ac wr Ly:=LP.toExt (Ac.refl wr) (fun k e=>by subst e;exact Ajz _);have MC:=nD.trans Lj
   go_upto_region 10 with fail
   go_upto_region 12 with fail
   rw [ZB]at AO;have Yb:CE (Ly.alloc (.cells #[.map (some wr.heap.size)] 237)) wr.heap.size [(-1,-1)]:=(Lj.block _ (Ajx XR)).trans XR;have QD:=(MC.block _ (Ajx Ep)).trans Ep;have oK:=(MC.block _ (Ajx Yv)).trans Yv;have TV:=(MC.block _ (Ajx O1)).trans O1;have Kg:=hI.ext MC;have nW:=A9 Ye MC;have Ni:=BQ.trans MC;have TY:=Ajx O1;have AbQ:=Ni.size;clear QC hput XR qU Lj LP nD Ep Yv O1 hI Ye BQ E9 oC hB Fg Nf LQ O0 TZ LL nP;clear hmm ZB MC;generalize Ly.alloc (.cells #[.map (some wr.heap.size)] 237)=W11 at *;obtain⟨bn,Dd⟩:=Ajv wr.heap.size;rw [←Dd]at AO Yb pT TY ⊢;clear Dd;have QF:=Hg.out.ext Ni;have O3:Ae W11 U (units.map S):=HU.out.ext Ni;have mV:w.heap.size+2<=W11.heap.size:=(by have:=Ajx TV;omega);obtain⟨c,hc⟩:=Ajv (⟨w.heap.size+2,bn+1,bn,bm,w.heap.size,bi,r,b1,b2,U,cu,units,.slice pA pts.length pc,BR pts,L⟩:Cn)
   have ok:c.Ok:=by subst hc;exact⟨show r<w.heap.size+2 by omega,show b1<w.heap.size+2 by omega,show w.heap.size+2<=bn by omega,show w.heap.size+2<=bm by omega,show bi≠bn by omega⟩
   have mX:Cs c (.slice none 0 0) (.slice none 0 0) [(-1,-1)] [] [] W11:=by subst hc;exact⟨⟨AO,Yb,QD,⟨rfl,.inl ⟨rfl,rfl⟩⟩,oK,O3,fun x hx=>by have:=kq.out x hx;simp only;omega⟩,⟨QF.cell,QF.left,Kg⟩,⟨rfl,.inl ⟨rfl,rfl⟩⟩,mV⟩
   have m11:=Aa (o:=0) QF.cell rfl;have kw:=fun W=>aF (some b1) W;have SC:=(Ac.refl W11).alloc (.cells #[.map (some b1)] 162);have C2:=Ajy W11 (.cells #[.map (some b1)] 162);have sk:=dF hw ((hx.trans Ni).trans SC) W11.heap.size b1 L (Ajx C2) (Aa C2 rfl) (QF.ext SC).left HL.out (by omega);rw [←Ls.out]at sk;have hwl:ws.length=L.length:=by rw [Ls.out,(IL _).length_eq];simp
   have UD:∀s∈ws,∃e∈L,e.1=s:=fun s hs=>by rw [Ls.out]at hs;obtain⟨e,he,h1⟩:=List.mem_map.1 ((IL _).mem_iff.1 hs);exact⟨e,he,h1⟩
   rw [←hwl]at sk XV;have Wq:=Ajw UD;have HC:=Ajw hc;clear hwl UD hc AO Yb QD oK Kg O3;(go_wp2_with fail);(with_reducible refine(kw _).mono ?_);rintro e DW ⟨rfl,rfl⟩;(go_wp2_with fail);(with_reducible refine sk.mono ?_);rintro e Lf ⟨sv,rfl,hS13,Iy⟩;obtain⟨sA,sc,rfl,-,-,-⟩:=Ae.of_own' (by omega) hS13;have PG:=SC.trans Iy;have Aau:=mX.ext PG;have oS:=Ni.trans PG;have Aa6:=A9 nW PG;have Aa9:=(PG.block _ (Ajx TV)).trans TV;have hf0:(⟨[(-1,-1)],[],[]⟩:Fy)=GH units (BR pts) L (ws.take 0):=rfl;have hk0:PD 0 (⟨[(-1,-1)],[],[]⟩:Fy):=⟨rfl,Ajz _,Ajz _⟩;clear kw sk C2 SC Iy m11 mX Ni QF nW TV PG mV AaS pX pU pT TY AbQ hd C9;have hl2:(0:Int)<=(ws.length:Int):=by omega
   go_upto_region 13 with fail
   go_loopw [46] (fun iv wr=>∃(k:Nat) (E F:Value) (s:Fy),iv=.int .i64 (k:Nat)/\k<=ws.length/\s=GH units (BR pts) L (ws.take k)/\PD k s/\Cs c E F s.nm s.fa s.ed wr/\KB c.B Lf wr) (fun iv _=>ws.length-(intOf iv).toNat)
   case atStart=>exact⟨0,_,_,_,rfl,by omega,hf0,hk0,Aau,KB.refl _ _⟩
   case round=>
    obtain⟨k,E,F,s,rfl,hk,hs,Ap,hC,hK⟩:=hrel;have LN:=wT hS13 hK (by decide) (by decide) (by decide);by_cases hkn:k<ws.length
    ·obtain⟨b,o,rfl,f1,f2,f3,f4⟩:=J4 (M1 (by omega) LN) hkn;obtain⟨e1,Kp,Kq⟩:=Wq.out _ (Aj0 hkn);have hsz:EW 1 ws[k]:=by rw [←Kq];exact HL.out e1 Kp
     have Zl:-1<=AI ws[k] L/\AI ws[k] L<(units.length:Int):=by obtain⟨e2,H5,h2⟩:=UO (s:=ws[k]) (L:=L) (by rw [←Kq];exact List.mem_map_of_mem Kp);rw [h2];exact eW.out e2 H5
     have Zm:-1<=AI (AV ws[k]) L/\AI (AV ws[k]) L<(units.length:Int):=by obtain⟨e3,Jm,h3⟩:=fq.out e1 Kp;obtain⟨e2,H5,h2⟩:=UO (s:=AV ws[k]) (L:=L) (by rw [←Kq,←h3];exact List.mem_map_of_mem Jm);rw [h2];exact eW.out e2 H5
     have Fo:GH units (BR pts) L (ws.take (k+1))=JO units (BR pts) L s ws[k]:=by rw [Aj2 hkn,su,←hs]
     have Rx:=Ap.step units (BR pts) L ws[k];obtain⟨x,hxx⟩:=Ajv (ws[k]);rw [←hxx]at f1 f2 f3 f4 hsz Zl Zm Fo Rx;have Lq:=Ajw Fo;have HS:=Ajw hs;have Aiy:(0:Int)<=(k:Int):=(by omega);have Dn:(k:Int)<(ws.length:Int):=(by omega);have EA:=(Ac.refl wr).alloc (.cells #[S (R x.a.x),S (R x.a.y),S (R x.b.x),S (R x.b.y)] 175);have Av:=Ajy wr (.cells #[S (R x.a.x),S (R x.a.y),S (R x.b.x),S (R x.b.y)] 175);have BQ:Ac w wr:=oS.trans_below hK.bl (by have:=HC.out;rw [this];simp only;omega);have Pl:=fun (V:World) (hV:Ac wr V)=>Ih x.a x.b hsz.a hsz.b (by omega) (by omega) V (hw.ext ((hx.trans BQ).trans hV));clear hxx Fo hs Kq Kp e1
     go_upto_region 15 with fail
     unfold S at Av EA;have Uc:IZ (wr.alloc (.cells #[.string ⟨(R x.a.x).toArray⟩,.string ⟨(R x.a.y).toArray⟩,.string ⟨(R x.b.x).toArray⟩,.string ⟨(R x.b.y).toArray⟩] 175)) wr.heap.size x:=Av;generalize wr.alloc (.cells #[.string ⟨(R x.a.x).toArray⟩,.string ⟨(R x.a.y).toArray⟩,.string ⟨(R x.b.x).toArray⟩,.string ⟨(R x.b.y).toArray⟩] 175)=V at *;obtain⟨Cr,pI⟩:=Ajv wr.heap.size;rw [←pI]at Av Uc ⊢;clear pI f1 f2 f3 f4;have y0:=Aa (o:=0) Av rfl;have y1:=Aa (o:=1) Av rfl;have y2:=Aa (o:=2) Av rfl;have y3:=Aa (o:=3) Av rfl;have p1:=Pl V EA;obtain⟨z,hz⟩:=Ajv (Bd x.a x.b);rw [←hz]at p1;unfold Ak S at p1;(go_wp2_with fail);(with_reducible refine p1.mono ?_);rintro e w3 ⟨rfl,hx3⟩;have X3:=EA.trans hx3;have TM:=hC.ext X3;have hK3:=hK.trans (KB.ext X3 hC.size);have hW3:IZ w3 Cr x:=(hx3.block _ (Ajx Uc)).trans Uc;clear p1 Pl y0 y1 y2 y3 Av Uc;by_cases Mk:z<0
     ·have hce:JO units (BR pts) L s x=L1 units (BR pts) L s x:=(by unfold JO;rw [if_pos (by rw [←hz];exact Mk)]);rw [hce]at Rx;have SI:=Ajw hce;have hfa:=Ap.fa;have Es:=Ap.ed;have AQ:c.units=units:=(by rw [HC.out]);have Xy:=fun (V:World) (F':Value) (h:Cs c E F' s.nm s.fa s.ed V)=>mA ok h Ap.h (AI x L) Zl.1 (by rw [AQ];exact Zl.2) (by rw [AQ];exact If) (by omega);have H9:=aO units s.nm s.fa (AI x L);have hh1:=aN units s.fa (AI x L) Ap.h;have mC:=fun (V:World) (F':Value) (h:Cs c E F' (Bv units s.nm s.fa (AI x L)).2.1 (Bv units s.nm s.fa (AI x L)).2.2 s.ed V)=>mA ok h hh1 (AI (AV x) L) Zm.1 (by rw [AQ];exact Zm.2) (by rw [AQ];exact If) (by omega);rw [AQ]at Xy mC
      have mB:∀(V:World) (F':Value) (h:Cs c E F' s.nm s.fa s.ed V),Calls Tryz.prog 198 #[.int .i64 (AI x L),.pointer (some ⟨bn+1,0,none⟩),.pointer (some ⟨bm,0,none⟩),.pointer (some ⟨w.heap.size,0,none⟩)] V (NM V c.B c.bx c.bn c.bm c.bu c.U c.cu c.units c.P E F' (Bv units s.nm s.fa (AI x L)).1 (Bv units s.nm s.fa (AI x L)).2.1 (Bv units s.nm s.fa (AI x L)).2.2):=by intro V F' h;have t:=Xy V F' h;rw [←AQ]at t;rw [←AQ];have hc:=HC.out;rw [show (bn+1)=c.bx by rw [hc],show bm=c.bm by rw [hc],show w.heap.size=c.bu by rw [hc]];exact t
      have Wn:=Ajw AQ;have ii:=Ajw mC;have Ou:=TM.ext (Ac.refl w3).drew;have lk:=M7 x L (W:=w3.drew) (by have:=Ou.rd.left;rw [HC.out]at this;exact this);have Ky:=Ou.rd.net;rw [HC.out]at Ky;simp only at Ky;have m1:=Aa (o:=0) Ky rfl;have hwd:IZ w3.drew Cr x:=hW3;have g0:=Aa (o:=0) hwd rfl;have g1:=Aa (o:=1) hwd rfl;have g2:=Aa (o:=2) hwd rfl;have g3:=Aa (o:=3) hwd rfl;unfold AC at lk;have Xx:=mB _ F Ou;have Acj:w3.drew.heap[Cr]?=some (.cells #[S (R x.a.x),S (R x.a.y),S (R x.b.x),S (R x.b.y)] 175 (0,0)):=hW3;clear Xy mB H9 AQ Ky hwd hce;obtain⟨zl,hzl⟩:=Ajv ((Bv units s.nm s.fa (AI x L)).1);rw [←hzl]at Xx;have SY:=Ajw hzl;clear hzl
      go_upto_region 16 with fail
      go_cut [13] (fun v13 wx=>v13=.int .i64 zl/\∃F',Cs c E F' (Bv units s.nm s.fa (AI x L)).2.1 (Bv units s.nm s.fa (AI x L)).2.2 s.ed wx/\KB c.B Lf wx/\IZ wx Cr x)
      case first=>
       go_region_with ((with_reducible refine Xx.mono ?_);rintro e w4 ⟨F4,rfl,Kf,TI⟩)
       all_goals go_wp2
       all_goals go_meet
       all_goals (
        have GN:=KB.named ok Ou TI
        refine⟨rfl,F4,Ou.named ok (by rw [Wn.out]at Kf ⊢;exact Kf) TI,(hK3.trans (KB.ext (Ac.refl w3).drew TM.size)).trans GN,GN.kp Cr _ _ _ (by decide) (by decide) (by decide) Acj⟩)
      case rest=>
       obtain⟨rfl,F4,mY,hK4,Yy⟩:=hcut;obtain⟨W9,rfl⟩:=AdF mY;have qQ:=ii.out
       have Ur:∀(V:World) (F':Value),Cs c E F' (Bv units s.nm s.fa (AI x L)).2.1 (Bv units s.nm s.fa (AI x L)).2.2 s.ed V→Calls Tryz.prog 198 #[.int .i64 (AI (AV x) L),.pointer (some ⟨c.bx,0,none⟩),.pointer (some ⟨c.bm,0,none⟩),.pointer (some ⟨c.bu,0,none⟩)] V (NM V c.B c.bx c.bn c.bm c.bu c.U c.cu c.units c.P E F' (Bv units (Bv units s.nm s.fa (AI x L)).2.1 (Bv units s.nm s.fa (AI x L)).2.2 (AI (AV x) L)).1 (Bv units (Bv units s.nm s.fa (AI x L)).2.1 (Bv units s.nm s.fa (AI x L)).2.2 (AI (AV x) L)).2.1 (Bv units (Bv units s.nm s.fa (AI x L)).2.1 (Bv units s.nm s.fa (AI x L)).2.2 (AI (AV x) L)).2.2):=by intro V F' h';have t:=qQ V F' h';rw [←Wn.out]at t;rw [←Wn.out];exact t
       clear qQ lk m1 g0 g1 g2 g3 Xx Ou TM hK3 hW3;have hel:s.ed.length<200000:=by omega
       go_upto_region 17 with fail
       refine Afw (c:=c) ok mY Yy hel zl (G0 x.a (BR pts)) (G0 x.b (BR pts)) (AI (AV x) L) _ (by rw [HC.out]) (by rw [HC.out]) (by rw [HC.out]) Ur rfl (by kernel_rfl) (by kernel_rfl) (by simp) (by rw [HC.out];rfl) (by rw [HC.out];rfl) rfl rfl (by rw [HC.out];rfl) (by rw [HC.out];rfl) ?_;intro v w9 E9 F9 XM hK9;simp only [List.take_succ_cons,List.take_zero,List.drop_succ_cons,List.drop_zero,List.cons_append,List.nil_append,show List.range 24 = [0,1,2,3,4,5,6,7,8,9,10,11,12,13,14,15,16,17,18,19,20,21,22,23] from rfl,List.map_cons,List.map_nil];clear Ur;have VL:=Ajw (show L1 units (BR pts) L s x=GH units (BR pts) L (ws.take (k+1))by rw [Lq.out,SI.out])
       have Aav:Cs c E9 F9 (L1 units (BR pts) L s x).nm (L1 units (BR pts) L s x).fa (L1 units (BR pts) L s x).ed w9:=by have hz:=SY.out;rw [hz]at XM;exact XM
       clear XM;go_wp2;go_roundw
       case rel=>exact⟨k+1,E9,F9,L1 units (BR pts) L s x,by go_num,hkn,VL.out,Rx,Aav,hK4.trans hK9⟩
       case measure=>simp [intOf];omega
     ·have hce:JO units (BR pts) L s x=s:=(by unfold JO;rw [if_neg (by rw [←hz];exact Mk)]);rw [hce]at Rx;have VL:=Ajw (show s=GH units (BR pts) L (ws.take (k+1))by rw [Lq.out,hce]);clear hce hz;go_wp2;go_roundw
      case rel=>exact⟨k+1,E,F,s,by go_num,hkn,VL.out,Rx,TM,hK3⟩
      case measure=>simp [intOf];omega
    ·have CP:k=ws.length:=(by omega);subst CP;have qN:decide (ws.length<ws.length)=false:=(by simp);have Ail:decide ((ws.length:Int)<(ws.length:Int))=false:=(by simp);rw [List.take_length,←HST.out]at hs;subst hs;obtain⟨oE,cE,rfl,hE9,BK,Ca⟩:=Ae.of_own' (by omega) hC.own;obtain⟨oF,cF,rfl,hF9,nJ,hF2⟩:=Ae.of_own' (by omega) hC.fc.fac;have Gl:=(hK.bl.block _ (by rw [HC.out];show w.heap.size+1<w.heap.size+2;omega)).trans Aa9;have QZ:=hC.fc.cM;have hcb:c.bm=bm/\c.P=.slice pA pts.length pc/\c.B=w.heap.size+2:=(by rw [HC.out];exact⟨rfl,rfl,rfl⟩);rw [hcb.1,hcb.2.1]at QZ;have QJ:=wT Aa6 hK (by decide) (by decide) (by decide);have Cf:Ac w wr:=oS.trans_below hK.bl (by rw [hcb.2.2];omega);have m0:=Aa (o:=0) QZ rfl;have m1:=Aa (o:=1) QZ rfl;have m2:=Aa (o:=2) QZ rfl;have r0:=Aa (o:=0) Gl rfl;have r1:=Aa (o:=1) Gl rfl;have r2:=Aa (o:=2) Gl rfl;have r3:=Aj (o:=0) Gl;have r4:=Aj (o:=1) Gl;have r5:=Aj (o:=2) Gl;have A7:=Ck (.slice pA pts.length pc) (.slice oE s.ed.length cE) (.slice oF s.fa.length cF) Gl;have bb:=(((Ax.refl (fun q=>q=w.heap.size+1) wr).setCell (p:=⟨w.heap.size+1,0,none⟩) (.inl rfl) (.slice pA pts.length pc)).setCell (p:=⟨w.heap.size+1,1,none⟩) (.inl rfl) (.slice oE s.ed.length cE)).setCell (p:=⟨w.heap.size+1,2,none⟩) (.inl rfl) (.slice oF s.fa.length cF);have f1:=M1 (by omega) (Bw QJ bb (fun q hq e=>by subst e;exact Bo QJ Gl (by decide) hq));have f2:=M1 (by omega) (Bw hC.own bb (fun q hq e=>by subst e;exact Bo hC.own Gl (by decide) hq));have f3:=M1 (by omega) (Bw hC.fc.fac bb (fun q hq e=>by subst e;exact Bo hC.fc.fac Gl (by decide) hq));have y1:BP (((wr.setCell ⟨w.heap.size+1,0,none⟩ (.slice pA pts.length pc)).setCell ⟨w.heap.size+1,1,none⟩ (.slice oE s.ed.length cE)).setCell ⟨w.heap.size+1,2,none⟩ (.slice oF s.fa.length cF)) pA 27:=BP.of_own (Bw QJ bb (fun q hq e=>by subst e;exact Bo QJ Gl (by decide) hq));have y2:BP (((wr.setCell ⟨w.heap.size+1,0,none⟩ (.slice pA pts.length pc)).setCell ⟨w.heap.size+1,1,none⟩ (.slice oE s.ed.length cE)).setCell ⟨w.heap.size+1,2,none⟩ (.slice oF s.fa.length cF)) oE 118:=BP.of_own (Bw hC.own bb (fun q hq e=>by subst e;exact Bo hC.own Gl (by decide) hq));have y3:BP (((wr.setCell ⟨w.heap.size+1,0,none⟩ (.slice pA pts.length pc)).setCell ⟨w.heap.size+1,1,none⟩ (.slice oE s.ed.length cE)).setCell ⟨w.heap.size+1,2,none⟩ (.slice oF s.fa.length cF)) oF 9:=BP.of_own (Bw hC.fc.fac bb (fun q hq e=>by subst e;exact Bo hC.fc.fac Gl (by decide) hq));have Hx:=bb.toExt Cf (fun q e=>by subst e;omega);have t1:=Aa (o:=0) A7 rfl;have t2:=Aa (o:=1) A7 rfl;have t3:=Aa (o:=2) A7 rfl
     have Cg:eA w ⟨pts,s.ed,s.fa.length⟩ s.fa (.returned (As pA oE oF ⟨pts,s.ed,s.fa.length⟩ pc cE cF)) (((wr.setCell ⟨w.heap.size+1,0,none⟩ (.slice pA pts.length pc)).setCell ⟨w.heap.size+1,1,none⟩ (.slice oE s.ed.length cE)).setCell ⟨w.heap.size+1,2,none⟩ (.slice oF s.fa.length cF)):=
      ⟨pA,oE,oF,pc,cE,cF,rfl,⟨pA,oE,oF,pc,cE,cF,rfl,⟨sM,sN,BK,Ca,nJ,hF2⟩,f1,f2,f3,rfl,Hx⟩,⟨sM,sN,BK,Ca,nJ,hF2⟩,f1,f2,f3,rfl,Hx,y1,y2,y3⟩
     have BX:=Ajw Cg;clear Cg Hx f1 f2 f3 y1 y2 y3 bb A7 Gl QZ hC hK QJ Cf;go_wp2;refine bodyPost_ret (v:=.agg #[.slice pA pts.length pc,.slice oE s.ed.length cE,.slice oF s.fa.length cF]) (by simp [results,Tryz.results110,go_sem,t1,t2,t3]) rfl ?_;exact BX.out
theorem sw{w0 w:World}(hw:Ao w0)(hx:Ac w0 w){B0 r b1 b2:Nat}{L:List (Sg×Int)}{E:List (Pt×Value×Nat)}{R0:List (Pt×List Pt)}(h:Br B0 w r b1 b2 L E R0)
  (hz:∀e∈R0,Az 1 e.1/\∀p∈e.2,Az 1 p) (hlen:R0.length<=100000) (hrl:∀e∈R0,e.2.length<100000) (Ci:(R0.map (·.1)).Nodup) (hno:∀e∈R0,∀p q,e.2 = [p,q]→AM (Ar p e.1 q)≠0)
  (hL:∀e∈L,EW 1 e.1) (XV:L.length<=40000) (hback:∀e∈L,∃e'∈L,e'.1=AV e.1) (U:Option Addr) (cu:Nat) (units:List Bs) (hU:Ae w U (units.map S)) (FT:∀x,U=some x→x.block<w.heap.size) (If:units.length<=100000)
  (Kv:∀x∈L,-1<=x.2/\x.2<(units.length:Int)) {pts:List Pt} (K3:pts=Eh (R0.map (·.1))) {ws:List Sg} (KD:ws=BB (L.map (·.1))) {st:Fy} (hst:st=GH units (BR pts) L ws) :
  Calls Tryz.prog 110 #[.pointer (some ⟨r,0,none⟩),.slice U units.length cu] w (dZ w ⟨pts,st.ed,st.fa.length⟩ st.fa):=
 (jO hw hx h hz hlen hrl Ci hno hL XV hback U cu units hU FT If Kv K3 KD hst).mono fun _ _ h=>by obtain⟨_,_,_,_,_,_,_,h,_⟩:=h;exact h
end Go.Proofs.YtgnejnampofhoaaGreatDoor
