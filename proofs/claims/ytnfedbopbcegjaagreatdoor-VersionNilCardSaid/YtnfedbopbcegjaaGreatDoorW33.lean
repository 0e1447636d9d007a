/- W33. -/
import Derived.Test.YtnfedbopbcegjaaGreatDoorW29
import Derived.Test.YtnfedbopbcegjaaGreatDoorW30
import Derived.Test.YtnfedbopbcegjaaGreatDoorW32
set_option maxRecDepth 100000
set_option maxHeartbeats 8000000
namespace Go.Proofs.YtnfedbopbcegjaaGreatDoor
section
open Go.RowKit Kl
open Go.ChangeMaps (setBlock)
theorem tW:Jw 205 28 3 (.int .i64 0) Ag Ah where
 map:=Tryz.underlying205
 st:=⟨_,Tryz.underlying28⟩
 zero:=fun W=>by simp [go_sem]
 eq:=jH
 chk:=gJ
 iff:=BN
 bits:=fun x=>by unfold Ag;simp [Instr.sameBits,beq_toListBytes]
def Kw(L:List (Pt×Int)):List (Pt×Value×Nat):=L.mapIdx fun i e=>(e.1,.int .i64 e.2,i)
theorem Ahc(L:List (Pt×Int))(e:Pt×Int):Kw (L ++ [e])=Kw L ++ [(e.1,.int .i64 e.2,L.length)]:=by simp [Kw,List.mapIdx_append]
theorem Ahb{L:List (Pt×Int)}{x:Pt×Value×Nat}(h:x∈Kw L):∃e∈L,x.1=e.1:=by
 unfold Kw at h;rw [List.mem_mapIdx]at h;obtain⟨i,hi,rfl⟩:=h;exact⟨L[i],AjO hi,rfl⟩
def GX(p:Pt)(L:List (Pt×Int)):Int:=match L.find? (fun e=>Ah p e.1)with|some e=>e.2|none=>0
theorem AdZ(p:Pt)(L:List (Pt×Int)):Fp Ah (.int .i64 0) p (Kw L)=.int .i64 (GX p L):=by
 have h:∀(L:List (Pt×Int)) (n:Nat),Fp Ah (.int .i64 0) p (L.mapIdx fun i e=>(e.1,.int .i64 e.2,i+n))=.int .i64 (GX p L):=by
  intro L
  induction L with
  | nil=>intro n;simp [Fp,GX]
  | cons e L ih=>
   intro n;rw [List.mapIdx_cons];unfold Fp GX;rw [List.find?_cons,List.find?_cons];simp only
   cases hb:Ah p e.1
   ·simp only;have:=ih (n+1)
    have e1:(L.mapIdx fun i e=>(e.1,Value.int .i64 e.2,i+1+n))=L.mapIdx fun i e=>(e.1,Value.int .i64 e.2,i+(n+1)):=by congr 1;funext i e;rw [show i+1+n=i+(n+1)by omega]
    rw [e1];unfold Fp GX at this;exact this
   ·rfl
 exact h L 0
def G4(W:World)(b:Nat)(l:List (Pt×Int)):Prop:=W.heap[b]?=some (.map (Az Ag (Kw l)).toArray l.length)
theorem G4.ext{W W':World}{b:Nat}{l:List (Pt×Int)}(h:G4 W b l)(hx:Aa W W'):G4 W' b l:=(hx.block b (AjL h)).trans h
theorem G4.put{W:World}{b:Nat}{l:List (Pt×Int)}(h:G4 W b l)(p:Pt)(hno:∀e∈l,Ah p e.1=false)(z:Int) :
  ∃W',(Instr.mapUpdate 205 (.map (some b)) (Ag p) (.int .i64 z)).run Tryz.prog W=.ok () W'/\G4 W' b (l ++ [(p,z)])/\W.grownBy W' (some b)/\W'.heap.size=W.heap.size:=by
 refine⟨_,aL tW p (Kw l) (fun e he=>by obtain⟨e',h1,h2⟩:=Ahb he;rw [h2];exact hno e' h1) (.int .i64 z) h,?_,J9 h,by simp [setBlock]⟩;unfold G4;rw [Kr h,Ahc,List.length_append]
 rfl
theorem G4.look{W:World}{b:Nat}{l:List (Pt×Int)}(h:G4 W b l)(p:Pt):(Instr.lookup 205 (.map (some b)) (Ag p) false).run Tryz.prog W=.ok (.int .i64 (GX p l)) W:=by
 rw [OG tW p (Kw l) h,AdZ]
theorem yJ(k:Int)(l:List (Int×Int)){b clock:Nat}{W:World}(hb:W.heap[b]?=some (.map (J6 l).toArray clock)) :
  (Instr.lookup 206 (.map (some b)) (.int .i64 k) false).run Tryz.prog W=.ok (.int .i64 ((C7 k l).getD 0)) W:=by
 obtain⟨x,h1,h2⟩:=WG k l W;have hz:(zeroValue 3).run Tryz.prog W=.ok (.int .i64 0) W:=(by simp [go_sem]);have hc:∀b,(Instr.checkKey b 10000 3 (.int .i64 k)).run Tryz.prog W=.ok () W:=fun b=>MapKept.run_checkKey (k:=.int .i64 k) Tryz.underlying3 (by simp [MapKept.IsKey]) b 9999;have hm:=run_underlying (w:=W) Tryz.underlying206
 cases h:C7 k l with
 | none=>
  rw [h]at h2;have hx:x=none:=(by simpa using h2);subst hx;simp [Instr.lookup,hm,MapKept.run_getObj_map hb,hc,h1,hz,Result.andThen]
 | some z=>rw [h]at h2;obtain⟨⟨i,v⟩,rfl,hv⟩:=Option.map_eq_some_iff.1 h2;simp only at hv;subst hv;simp [Instr.lookup,hm,MapKept.run_getObj_map hb,hc,h1,Result.andThen]
theorem Al.mono{K K':Nat→Prop}{w w':World}(h:Al K w w')(hk:∀k,K k→K' k):Al K' w w':=⟨h.os,h.tape,h.output,h.size,fun k h1 h2=>h.block k h1 (fun h3=>h2 (hk k h3))⟩
structure Ga(wr:World)(B bx bn bm bu:Nat)(U:Option Addr)(cu:Nat)(units:List Bs)(P E F:Value)(nm:List (Int×Int))(faces:List Bs):Prop where
 cN:wr.heap[bx]?=some (.cells #[.map (some bn)] 206)
 num:EW wr bn nm
 cM:wr.heap[bm]?=some (.cells #[P,E,F] 44)
 fac:wr.ownsRow B 9 1 F faces.length (faces.map S)
 cU:wr.heap[bu]?=some (.cells #[.slice U units.length cu] 33)
 uni:Ad wr U (units.map S)
 uB:∀x,U=some x→x.block<B
theorem Ga.extn{w w':World}{B bx bn bm bu:Nat}{U:Option Addr}{cu:Nat}{units:List Bs}{P E F:Value}{nm:List (Int×Int)}{faces:List Bs}(h:Ga w B bx bn bm bu U cu units P E F nm faces)(hx:Aa w w'):Ga w' B bx bn bm bu U cu units P E F nm faces:=
 ⟨(hx.block _ (AjL h.cN)).trans h.cN,(hx.block _ (AjL h.num)).trans h.num,(hx.block _ (AjL h.cM)).trans h.cM,Am h.fac hx,(hx.block _ (AjL h.cU)).trans h.cU,h.uni.ext hx,h.uB⟩
theorem Ga.far{w w':World}{B bx bn bm bu:Nat}{U:Option Addr}{cu:Nat}{units:List Bs}{P E F:Value}{nm:List (Int×Int)}{faces:List Bs}(h:Ga w B bx bn bm bu U cu units P E F nm faces){K:Nat→Prop}(hb:Al K w w')
  (k1:¬K bx) (k2:¬K bn) (k3:¬K bm) (k4:¬K bu) (k5:∀k,F.ownBlock=some k→¬K k) (k6:∀x,U=some x→0<units.length→¬K x.block):Ga w' B bx bn bm bu U cu units P E F nm faces:=by
 refine⟨(hb.block _ (AjL h.cN) k1).trans h.cN,(hb.block _ (AjL h.num) k2).trans h.num,(hb.block _ (AjL h.cM) k3).trans h.cM,Bf h.fac hb k5,(hb.block _ (AjL h.cU) k4).trans h.cU,⟨fun h0=>?_⟩,h.uB⟩;obtain⟨b,o,e,hc⟩:=h.uni.ad h0;refine⟨b,o,e,fun j hj=>?_⟩;have h1:=hc j hj;exact(World.cell?_of_block (a:=⟨b,o+j,none⟩) (hb.block b (World.block_lt_of_cell? w _ h1) (k6 _ e (by simpa using h0)))).trans h1
def Nl(w:World)(B bx bn bm bu:Nat)(U:Option Addr)(cu:Nat)(units:List Bs)(P E F:Value)(z:Int)(ET:List (Int×Int))(AG:List Bs)(e:Ending)(w':World):Prop:=
 ∃F',e=.returned (.int .i64 z)/\Ga w' B bx bn bm bu U cu units P E F' ET AG/\Al (fun k=>k=bn∨k=bm∨F.ownBlock=some k) w w'
theorem Aau{w:World}{B bx bn bm bu:Nat}{U:Option Addr}{cu:Nat}{units:List Bs}{P E F:Value}{nm:List (Int×Int)}{faces:List Bs}(h:Ga w B bx bn bm bu U cu units P E F nm faces)(f z:Int)(hf:C7 f nm=some z) :
  Calls Tryz.prog 126 #[.int .i64 f,.pointer (some ⟨bx,0,none⟩),.pointer (some ⟨bm,0,none⟩),.pointer (some ⟨bu,0,none⟩)] w (Nl w B bx bn bm bu U cu units P E F z nm faces):=by
 have k0:=Ab (o:=0) h.cN rfl;have lk:=aJ f nm h.num;have uJ:=yJ f nm h.num;rw [hf]at lk uJ;simp only [Option.getD_some,Option.isSome_some]at lk uJ;go_enter Tryz.func126,Tryz.ntmps126;go_wp2;go_ret;exact⟨F,rfl,h,Al.refl _ _⟩
theorem Aat{w:World}{B bx bn bm bu:Nat}{U:Option Addr}{cu:Nat}{units:List Bs}{P E F:Value}{nm:List (Int×Int)}{faces:List Bs}(h:Ga w B bx bn bm bu U cu units P E F nm faces)(hB:B<=w.heap.size)(hBn:B<=bn)(hBm:B<=bm)(m:Nat)(hf:C7 (m:Int) nm=none)(hm:m<units.length)(Cd:units.length<=100000)(H6:faces.length<=100000) :
  Calls Tryz.prog 126 #[.int .i64 (m:Nat),.pointer (some ⟨bx,0,none⟩),.pointer (some ⟨bm,0,none⟩),.pointer (some ⟨bu,0,none⟩)] w (Nl w B bx bn bm bu U cu units P E F (faces.length:Nat) (nm ++ [((m:Int),(faces.length:Int))]) (faces ++ [units[m]])):=by
 have k0:=Ab (o:=0) h.cN rfl;have lk:=aJ (m:Int) nm h.num;rw [hf]at lk;simp only [Option.getD_none,Option.isSome_none]at lk;obtain⟨W1,hput,DL,hg1,hs1⟩:=h.num.put (m:Int) (faces.length:Int) hf;have hb1:Al (fun k=>k=bn) w W1:=(Al.refl (fun k=>k=bn) w).grown hg1 (fun k e=>by cases e;exact .inl rfl)
 have nx:bx≠bn:=by
  intro e;have:=h.num;unfold EW at this;rw [←e,h.cN]at this
  cases this
 have vI:bm≠bn:=by
  intro e;have:=h.num;unfold EW at this;rw [←e,h.cM]at this
  cases this
 have nu:bu≠bn:=by
  intro e;have:=h.num;unfold EW at this;rw [←e,h.cU]at this
  cases this
 have nF:F.ownBlock≠some bn:=by
  intro e
  rcases h.fac.2 with⟨h',_⟩|⟨g,cap,cur,h',_,hgb,_⟩
  ·rw [h']at e;cases e
  ·rw [h']at e;simp only [Value.ownBlock,AjR]at e;subst e;have:=h.num;unfold EW at this;rw [hgb]at this
   cases this
 have c1:=(hb1.block _ (AjL h.cN) nx).trans h.cN;have c2:=(hb1.block _ (AjL h.cM) vI).trans h.cM;have c3:=(hb1.block _ (AjL h.cU) nu).trans h.cU;have c4:=Bf h.fac hb1 (fun k hk e=>by subst e;exact nF hk)
 have c5:Ad W1 U (units.map S):=⟨fun h0=>by
  obtain⟨b,o,e,hc⟩:=h.uni.ad h0;refine⟨b,o,e,fun j hj=>?_⟩;have h1:=hc j hj
  exact(World.cell?_of_block (a:=⟨b,o+j,none⟩) (hb1.block b (World.block_lt_of_cell? w _ h1) (fun e'=>by have:=h.uB _ e;simp only at this;omega))).trans h1⟩
 have hB1:B<=W1.heap.size:=(by omega);obtain⟨ub,uo,rfl,hu⟩:=c5.ad (by simp;omega);have Za:=hu m (by simp;omega);have Ajh:ub<B:=h.uB _ rfl;obtain⟨s,hs⟩:=AjJ (units[m]);rw [List.getElem_map,←hs]at Za;rw [←hs];obtain⟨oF,cF,rfl,-,-,-⟩:=Ad.of_own' (by omega) h.fac;have k1:w.cell? ⟨bm,2,none⟩=some (.slice oF faces.length cF):=Ab h.cM rfl;have k2:W1.cell? ⟨bm,2,none⟩=some (.slice oF faces.length cF):=Ab c2 rfl;have k3:=Ab (o:=0) c3 rfl;have hm0:(0:Int)<=(m:Int):=(by omega);have hm1:(m:Int)<(units.length:Int):=(by omega);have HN:=AjK DL;have gb:=AjK hb1;have HW:=AjK h;have Pb:=AjK hf;clear hu hs hf DL hb1 hg1 hs1 h;go_enter Tryz.func126,Tryz.ntmps126
 go_upto_region 4 with fail
 have WS:(Value.slice oF faces.length cF).ownBlock≠some bm:=Ap c4 c2 (by decide);have hFN:(Value.slice oF faces.length cF).ownBlock≠some bx:=Ap c4 c1 (by decide);have hFU:(Value.slice oF faces.length cF).ownBlock≠some bu:=Ap c4 c3 (by decide);have WW:=AjL c2;have Yc:faces.length<200000:=by omega
 go_region_law (refine zS rfl _ _ rfl _ B (.slice oF faces.length cF) faces.length faces rfl (Am c4 (by first|exact(Aa.refl W1).alloc _|exact((Aa.refl W1).alloc _).drew)) Yc s W1.heap.size (AjM W1 _) rfl (by simp;omega) ?_;intro v7 w7 C4 Fj BM;obtain⟨GY,GE,rfl,-,-,-⟩:=Ad.of_own' (by omega) C4;have Ey:=(BM.block bm (by simp;omega) (fun e=>WS e.symm)).trans ((((Aa.refl W1).alloc _).block bm WW).trans c2);have e1:w7.cell? ⟨bm,2,none⟩=some (.slice oF faces.length cF):=Ab Ey rfl;have e2:=Ao (o:=2) Ey)
 all_goals (
  have E4:Aa W1 ((W1.alloc (.cells #[S s] 9)).drew):=((Aa.refl W1).alloc _).drew;have TY:((W1.alloc (.cells #[S s] 9)).drew).grownBy w7 (Value.slice oF faces.length cF).ownBlock:=BM;have g7:∀{j:Nat} {o:Obj},W1.heap[j]?=some o→(Value.slice oF faces.length cF).ownBlock≠some j→w7.heap[j]?=some o:=fun {j o} hj hn=>(TY.block j (AjW (AjL hj) E4.size) (fun e=>hn e.symm)).trans ((E4.block j (AjL hj)).trans hj);have Tn:=g7 c1 hFN;have lO:=g7 c3 hFU;have GL:=g7 HN.out nF;have nxm:=C0 c1 c2 (by decide);have num:=C0 c3 c2 (by decide)
  have JM:Al (fun k=>k=bn∨k=bm∨(Value.slice oF faces.length cF).ownBlock=some k) w (w7.setCell ⟨bm,2,none⟩ (.slice GY (faces.length+1) GE)):=
   (((gb.out.mono (fun k e=>.inl e)).ext E4).grown TY (fun k e=>.inl (.inr (.inr e)))).setCell (p:=⟨bm,2,none⟩) (.inl (.inr (.inl rfl))) _
  have o8:=Bf (K:=fun k=>k=bm) C4 ((Al.refl (fun k=>k=bm) w7).setCell (p:=⟨bm,2,none⟩) (.inl rfl) (.slice GY (faces.length+1) GE)) (fun k hk e=>by subst e;exact Ap C4 Ey (by decide) hk)
  have N9:Ga (w7.setCell ⟨bm,2,none⟩ (.slice GY (faces.length+1) GE)) B bx bn bm bu (some ⟨ub,uo,none⟩) cu units P E (.slice GY (faces.length+1) GE) (nm ++ [((m:Int),(faces.length:Int))]) (faces ++ [s]):=by
   refine⟨?_,?_,VX _ Ey,by rw [List.length_append];exact o8,?_,⟨fun h0=>?_⟩,HW.out.uB⟩
   ·rw [B7 (by show bx≠bm;exact nxm)];exact Tn
   ·unfold EW;rw [B7 (by show bn≠bm;exact fun e=>vI e.symm)];exact GL
   ·rw [B7 (by show bu≠bm;exact num)];exact lO
   ·obtain⟨b,o,e,hc⟩:=c5.ad h0;simp only [AjR,Addr.mk.injEq,and_true]at e;obtain⟨rfl,rfl⟩:=e;refine⟨ub,uo,rfl,fun j hj=>?_⟩;have h1:=hc j hj;have hlt:=World.block_lt_of_cell? W1 _ h1;have n1:ub≠bm:=(by omega);have n2:(Value.slice oF faces.length cF).ownBlock≠some ub:=fun e=>(by have:=(c4.lt ub e).1;omega);refine(World.cell?_of_block (a:=⟨ub,uo+j,none⟩) (show (w7.setCell ⟨bm,2,none⟩ (.slice GY (faces.length+1) GE)).heap[ub]?=W1.heap[ub]? from ?_)).trans h1;rw [B7 (by show ub≠bm;exact n1)];exact(TY.block ub (AjW hlt E4.size) (fun e=>n2 e.symm)).trans (E4.block ub hlt)
  have v1:=Ab (o:=0) N9.cN rfl;have uK:=yJ (m:Int) (nm ++ [((m:Int),(faces.length:Int))]) N9.num
  rw [show C7 (m:Int) (nm ++ [((m:Int),(faces.length:Int))])=some (faces.length:Int)by
   have XY:=Pb.out;unfold C7 at XY ⊢;rw [List.find?_append]
   cases hq:nm.find? (fun e=>(m:Int) == e.1)with
   | some e=>rw [hq]at XY;cases XY
   | none=>simp]at uK
  simp only [Option.getD_some]at uK;clear Ey e1 e2 BM TY C4 Fj g7 Tn lO GL o8 E4;generalize (w7.setCell ⟨bm,2,none⟩ (.slice GY (faces.length+1) GE))=W8 at *;have Vz:=AjK N9;have gi:=AjK JM;clear N9 JM;go_wp2;go_ret
  exact⟨_,rfl,Vz.out,gi.out⟩)
end
section
open Go.RowKit Kl Go.Shelf
section
variable {P : Program} {ops : Array Oper} {Q : Exit → Act → World → Prop}
theorem AhN{β:Type}{id:Nat}(s m:Nat)(val:β→Nat→Value)(St:β→Array Bool→World→Prop)(b0:β){a0:Act}{w:World}(hm:P.follows .mixedOrders=true)(hb:okB s m ops=true)(hB:s+m<=a0.tmps.size)(h0:St b0 (Array.replicate ops.size false) w.drew)
  (hstep:∀b listed a w i o,Eh .any ops (val b) a0 listed a→St b listed w→ops[i]?=some o→listed.size=ops.size→listed.getD i false=false→(∀e∈o.after,Region.binds .any e=true→listed.getD e.on false=true)→
   o.wp P a w (fun a' w'=>∃b',a'=a.put o.dst (val b' i)/\(∀j,listed.getD j false=true→val b' j=val b j)/\St b' (listed.setIfInBounds i true) w') Q)
  (hend:∀b listed a w,Eh .any ops (val b) a0 listed a→a.defers=a0.defers→(∀i,i<ops.size→listed.getD i false=true)→St b listed w→Q .normal a w):(Code.region id ops true).wp P Q a0 w:=by
 refine fe (fun listed a w'=>∃b,(Eh .any ops (val b) a0 listed a/\a.defers=a0.defers)/\St b listed w') hm (fun i o ho=>(QZ hb i o ho).2.2) (fun i o ho=>(QZ hb i o ho).2.1) ⟨b0,⟨Eh.start,rfl⟩,h0⟩ ?_ ?_
 ·rintro listed a w' i o ⟨b,⟨Ai,Qm⟩,hst⟩ hs A8 ho hd;have hi:i<ops.size:=(Array.getElem?_eq_some_iff.1 ho).1;have hr:i∈Region.ready .any ops listed:=mem_ready.2 ⟨getD_in (by omega) A8,o,ho,hd⟩;refine Oper.wp_mono ?_ (hstep b listed a w' i o Ai hst ho hs A8 hd);rintro a' w2 ⟨b',rfl,hv,AcG⟩;have Acy:Eh .any ops (val b') a0 listed a:=⟨Ai.sz,Ai.lsz,fun j oj d hj hl AbM=>by rw [hv j hl];exact Ai.done j oj d hj hl AbM,Ai.rest,Ai.closed⟩;exact⟨b',⟨Acy.step (fun i o ho=>(QZ hb i o ho).1) hB ho hr,by rw [←Qm];cases o.dst<;>rfl⟩,AcG⟩
 ·rintro listed a w' ⟨b,⟨Ai,Qm⟩,hst⟩ hall;exact hend b listed a w' Ai Qm hall hst
end
theorem Eh.lit{md:Region.Mode}{ops:Array Oper}{val:Nat→Value}{a0 a:Act}{listed:Array Bool}{s m:Nat}(h:Eh md ops val a0 listed a)(hb:okB s m ops=true)(hm:m<=ops.size)(hs:s+m<=a0.tmps.size)(hall:∀i,i<ops.size→listed.getD i false=true)(hd:a.defers=a0.defers) :
  a=⟨(a0.tmps.toList.take s++((List.range m).map val++a0.tmps.toList.drop (s+m))).toArray,a0.defers⟩:=by
 refine nl ?_ ?_ hd
 ·rw [h.sz];simp only [List.length_append,List.length_take,List.length_map,List.length_range,List.length_drop,Array.length_toList];omega
 ·intro d H5;simp only [List.length_append,List.length_take,List.length_map,List.length_range,List.length_drop,Array.length_toList]at H5
  have out:∀e,(e<s∨s+m<=e)→(he:e<a0.tmps.size)→a.eval (.tmp e)=a0.tmps.toList[e]'(by simpa using he):=fun e h1 he=>by refine h.out hb h1 ?_;simp [Act.eval,Array.getD_eq_getD_getElem?,Array.getElem?_eq_getElem he]
  by_cases h1:d<s
  ·rw [List.getElem_append_left (by simp;omega)];rw [List.getElem_take];exact out d (.inl h1) (by omega)
  ·rw [List.getElem_append_right (by simp;omega)];simp only [List.length_take,Array.length_toList,Nat.min_eq_left (show s<=a0.tmps.size by omega)];by_cases h2:d<s+m
   ·rw [List.getElem_append_left (by simp;omega)];simp only [List.getElem_map,List.getElem_range];exact h.val hb (d-s) (by omega) (by omega) (hall _ (by omega)) rfl
   ·rw [List.getElem_append_right (by simp;omega)];simp only [List.length_map,List.length_range,List.getElem_drop];have e3:s+m+(d-s-m)=d:=(by omega);have:=out d (.inr (by omega)) (by omega);rw [this]
    congr 1
    omega
theorem s8{w:World}{b:Nat}{a0 a1 a2:Value}{t:TypeId}(v:Value)(h:w.heap[b]?=some (.cells #[a0,a1,a2] t)):(w.setCell ⟨b,1,none⟩ v).heap[b]?=some (.cells #[a0,v,a2] t):=by
 simp only [World.setCell,Array.getElem?_modify,h];simp
structure Cn where
 B:Nat
 bx:Nat
 bn:Nat
 bm:Nat
 bu:Nat
 bi:Nat
 r:Nat
 b1:Nat
 b2:Nat
 U:Option Addr
 cu:Nat
 units:List Bs
 P:Value
 idx:List (Pt×Int)
 L:List (Sg×Int)
structure Cn.Ok(c:Cn):Prop where
 r:c.r<c.B
 b1:c.b1<c.B
 bn:c.B<=c.bn
 bm:c.B<=c.bm
 ni:c.bi≠c.bn
def Cn.fn(c:Cn):Value:=.func (.func 126) #[] #[.pointer (some ⟨c.bx,0,none⟩),.pointer (some ⟨c.bm,0,none⟩),.pointer (some ⟨c.bu,0,none⟩)]
structure Pv(c:Cn)(w:World):Prop where
 net:w.heap[c.r]?=some (.cells #[.map (some c.b1),.map (some c.b2)] 163)
 left:w.heap[c.b1]?=some (.map (Az Ax (stamp c.L)).toArray c.L.length)
 idx:G4 w c.bi c.idx
structure Cs(c:Cn)(E F:Value)(nm:List (Int×Int))(faces:List Bs)(eds:List Au)(w:World):Prop where
 fc:Ga w c.B c.bx c.bn c.bm c.bu c.U c.cu c.units c.P E F nm faces
 rd:Pv c w
 own:w.ownsRow c.B 119 4 E eds.length (AA eds)
 size:c.B<=w.heap.size
def I9(w:World)(b:Nat)(x:Sg):Prop:=w.heap[b]?=some (.cells #[S (R x.a.x),S (R x.a.y),S (R x.b.x),S (R x.b.y)] 176)
section
variable {c : Cn} {E F : Value} {nm : List (Int × Int)} {faces : List Bs} {eds : List Au} {w w' : World}
theorem Pv.but(h:Pv c w){K:Nat→Prop}(hb:Al K w w')(k1:¬K c.r)(k2:¬K c.b1)(k3:¬K c.bi):Pv c w':=
 ⟨(hb.block _ (AjL h.net) k1).trans h.net,(hb.block _ (AjL h.left) k2).trans h.left,(hb.block _ (AjL h.idx) k3).trans h.idx⟩
theorem Cs.ext(h:Cs c E F nm faces eds w)(hx:Aa w w'):Cs c E F nm faces eds w':=
 ⟨h.fc.extn hx,⟨(hx.block _ (AjL h.rd.net)).trans h.rd.net,(hx.block _ (AjL h.rd.left)).trans h.rd.left,(hx.block _ (AjL h.rd.idx)).trans h.rd.idx⟩,Am h.own hx,AjX h.size hx.size⟩
theorem UO{B:Nat}{e:TypeId}{s n:Nat}{v:Value}{xs:List Value}(h:w.ownsRow B e s v n xs){j:Nat}{es:Array MapEntry}{k:Nat}(hj:w.heap[j]?=some (.map es k)):v.ownBlock≠some j:=by
 intro hk
 rcases h.2 with⟨h',_⟩|⟨g,cap,cur,h',_,hgb,_⟩
 ·rw [h']at hk;cases hk
 ·rw [h']at hk;simp only [Value.ownBlock,AjR]at hk;subst hk;rw [hgb]at hj
  cases hj
theorem KR{i j:Nat}{cs:Array Value}{t:TypeId}{f:Nat×Nat}{es:Array MapEntry}{k:Nat}(hi:w.heap[i]?=some (.cells cs t f))(hj:w.heap[j]?=some (.map es k)):i≠j:=by
 rintro rfl;rw [hi]at hj
 cases hj
theorem Cs.named(ok:c.Ok)(h:Cs c E F nm faces eds w){F':Value}{ET:List (Int×Int)}{AG:List Bs}(hf:Ga w' c.B c.bx c.bn c.bm c.bu c.U c.cu c.units c.P E F' ET AG)(hb:Al (fun k=>k=c.bn∨k=c.bm∨F.ownBlock=some k) w w'):Cs c E F' ET AG eds w':=by
 have o1:=ok.r;have o2:=ok.b1;have o3:=ok.bn;have o4:=ok.bm;refine⟨hf,h.rd.but hb ?_ ?_ ?_,Bf h.own hb ?_,AjX h.size hb.size⟩
 ·rintro(e|e|e)
  ·omega
  ·omega
  ·have:=(h.fc.fac.lt _ e).1;omega
 ·rintro(e|e|e)
  ·omega
  ·omega
  ·have:=(h.fc.fac.lt _ e).1;omega
 ·rintro(e|e|e)
  ·exact ok.ni e
  ·exact KR h.fc.cM h.rd.idx e.symm
  ·exact UO h.fc.fac h.rd.idx e
 ·rintro k hk (e|e|e)
  ·subst e;exact UO h.own h.fc.num hk
  ·subst e;exact Ap h.own h.fc.cM (by decide) hk
  ·rcases h.fc.fac.2 with⟨h',_⟩|⟨g,cap,cur,h',_,hgb,_⟩
   ·rw [h']at e;cases e
   ·rw [h']at e;simp only [Value.ownBlock,AjR]at e;subst e;exact Ap h.own hgb (by decide) hk
theorem Cs.app(ok:c.Ok)(h:Cs c E F nm faces eds w){d:Au}{v':Value}(hg:w.grownBy w' E.ownBlock)(ho:w'.ownsRow c.B 119 4 v' (eds.length+1) (AA (eds ++ [d]))) :
  w'.heap[c.bm]?=some (.cells #[c.P,E,F] 44)/\Cs c v' F nm faces (eds ++ [d]) (w'.setCell ⟨c.bm,1,none⟩ v'):=by
 have o1:=ok.r;have o2:=ok.b1;have o4:=ok.bm;have hb:Al (fun k=>E.ownBlock=some k) w w':=(Al.refl (fun k=>E.ownBlock=some k) w).grown hg (fun k e=>.inl e);have n1:=Ap h.own h.fc.cM (by decide);have n2:=Ap h.own h.fc.cN (by decide);have n3:=Ap h.own h.fc.cU (by decide);have n4:=UO h.own h.fc.num;have n5:=UO h.own h.rd.idx;have hM:=(hb.block _ (AjL h.fc.cM) n1).trans h.fc.cM
 have f1:Ga w' c.B c.bx c.bn c.bm c.bu c.U c.cu c.units c.P E F nm faces:=by
  refine h.fc.far hb n2 n4 n1 n3 ?_ ?_
  ·intro k hk e
   rcases h.own.2 with⟨h',_⟩|⟨g,cap,cur,h',_,hgb,_⟩
   ·rw [h']at e;cases e
   ·rw [h']at e;simp only [Value.ownBlock,AjR]at e;subst e;exact Ap h.fc.fac hgb (by decide) hk
  ·intro x hx _ e;have:=h.fc.uB x hx;have:=(h.own.lt _ e).1;omega
 have r1:Pv c w':=h.rd.but hb (fun e=>by have:=(h.own.lt _ e).1;omega) (fun e=>by have:=(h.own.lt _ e).1;omega) n5;have hb2:Al (fun k=>k=c.bm) w' (w'.setCell ⟨c.bm,1,none⟩ v'):=(Al.refl (fun k=>k=c.bm) w').setCell (p:=⟨c.bm,1,none⟩) (.inl rfl) v';refine⟨hM,⟨⟨?_,?_,s8 _ hM,Bf f1.fac hb2 ?_,?_,⟨fun h0=>?_⟩,h.fc.uB⟩,r1.but hb2 (by omega) (by omega) ?_,by rw [List.length_append];exact Bf ho hb2 (fun k hk e=>by subst e;exact Ap ho hM (by decide) hk),AjX h.size (AjX hb.size hb2.size)⟩⟩
 ·exact(hb2.block _ (AjL f1.cN) (C0 f1.cN hM (by decide))).trans f1.cN
 ·exact(hb2.block _ (AjL f1.num) (fun e=>KR hM f1.num e.symm)).trans f1.num
 ·intro k hk e;subst e;exact Ap f1.fac hM (by decide) hk
 ·exact(hb2.block _ (AjL f1.cU) (C0 f1.cU hM (by decide))).trans f1.cU
 ·obtain⟨b,o,e,hc⟩:=f1.uni.ad h0;refine⟨b,o,e,fun j hj=>?_⟩;have h1:=hc j hj;exact(World.cell?_of_block (a:=⟨b,o+j,none⟩) (hb2.block b (World.block_lt_of_cell? w' _ h1) (fun e'=>by have:=h.fc.uB _ e;simp only at this;omega))).trans h1
 ·exact fun e=>KR hM r1.idx e.symm
structure KB(B:Nat)(W w:World):Prop where
 kp:∀(k:Nat) (cs:Array Value) (t:TypeId) (f:Nat×Nat),t≠44→t≠9→t≠119→W.heap[k]?=some (.cells cs t f)→w.heap[k]?=some (.cells cs t f)
 bl:Below B W w
theorem KB.refl(B:Nat)(W:World):KB B W W:=⟨fun _ _ _ _ _ _ _ h=>h,Below.refl _ _⟩
theorem KB.trans{B:Nat}{a b d:World}(h:KB B a b)(k:KB B b d):KB B a d:=⟨fun i cs t f h1 h2 h3 h4=>k.kp i cs t f h1 h2 h3 (h.kp i cs t f h1 h2 h3 h4),h.bl.trans k.bl⟩
theorem KB.ext{B:Nat}{a b:World}(hx:Aa a b)(hB:B<=a.heap.size):KB B a b:=⟨fun _ _ _ _ _ _ _ h=>(hx.block _ (AjL h)).trans h,Below.mono hx hB⟩
theorem KB.named(ok:c.Ok)(h:Cs c E F nm faces eds w)(hb:Al (fun k=>k=c.bn∨k=c.bm∨F.ownBlock=some k) w w'):KB c.B w w':=by
 have o3:=ok.bn;have o4:=ok.bm;refine⟨fun k cs t f h1 h2 h3 h4=>(hb.block _ (AjL h4) ?_).trans h4,⟨hb.os,hb.tape,hb.output,hb.size,fun k hk=>hb.block k (AjW hk h.size) ?_⟩⟩
 ·rintro(e|e|e)
  ·exact KR h4 h.fc.num e
  ·exact C0 h4 h.fc.cM h1 e
  ·exact Ap h.fc.fac h4 (fun e'=>h2 e'.symm) e
 ·rintro(e|e|e)
  ·omega
  ·omega
  ·have:=(h.fc.fac.lt _ e).1;omega
theorem KB.app(h:Cs c E F nm faces eds w)(hg:w.grownBy w' E.ownBlock):KB c.B w w':=
 ⟨fun _ _ _ _ _ _ h3 h4=>(hg.block _ (AjL h4) (fun e=>Ap h.own h4 (fun e'=>h3 e'.symm) e.symm)).trans h4,(Below.refl c.B w).grown hg h.size (fun k e=>(h.own.lt k e).1)⟩
theorem KB.set(ok:c.Ok){P' E' F':Value}(hM:w.heap[c.bm]?=some (.cells #[P',E',F'] 44))(v:Value):KB c.B w (w.setCell ⟨c.bm,1,none⟩ v):=
 ⟨fun _ _ _ _ h1 _ _ h4=>(B7 (C0 h4 hM h1)).trans h4,(Below.refl _ _).setCell (p:=⟨c.bm,1,none⟩) ok.bm v⟩
end
end
section
open Go.RowKit Kl Go.Shelf
def ZQ:List (Op×Option Nat):=[
 (.fieldAddr 44 (.tmp 5) 1,some 64),(.load 42 (.tmp 64),some 65),(.move (.tmp 6),some 66),(.fieldAddr 176 (.tmp 12) 0,some 67),(.load 28 (.tmp 67),some 68),
 (.lookup 205 (.tmp 66) (.tmp 68) false,some 69),(.move (.tmp 6),some 70),(.fieldAddr 176 (.tmp 12) 1,some 71),(.load 28 (.tmp 71),some 72),
 (.lookup 205 (.tmp 70) (.tmp 72) false,some 73),(.move (.tmp 13),some 74),(.move (.tmp 10),some 75),(.move (.tmp 0),some 76),(.nilCheck (.tmp 76),some 77),(.fieldAddr 163 (.tmp 77) 0,some 78),
 (.load 160 (.tmp 78),some 79),(.load 176 (.tmp 12),some 80),
 (.call {callee:=.value (.func 130),args:=#[.tmp 80],argTypes:=#[176]},some 81),(.lookup 160 (.tmp 79) (.tmp 81) false,some 82),
 (.call {callee:=.value (.tmp 75),args:=#[.tmp 82],argTypes:=#[3]},some 83),
 (.build 119 #[(0,.tmp 69),(1,.tmp 73),(2,.tmp 74),(3,.tmp 83)],some 84),(.buildSlice 42 1 #[(0,.tmp 84)],some 85),
 (.call {callee:=.builtin .append,args:=#[.tmp 65,.tmp 85],argTypes:=#[42,42]},some 86),(.fieldAddr 44 (.tmp 5) 1,some 87),(.store 42 (.tmp 87) (.tmp 86),none)]
def Wq:List (Nat×Nat):=[(1,0),(4,3),(5,2),(5,4),(8,7),(9,6),(9,8),(13,12),(14,13),(15,14),(17,16),(18,15),(18,17),(19,11),(19,18),(20,5),(20,9),(20,10),(20,19),(21,20),(22,1),(22,21),(24,22),(24,23)]
def Kx(c:Cn)(E:Value)(Ck:Nat)(x:Sg)(zl i1 i2 lr zr:Int)(g:Nat×Value):Nat→Value
 | 0=>.pointer (some ⟨c.bm,1,none⟩)
 | 1=>E
 | 2=>.map (some c.bi)
 | 3=>.pointer (some ⟨Ck,0,none⟩)
 | 4=>Ag x.a
 | 5=>.int .i64 i1
 | 6=>.map (some c.bi)
 | 7=>.pointer (some ⟨Ck,2,none⟩)
 | 8=>Ag x.b
 | 9=>.int .i64 i2
 | 10=>.int .i64 zl
 | 11=>c.fn
 | 12=>.pointer (some ⟨c.r,0,none⟩)
 | 13=>.pointer (some ⟨c.r,0,none⟩)
 | 14=>.pointer (some ⟨c.r,0,none⟩)
 | 15=>.map (some c.b1)
 | 16=>Ax x
 | 17=>Ax (Bc x)
 | 18=>.int .i64 lr
 | 19=>.int .i64 zr
 | 20=>.agg #[.int .i64 i1,.int .i64 i2,.int .i64 zl,.int .i64 zr]
 | 21=>.slice (some ⟨g.1,0,none⟩) 1 1
 | 22=>g.2
 | _=>.pointer (some ⟨c.bm,1,none⟩)
structure Nw(c:Cn)(W:World)(E:Value)(eds:List Au)(d:Au)(ET:List (Int×Int))(AG:List Bs)(Ck:Nat)(x:Sg)(g:Nat×Value)(l:Array Bool)(w:World):Prop where
 way:I9 w Ck x
 kb:KB c.B W w
 sA:l.getD 19 false=false→Aa W w
 sB:l.getD 19 false=true→l.getD 22 false=false→∃F',Cs c E F' ET AG eds w
 sG:l.getD 21 false=true→l.getD 22 false=false→w.heap[g.1]?=some (.cells #[.int .i64 d.f,.int .i64 d.t,.int .i64 d.l,.int .i64 d.r] 119)
 sC:l.getD 22 false=true→l.getD 24 false=false→∃F',w.heap[c.bm]?=some (.cells #[c.P,E,F'] 44)/\(∃A k d,g.2=.slice A k d)/\Cs c g.2 F' ET AG (eds ++ [d]) (w.setCell ⟨c.bm,1,none⟩ g.2)
 sD:l.getD 24 false=true→∃F',Cs c g.2 F' ET AG (eds ++ [d]) w
theorem Aa7(b:Nat)(w:World):(Instr.fieldAt 176 (.pointer (some ⟨b,0,none⟩)) 0).run Tryz.prog w=.ok (.pointer (some ⟨b,0,none⟩)) w:=by simp [go_sem]
theorem Aa8(b:Nat)(w:World):(Instr.fieldAt 176 (.pointer (some ⟨b,0,none⟩)) 1).run Tryz.prog w=.ok (.pointer (some ⟨b,2,none⟩)) w:=by simp [go_sem]
theorem Aa6(b:Nat)(w:World):(Instr.fieldAt 163 (.pointer (some ⟨b,0,none⟩)) 0).run Tryz.prog w=.ok (.pointer (some ⟨b,0,none⟩)) w:=by simp [go_sem]
theorem AdT{w:World}{b:Nat}{x:Sg}(h:I9 w b x):(Instr.loadAt 176 (.pointer (some ⟨b,0,none⟩))).run Tryz.prog w=.ok (Ax x) w:=by
 have h0:=Ab (o:=0) h rfl;have h1:=Ab (o:=1) h rfl;have h2:=Ab (o:=2) h rfl;have h3:=Ab (o:=3) h rfl;simp [go_sem,h0,h1,h2,h3,Ax]
theorem AdS{w:World}{b:Nat}{u v:Value}(h:w.heap[b]?=some (.cells #[u,v] 163)):(Instr.loadAt 160 (.pointer (some ⟨b,0,none⟩))).run Tryz.prog w=.ok u w:=by
 have h0:=Ab (o:=0) h rfl;simp [go_sem,h0]
theorem bT{P:Program}{o:Oper}{a:Act}{w:World}{v:Value}{K:Act→World→Prop}{Q:Exit→Act→World→Prop}{t:TypeId}{x y:Operand}{b:Bool}{D:Option Nat}(p:.lookup t x y b=o.op)(d:D=o.dst)(h:(Instr.lookup t (a.eval x) (a.eval y) b).run P w=.ok v w)(hk:K (a.put D v) w):o.wp P a w K Q:=
 K0 (Instr.lookup t (a.eval x) (a.eval y) b) (by unfold execOp;rw [←p]) h (d▸hk)
section
variable {c : Cn} {W : World} {E : Value} {eds : List Au} {d : Au} {ET : List (Int × Int)} {AG : List Bs} {Ck : Nat} {x : Sg} {g : Nat × Value} {l : Array Bool} {w : World}
theorem Nw.put(h:Nw c W E eds d ET AG Ck x g l w){i:Nat}(hi:i≠19/\i≠21/\i≠22/\i≠24):Nw c W E eds d ET AG Ck x g (l.setIfInBounds i true) w:=by
 refine⟨h.way,h.kb,?_,?_,?_,?_,?_⟩
 all_goals simp only [getD_set_ne false hi.1,getD_set_ne false hi.2.1,getD_set_ne false hi.2.2.1,getD_set_ne false hi.2.2.2]
 ·exact h.sA
 ·exact h.sB
 ·exact h.sG
 ·exact h.sC
 ·exact h.sD
end
theorem Agb{c:Cn}(ok:c.Ok){W:World}{E F:Value}{nm ET:List (Int×Int)}{faces AG:List Bs}{eds:List Au}(h0:Cs c E F nm faces eds W){Ck:Nat}{x:Sg}(hx:I9 W Ck x)(hel:eds.length<200000)(zl i1 i2 lr zr:Int)
  (JU:GX x.a c.idx=i1) (Qs:GX x.b c.idx=i2) (Q0:AI (Bc x) c.L=lr)
  (TW:∀w F,Cs c E F nm faces eds w→Calls Tryz.prog 126 #[.int .i64 lr,.pointer (some ⟨c.bx,0,none⟩),.pointer (some ⟨c.bm,0,none⟩),.pointer (some ⟨c.bu,0,none⟩)] w (Nl w c.B c.bx c.bn c.bm c.bu c.U c.cu c.units c.P E F zr ET AG))
  {a0:Act} {ops:Array Oper} (hop:ops.toList.map (fun o=>(o.op,o.dst))=ZQ) (Ba:Wo ops Wq=true) (Ur:okB 64 24 ops=true) (hsz:88<=a0.tmps.size)
  (e5:a0.eval (.tmp 5)=.pointer (some ⟨c.bm,0,none⟩)) (e6:a0.eval (.tmp 6)=.map (some c.bi)) (e12:a0.eval (.tmp 12)=.pointer (some ⟨Ck,0,none⟩)) (Ww:a0.eval (.tmp 13)=.int .i64 zl) (e10:a0.eval (.tmp 10)=c.fn) (e0:a0.eval (.tmp 0)=.pointer (some ⟨c.r,0,none⟩))
  {id:Nat} {Q:Exit→Act→World→Prop}
  (hend:∀(v:Nat→Value) w E' F',Cs c E' F' ET AG (eds ++ [⟨i1,i2,zl,zr⟩]) w→KB c.B W w→Q .normal ⟨(a0.tmps.toList.take 64++((List.range 24).map v++a0.tmps.toList.drop 88)).toArray,a0.defers⟩ w) :
  (Code.region id ops true).wp Tryz.prog Q a0 W:=by
 have N6:Enters Tryz.prog 130:=enters_of Tryz.func130 (by kernel_rfl) rfl;have Wy:Enters Tryz.prog 126:=enters_of Tryz.func126 (by kernel_rfl) rfl
 have Aje:ops.size=25:=by
  have:=congrArg List.length hop
  simpa [ZQ]using this
 refine AhN 64 24 (Kx c E Ck x zl i1 i2 lr zr) (fun g l w=>Nw c W E eds ⟨i1,i2,zl,zr⟩ ET AG Ck x g l w) (0,.slice none 0 0) (by kernel_rfl) Ur (by omega) ?_ ?_ ?_
 ·refine⟨(Aa.refl W).drew.block _ (AjL hx) |>.trans hx,KB.ext (Aa.refl W).drew h0.size,fun _=>(Aa.refl W).drew,?_,?_,?_,?_⟩
  all_goals (rw [getD_replicate_false];intro e;cases e)
 ·intro b l a w i o Ai hst ho qB A8 hd;have hi:i<25:=(by have:=(Array.getElem?_eq_some_iff.1 ho).1;omega);have hL:=ZO hop ho;have NX:=OQ hd;have ev:=fun (d:Nat) {v:Value} (e:a0.eval (.tmp d)=v) (hd:d<64)=>Ai.out Ur (.inl hd) e;replace e5:=ev 5 e5 (by omega);replace e6:=ev 6 e6 (by omega);replace e12:=ev 12 e12 (by omega);replace Ww:=ev 13 Ww (by omega);replace e10:=ev 10 e10 (by omega);replace e0:=ev 0 e0 (by omega)
  have dep:∀j k,Wq.contains (j,k)=true→j=i→l.getD k false=true:=by rintro j k hjk rfl;have h1:=List.all_eq_true.1 Ba (j,k) (by simpa using hjk);rw [ho]at h1;exact NX k h1
  have need:∀j k,Wq.contains (j,k)=true→l.getD j false=true→l.getD k false=true:=by
   intro j k hjk hl;have h1:=List.all_eq_true.1 Ba (j,k) (by simpa using hjk)
   cases L0:ops[j]? with
   | none=>rw [L0]at h1;cases h1
   | some oj=>rw [L0]at h1;exact Ai.waits L0 hl k h1
  have sl:=fun (k:Nat) (hk:k<24) (hl:l.getD k false=true)=>Ai.val Ur k (d:=64+k) rfl hk hl (v:=Kx c E Ck x zl i1 i2 lr zr b k) rfl
  have Wb:l.getD 22 false=true→∀k,k<22→k≠0∨k=0→l.getD k false=true:=by
   intro JB k hk _;have k1:=need 22 1 (by decide) JB;have k21:=need 22 21 (by decide) JB;have U6:=need 21 20 (by decide) k21;have k5:=need 20 5 (by decide) U6;have k9:=need 20 9 (by decide) U6;have k10:=need 20 10 (by decide) U6;have tV:=need 20 19 (by decide) U6;have k0:=need 1 0 (by decide) k1;have k2:=need 5 2 (by decide) k5;have k4:=need 5 4 (by decide) k5;have k3:=need 4 3 (by decide) k4;have k6:=need 9 6 (by decide) k9;have k8:=need 9 8 (by decide) k9;have k7:=need 8 7 (by decide) k8;have k11:=need 19 11 (by decide) tV;have tU:=need 19 18 (by decide) tV;have k15:=need 18 15 (by decide) tU;have k17:=need 18 17 (by decide) tU;have k16:=need 17 16 (by decide) k17;have k14:=need 15 14 (by decide) k15;have k13:=need 14 13 (by decide) k14;have k12:=need 13 12 (by decide) k13
   rcases(by omega:k=0∨k=1∨k=2∨k=3∨k=4∨k=5∨k=6∨k=7∨k=8∨k=9∨k=10∨k=11∨k=12∨k=13∨k=14∨k=15∨k=16∨k=17∨k=18∨k=19∨k=20∨k=21)with rfl|rfl|rfl|rfl|rfl|rfl|rfl|rfl|rfl|rfl|rfl|rfl|rfl|rfl|rfl|rfl|rfl|rfl|rfl|rfl|rfl|rfl<;>assumption
  have n22:i<22→l.getD 22 false=false:=fun h=>by
   cases e:l.getD 22 false
   ·rfl
   ·have:=Wb e i h (by omega);rw [A8]at this;cases this
  have cs:i<22→∃F nm faces,Cs c E F nm faces eds w:=fun h=>by
   cases e:l.getD 19 false
   ·exact⟨_,_,_,h0.ext (hst.sA e)⟩
   ·obtain⟨F',h'⟩:=hst.sB e (n22 h);exact⟨F',_,_,h'⟩
  have fin:(i≠19/\i≠21/\i≠22/\i≠24)→∀v,v=Kx c E Ck x zl i1 i2 lr zr b i→∃b',a.put o.dst v=a.put o.dst (Kx c E Ck x zl i1 i2 lr zr b' i)/\(∀j,l.getD j false=true→Kx c E Ck x zl i1 i2 lr zr b' j=Kx c E Ck x zl i1 i2 lr zr b j)/\Nw c W E eds ⟨i1,i2,zl,zr⟩ ET AG Ck x b' (l.setIfInBounds i true) w:=
   fun hne v hv=>⟨b,by rw [hv],fun _ _=>rfl,hst.put hne⟩
  rcases(by omega:i=0∨i=1∨i=2∨i=3∨i=4∨i=5∨i=6∨i=7∨i=8∨i=9∨i=10∨i=11∨i=12∨i=13∨i=14∨i=15∨i=16∨i=17∨i=18∨i=19∨i=20∨i=21∨i=22∨i=23∨i=24)with rfl|rfl|rfl|rfl|rfl|rfl|rfl|rfl|rfl|rfl|rfl|rfl|rfl|rfl|rfl|rfl|rfl|rfl|rfl|rfl|rfl|rfl|rfl|rfl|rfl
  all_goals
   simp only [ZQ,List.getElem?_cons_zero,List.getElem?_cons_succ,AjR,Prod.mk.injEq]at hL;obtain⟨p,d⟩:=hL
  ·refine Kz p d (by rw [e5];exact SQ _ _) ?_;rw [d];exact fin (by omega) _ rfl
  ·obtain⟨F1,UF,SJ,hc⟩:=cs (by omega);refine Gy p d (by rw [show a.eval (.tmp 64)=_ from sl 0 (by omega) (dep 1 0 (by decide) rfl)];exact uL (Ab hc.fc.cM rfl)) ?_;rw [d];exact fin (by omega) _ rfl
  ·refine Iy _ p.symm ?_;rw [e6];exact fin (by omega) _ rfl
  ·refine Kz p d (by rw [e12];exact Aa7 _ _) ?_;rw [d];exact fin (by omega) _ rfl
  ·refine Gy p d (by rw [show a.eval (.tmp 67)=_ from sl 3 (by omega) (dep 4 3 (by decide) rfl)];exact QT (Ab (o:=0) hst.way rfl) (Ab (o:=1) hst.way rfl)) ?_;rw [d];exact fin (by omega) _ rfl
  ·obtain⟨F1,UF,SJ,hc⟩:=cs (by omega);refine bT p d (by rw [show a.eval (.tmp 66)=_ from sl 2 (by omega) (dep 5 2 (by decide) rfl),show a.eval (.tmp 68)=_ from sl 4 (by omega) (dep 5 4 (by decide) rfl)];exact hc.rd.idx.look x.a) ?_;rw [d];exact fin (by omega) _ (by rw [JU];rfl)
  ·refine Iy _ p.symm ?_;rw [e6];exact fin (by omega) _ rfl
  ·refine Kz p d (by rw [e12];exact Aa8 _ _) ?_;rw [d];exact fin (by omega) _ rfl
  ·refine Gy p d (by rw [show a.eval (.tmp 71)=_ from sl 7 (by omega) (dep 8 7 (by decide) rfl)];exact QT (Ab (o:=2) hst.way rfl) (Ab (o:=3) hst.way rfl)) ?_;rw [d];exact fin (by omega) _ rfl
  ·obtain⟨F1,UF,SJ,hc⟩:=cs (by omega);refine bT p d (by rw [show a.eval (.tmp 70)=_ from sl 6 (by omega) (dep 9 6 (by decide) rfl),show a.eval (.tmp 72)=_ from sl 8 (by omega) (dep 9 8 (by decide) rfl)];exact hc.rd.idx.look x.b) ?_;rw [d];exact fin (by omega) _ (by rw [Qs];rfl)
  ·refine Iy _ p.symm ?_;rw [Ww];exact fin (by omega) _ rfl
  ·refine Iy _ p.symm ?_;rw [e10];exact fin (by omega) _ rfl
  ·refine Iy _ p.symm ?_;rw [e0];exact fin (by omega) _ rfl
  ·have s12:a.eval (.tmp 76)=.pointer (some ⟨c.r,0,none⟩):=sl 12 (by omega) (dep 13 12 (by decide) rfl);refine Gz (v:=.pointer (some ⟨c.r,0,none⟩)) (w':=w) ?_ (fin (by omega) _ rfl);unfold execOp;rw [←p];simp [s12]
  ·refine Kz p d (by rw [show a.eval (.tmp 77)=_ from sl 13 (by omega) (dep 14 13 (by decide) rfl)];exact Aa6 _ _) ?_;rw [d];exact fin (by omega) _ rfl
  ·obtain⟨F1,UF,SJ,hc⟩:=cs (by omega);refine Gy p d (by rw [show a.eval (.tmp 78)=_ from sl 14 (by omega) (dep 15 14 (by decide) rfl)];exact AdS hc.rd.net) ?_;rw [d];exact fin (by omega) _ rfl
  ·refine Gy p d (by rw [e12];exact AdT hst.way) ?_;rw [d];exact fin (by omega) _ rfl
  ·have n19:l.getD 19 false=false:=by
    cases e:l.getD 19 false
    ·rfl
    ·have:=need 18 17 (by decide) (need 19 18 (by decide) e);rw [A8]at this;cases this
   have n21:l.getD 21 false=false:=by
    cases e:l.getD 21 false
    ·rfl
    ·have:=need 20 19 (by decide) (need 21 20 (by decide) e);rw [n19]at this;cases this
   have n24:l.getD 24 false=false:=by
    cases e:l.getD 24 false
    ·rfl
    ·have:=need 24 22 (by decide) e;rw [n22 (by omega)]at this;cases this
   refine AhK p.symm N6 (show a.eval (.tmp 80)=_ from sl 16 (by omega) (dep 17 16 (by decide) rfl)) (fL x w) ?_;rintro e w'' ⟨rfl,hX⟩;refine⟨_,rfl,b,rfl,fun _ _=>rfl,?_⟩;refine Nw.put ⟨(hX.block _ (AjL hst.way)).trans hst.way,hst.kb.trans (KB.ext hX (h0.ext (hst.sA n19)).size),fun e=>(hst.sA e).trans hX,fun e=>?_,fun e=>?_,fun e=>?_,fun e=>?_⟩ (by omega)
   ·rw [n19]at e;cases e
   ·rw [n21]at e;cases e
   ·rw [n22 (by omega)]at e;cases e
   ·rw [n24]at e;cases e
  ·obtain⟨F1,UF,SJ,hc⟩:=cs (by omega);refine bT p d (by rw [show a.eval (.tmp 79)=_ from sl 15 (by omega) (dep 18 15 (by decide) rfl),show a.eval (.tmp 81)=_ from sl 17 (by omega) (dep 18 17 (by decide) rfl)];exact Rq _ _ hc.rd.left) ?_;rw [d];exact fin (by omega) _ (by rw [Q0];rfl)
  ·have n21:l.getD 21 false=false:=by
    cases e:l.getD 21 false
    ·rfl
    ·have:=need 20 19 (by decide) (need 21 20 (by decide) e);rw [A8]at this;cases this
   have n24:l.getD 24 false=false:=by
    cases e:l.getD 24 false
    ·rfl
    ·have:=need 24 22 (by decide) e;rw [n22 (by omega)]at this;cases this
   have hC:=h0.ext (hst.sA A8);refine e9 p.symm Wy (show a.eval (.tmp 75)=_ from sl 11 (by omega) (dep 19 11 (by decide) rfl)) (show a.eval (.tmp 82)=_ from sl 18 (by omega) (dep 19 18 (by decide) rfl)) (TW w F hC) ?_;rintro e w'' ⟨F',rfl,hF,hB⟩;refine⟨_,rfl,b,rfl,fun _ _=>rfl,?_⟩
   have hw:I9 w'' Ck x:=(hB.block _ (AjL hst.way) (by
    rintro(e|e|e)
    ·exact KR hst.way hC.fc.num e
    ·exact C0 hst.way hC.fc.cM (by decide) e
    ·exact Ap hC.fc.fac hst.way (by decide) e)).trans hst.way
   refine⟨hw,hst.kb.trans (KB.named ok hC hB),?_,?_,?_,?_,?_⟩
   all_goals simp only [J8 (show 19<l.size by omega),getD_set_ne false (show (19:Nat)≠21 by omega),getD_set_ne false (show (19:Nat)≠22 by omega),getD_set_ne false (show (19:Nat)≠24 by omega)]
   ·intro e;cases e
   ·intro _ _;exact⟨F',hC.named ok hF hB⟩
   ·intro e;rw [n21]at e;cases e
   ·intro e;rw [n22 (by omega)]at e;cases e
   ·intro e;rw [n24]at e;cases e
  ·have s5:a.eval (.tmp 69)=.int .i64 i1:=sl 5 (by omega) (dep 20 5 (by decide) rfl);have s9:a.eval (.tmp 73)=.int .i64 i2:=sl 9 (by omega) (dep 20 9 (by decide) rfl);have aM:a.eval (.tmp 74)=.int .i64 zl:=sl 10 (by omega) (dep 20 10 (by decide) rfl);have aN:a.eval (.tmp 83)=.int .i64 zr:=sl 19 (by omega) (dep 20 19 (by decide) rfl);refine K0 (Instr.build 119 #[(0,.int .i64 i1),(1,.int .i64 i2),(2,.int .i64 zl),(3,.int .i64 zr)]) (by unfold execOp;rw [←p];simp [s5,s9,aM,aN]) (fY _ _ _ _ _) ?_;exact fin (by omega) _ rfl
  ·have GK:=dep 21 20 (by decide) rfl;have Ew:=need 20 19 (by decide) GK
   have n24:l.getD 24 false=false:=by
    cases e:l.getD 24 false
    ·rfl
    ·have:=need 24 22 (by decide) e;rw [n22 (by omega)]at this;cases this
   have aO:a.eval (.tmp 84)=.agg #[.int .i64 i1,.int .i64 i2,.int .i64 zl,.int .i64 zr]:=sl 20 (by omega) GK;refine K0 (Instr.buildSlice 42 1 #[(0,.agg #[.int .i64 i1,.int .i64 i2,.int .i64 zl,.int .i64 zr])]) (by unfold execOp;rw [←p];simp [aO]) (fX _ _ _ _ _) ?_;have hX:=(Aa.refl w).alloc (.cells #[.int .i64 i1,.int .i64 i2,.int .i64 zl,.int .i64 zr] 119);refine⟨(w.heap.size,b.2),rfl,fun j hj=>?_,?_⟩
   ·have:j≠21:=(by rintro rfl;rw [A8]at hj;cases hj);unfold Kx
    split<;>first|rfl|omega
   ·obtain⟨F1,h1⟩:=hst.sB Ew (n22 (by omega));refine⟨(hX.block _ (AjL hst.way)).trans hst.way,hst.kb.trans (KB.ext hX h1.size),?_,?_,?_,?_,?_⟩
    all_goals simp only [J8 (show 21<l.size by omega),getD_set_ne false (show (21:Nat)≠19 by omega),getD_set_ne false (show (21:Nat)≠22 by omega),getD_set_ne false (show (21:Nat)≠24 by omega)]
    ·intro e;rw [Ew]at e;cases e
    ·intro _ e;obtain⟨F',h'⟩:=hst.sB Ew e;exact⟨F',h'.ext hX⟩
    ·intro _ _;exact AjM w _
    ·intro e;rw [n22 (by omega)]at e;cases e
    ·intro e;rw [n24]at e;cases e
  ·have JA:=dep 22 21 (by decide) rfl;have Ew:=need 20 19 (by decide) (need 21 20 (by decide) JA)
   have n24:l.getD 24 false=false:=by
    cases e:l.getD 24 false
    ·rfl
    ·have:=need 24 22 (by decide) e;rw [A8]at this;cases this
   obtain⟨F',hC⟩:=hst.sB Ew A8;refine eo _ _ p.symm w c.B E eds.length eds (show a.eval (.tmp 65)=_ from sl 1 (by omega) (dep 22 1 (by decide) rfl)) hC.own hel ⟨i1,i2,zl,zr⟩ b.1 (hst.sG JA A8) (show a.eval (.tmp 85)=_ from sl 21 (by omega) JA) hC.size ?_;intro v' w' k1 k2;obtain⟨m1,m2⟩:=hC.app ok (d:=⟨i1,i2,zl,zr⟩) k2 k1;obtain⟨A,dd,rfl,-,-,-⟩:=Ad.of_own' (show 0<4 by omega) k1;refine⟨(b.1,.slice A (eds.length+1) dd),rfl,fun j hj=>?_,?_⟩
   ·have:j≠22:=(by rintro rfl;rw [A8]at hj;cases hj);unfold Kx
    split<;>first|rfl|omega
   ·have hw:I9 w' Ck x:=(k2.block _ (AjL hst.way) (fun e=>Ap hC.own hst.way (by decide) e.symm)).trans hst.way;refine⟨hw,hst.kb.trans (KB.app hC k2),?_,?_,?_,?_,?_⟩
    all_goals simp only [J8 (show 22<l.size by omega),getD_set_ne false (show (22:Nat)≠19 by omega),getD_set_ne false (show (22:Nat)≠21 by omega),getD_set_ne false (show (22:Nat)≠24 by omega)]
    ·intro e;rw [Ew]at e;cases e
    ·intro _ e;cases e
    ·intro _ e;cases e
    ·intro _ _;exact⟨F',m1,⟨_,_,_,rfl⟩,m2⟩
    ·intro e;rw [n24]at e;cases e
  ·refine Kz p d (by rw [e5];exact SQ _ _) ?_;rw [d];exact fin (by omega) _ rfl
  ·have JB:=dep 24 22 (by decide) rfl;have Ew:=Wb JB 19 (by omega) (by omega);have JA:=Wb JB 21 (by omega) (by omega);obtain⟨F',k1,k2,k3⟩:=hst.sC JB A8
   have hrun:(execOp a.eval o).run Tryz.prog w=.ok .skip (w.setCell ⟨c.bm,1,none⟩ b.2):=by unfold execOp;rw [←p];show (do Instr.storeAt 42 (a.eval (.tmp 87)) (a.eval (.tmp 86));pure Next.skip:Sem Next).run Tryz.prog w=_;rw [show a.eval (.tmp 87)=_ from sl 23 (by omega) (dep 24 23 (by decide) rfl),show a.eval (.tmp 86)=_ from sl 22 (by omega) JB];have:=zU k2 k1;simp [Kx,this]
   unfold Oper.wp;rw [hrun];refine⟨b,?_,fun _ _=>rfl,?_⟩
   ·rw [←d];rfl
   ·have hw:I9 (w.setCell ⟨c.bm,1,none⟩ b.2) Ck x:=(B7 (by show Ck≠c.bm;exact C0 hst.way k1 (by decide))).trans hst.way;refine⟨hw,hst.kb.trans (KB.set ok k1 _),?_,?_,?_,?_,?_⟩
    all_goals simp only [J8 (show 24<l.size by omega),getD_set_ne false (show (24:Nat)≠19 by omega),getD_set_ne false (show (24:Nat)≠21 by omega),getD_set_ne false (show (24:Nat)≠22 by omega)]
    ·intro e;rw [Ew]at e;cases e
    ·intro _ e;rw [JB]at e;cases e
    ·intro _ e;rw [JB]at e;cases e
    ·intro _ e;cases e
    ·intro _;exact⟨F',k3⟩
 ·intro b l a w Ai Qm hall hst;obtain⟨F',hF⟩:=hst.sD (hall 24 (by omega));have:=Ai.lit Ur (by omega) (by omega) hall Qm;rw [this];exact hend _ w _ F' hF hst.kb
end
section
open Go.RowKit Kl Go.Shelf
def Bl(units:List Bs)(nm:List (Int×Int))(fa:List Bs)(f:Int):Int×List (Int×Int)×List Bs:=match C7 f nm with
 | some z=>(z,nm,fa)
 | none=>((fa.length:Int),nm ++ [(f,(fa.length:Int))],fa ++ [units.getD f.toNat []])
structure G0 where
 nm:List (Int×Int)
 fa:List Bs
 ed:List Au
def KQ(units:List Bs)(idx:List (Pt×Int))(L:List (Sg×Int))(st:G0)(s:Sg):G0:=
 ⟨(Bl units (Bl units st.nm st.fa (AI s L)).2.1 (Bl units st.nm st.fa (AI s L)).2.2 (AI (Bc s) L)).2.1,(Bl units (Bl units st.nm st.fa (AI s L)).2.1 (Bl units st.nm st.fa (AI s L)).2.2 (AI (Bc s) L)).2.2,
  st.ed ++ [⟨GX s.a idx,GX s.b idx,(Bl units st.nm st.fa (AI s L)).1,(Bl units (Bl units st.nm st.fa (AI s L)).2.1 (Bl units st.nm st.fa (AI s L)).2.2 (AI (Bc s) L)).1⟩]⟩
def J0(units:List Bs)(idx:List (Pt×Int))(L:List (Sg×Int))(st:G0)(s:Sg):G0:=if AS s.a s.b<0 then KQ units idx L st s else st
def IC(units:List Bs)(idx:List (Pt×Int))(L:List (Sg×Int))(ws:List Sg):G0:=ws.foldl (J0 units idx L) ⟨[(-1,-1)],[],[]⟩
def Ce(l:List Pt):List (Pt×Int):=l.zipIdx.map fun e=>(e.1,(e.2:Int))
theorem Adj(l:List Pt)(p:Pt):Ce (l ++ [p])=Ce l ++ [(p,(l.length:Int))]:=by simp [Ce,List.zipIdx_append]
theorem Adi(l:List Pt):(Ce l).map (·.1)=l:=by
 unfold Ce;rw [List.map_map];have:((fun x:Pt×Int=>x.1) ∘ fun e:Pt×Nat=>(e.1,(e.2:Int)))=Prod.fst:=rfl;rw [this,List.zipIdx_map_fst]
theorem Z9(units:List Bs)(nm:List (Int×Int))(fa:List Bs)(f:Int):(Bl units nm fa f).2.2.length<=fa.length+1:=by
 unfold Bl;split<;>simp
theorem Z8(units:List Bs){nm:List (Int×Int)}(fa:List Bs)(f:Int)(h:C7 (-1) nm=some (-1)):C7 (-1) (Bl units nm fa f).2.1=some (-1):=by
 unfold Bl
 split
 ·exact h
 ·unfold C7 at h ⊢;simp only;rw [List.find?_append]
  cases hq:nm.find? (fun e=>(-1:Int) == e.1)with
  | none=>rw [hq]at h;cases h
  | some e=>rw [hq]at h;simpa using h
structure OU(k:Nat)(st:G0):Prop where
 h:C7 (-1) st.nm=some (-1)
 fa:st.fa.length<=2*k
 ed:st.ed.length<=k
theorem OU.step{k:Nat}{st:G0}(h:OU k st)(units:List Bs)(idx:List (Pt×Int))(L:List (Sg×Int))(s:Sg):OU (k+1) (J0 units idx L st s):=by
 unfold J0
 split
 ·unfold KQ;refine⟨Z8 _ _ _ (Z8 _ _ _ h.h),?_,?_⟩
  ·have h1:=Z9 units st.nm st.fa (AI s L);have h2:=Z9 units (Bl units st.nm st.fa (AI s L)).2.1 (Bl units st.nm st.fa (AI s L)).2.2 (AI (Bc s) L);have:=h.fa;simp only;omega
  ·have:=h.ed;simp only [List.length_append,List.length_singleton];omega
 ·exact⟨h.h,by have:=h.fa;omega,by have:=h.ed;omega⟩
theorem ue(units:List Bs)(idx:List (Pt×Int))(L:List (Sg×Int))(ws:List Sg)(s:Sg):IC units idx L (ws ++ [s])=J0 units idx L (IC units idx L ws) s:=by simp [IC]
theorem jL{c:Cn}(ok:c.Ok){E F:Value}{nm:List (Int×Int)}{faces:List Bs}{eds:List Au}{w:World}(h:Cs c E F nm faces eds w)(hh:C7 (-1) nm=some (-1))(f:Int)(hf0:-1<=f)(IW:f<(c.units.length:Int))(Cd:c.units.length<=100000)(H6:faces.length<=100000) :
  Calls Tryz.prog 126 #[.int .i64 f,.pointer (some ⟨c.bx,0,none⟩),.pointer (some ⟨c.bm,0,none⟩),.pointer (some ⟨c.bu,0,none⟩)] w (Nl w c.B c.bx c.bn c.bm c.bu c.U c.cu c.units c.P E F (Bl c.units nm faces f).1 (Bl c.units nm faces f).2.1 (Bl c.units nm faces f).2.2):=by
 cases hl:C7 f nm with
 | some z=>
  have e:Bl c.units nm faces f=(z,nm,faces):=(by unfold Bl;rw [hl]);rw [e];exact Aau h.fc f z hl
 | none=>
  have hne:f≠-1:=(by rintro rfl;rw [hh]at hl;cases hl);obtain⟨m,rfl⟩:∃m:Nat,f=(m:Int):=⟨f.toNat,by omega⟩;have hm:m<c.units.length:=by omega
  have e:Bl c.units nm faces (m:Int)=((faces.length:Int),nm ++ [((m:Int),(faces.length:Int))],faces ++ [c.units[m]]):=by unfold Bl;rw [hl];simp [List.getD_eq_getElem?_getD,AjS hm]
  rw [e];exact Aat h.fc h.size ok.bn ok.bm m hl hm Cd H6
def fk(w:World)(m:MapZ)(faces:List Bs)(e:Ending)(w':World):Prop:=
 ∃A Bk F c d g,e=.returned (AE A Bk F m c d g)/\Cf m c d g/\Ad w' A (flat (Aq m.pts))/\Ad w' Bk (AA m.eds)/\Ad w' F (faces.map S)/\m.nf=faces.length/\Aa w w'
end
end Go.Proofs.YtnfedbopbcegjaaGreatDoor
