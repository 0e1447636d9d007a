/- I33: ShBK ShBQ ShBR ShBS ShBT. -/
import Derived.Test.YtnddllipjippnaaGreatDoorI18
import Derived.Test.YtnddllipjippnaaGreatDoorI29
import Derived.Test.YtnddllipjippnaaGreatDoorI30
import Derived.Test.YtnddllipjippnaaGreatDoorI32
set_option maxRecDepth 100000
set_option maxHeartbeats 8000000
namespace Go.Proofs.YtnddllipjippnaaGreatDoor
open Go.RowKit Kl
def DT(P:List (List Pt×Bs))(i:Nat):List Pt:=(P.take i).flatMap (·.1)
def TD(P:List (List Pt×Bs)):List Pt:=Lib.compact (FK (DT P P.length))
theorem xG{P:List (List Pt×Bs)}{i:Nat}(h:i<P.length):DT P (i+1)=DT P i++P[i].1:=by
 unfold DT;rw [As3 h,List.flatMap_append];simp
theorem dY{P:List (List Pt×Bs)}(hP:∀e∈P,e.1.length<=60):∀i,i<=P.length→(DT P i).length<=i*60
 | 0,_=>by simp [DT]
 | i+1,h=>by rw [xG (show i<P.length by omega),List.length_append];have h1:=dY hP i (by omega);have h2:=hP _ (As1 (show i<P.length by omega));omega
theorem Aag{P:List (List Pt×Bs)}{i:Nat}{q:Pt}(h:q∈DT P i):∃e∈P,q∈e.1:=by
 unfold DT at h;rw [List.mem_flatMap]at h;obtain⟨e,he,hq⟩:=h;exact⟨e,List.mem_of_mem_take he,hq⟩
theorem mem_compact{l:List Pt}{q:Pt}(h:q∈Lib.compact l):q∈l:=by
 unfold Lib.compact Lib.compactUpTo at h;rw [List.mem_map]at h;obtain⟨j,hj,rfl⟩:=h;have hj':j<l.length:=(by simpa using (List.mem_filter.1 hj).1);rw [getElem!_pos l.toArray j (by simpa using hj')];simp
theorem Agv(l:List Pt):(Lib.compact l).length<=l.length:=by
 unfold Lib.compact Lib.compactUpTo;rw [List.length_map];refine AsA (List.length_filter_le _ _) ?_;simp
section
variable {ops : Array Oper} {rest : List Oper} {o : Oper} {a : Act} {Q : Exit → Act → World → Prop}
theorem Afl(hgd:o.guard=none)(s x:Operand)(ho:o.op=.call {callee:=.builtin .append,args:=#[s,x],argTypes:=#[31,31]})
  (wN:World) (base:Nat) (v:Value) (n:Nat) (l:List Pt) (hs:a.eval s=v) (hown:wN.ownsRow base 24 2 v n (flat (Ag l))) (hn:n<200000) (m:List Pt) (A:Option Addr) (c:Nat) (hx:a.eval x=.slice A m.length c) (hr:Ad wN A (flat (Ag m))) (hm:0<m.length) (Rs:m.length<=1000) (hbase:base<=wN.heap.size)
  (h:∀v' w',w'.ownsRow base 24 2 v' (n+m.length) (flat (Ag (l++m)))→(∀w0,Ab w0 wN→w0.heap.size<=base→Ab w0 w')→wpList Tryz.prog ops Q rest (a.put o.dst v') w') :
  wpList Tryz.prog ops Q (o::rest) a wN:=by
 obtain⟨i0,hi,hz0,hz1,hz2⟩:=info_parts Tryz.infoPt;have C5:(flat (Ag m)).length=m.length*2:=(by rw [flat_length];simp [Ag]);obtain⟨b,oo,rfl,hc⟩:=hr.ad (by omega);have U0:(n+m.length)*32<=140737488355328:=(by omega);have FT:n+m.length<=maxLen:=(by unfold maxLen;omega);refine wpList_plain hgd fun K hK=>wp_append_own _ s x 31 ho base 24 i0 (.agg #[S [],S []]) 2 32 Tryz.underlying31 hi hz0 hz1 hz2 rfl (by omega) v n _ hs hown ⟨b,oo,none⟩ m.length c (flat (Ag m)) hx ?_ ?_ ?_ FT U0 hbase ?_
 ·exact C5
 ·intro j u hu;obtain⟨hj,e⟩:=List.getElem?_eq_some_iff.1 hu;rw [Addr.add_lit,←e];exact hc j hj
 ·intro u hu;unfold flat at hu;simp only [List.mem_flatMap,List.mem_cons,AsB,or_false]at hu;obtain⟨p,_,rfl|rfl⟩:=hu<;>rfl
 ·intro v' w' h2 h3 _;refine hK _ _ (h v' w' ?_ (fun w0 he AZ=>?_))
  ·have e:flat (Ag (l++m))=flat (Ag l)++flat (Ag m):=(by unfold flat Ag;simp);rw [e];exact h2
  ·exact he.grown h3 fun k hk=>by
    rcases hown.2 with⟨rfl,_⟩|⟨g,cap,cur,rfl,hb',_⟩
    ·cases hk
    ·simp only [Value.ownBlock,As4]at hk;omega
end
section
open Go.ChangeMaps (setBlock)
theorem yh:K7 197 24 3 (.int .i64 0) Af Aq where
 map:=Tryz.underlying197
 st:=⟨_,Tryz.underlying24⟩
 zero:=fun W=>by simp [go_sem]
 eq:=yS
 chk:=wH
 iff:=Ca
 bits:=fun x=>by unfold Af;simp [Instr.sameBits,beq_toListBytes]
def MN(L:List (Pt×Int)):List (Pt×Value×Nat):=L.mapIdx fun i e=>(e.1,.int .i64 e.2,i)
theorem Apa(L:List (Pt×Int))(e:Pt×Int):MN (L ++ [e])=MN L ++ [(e.1,.int .i64 e.2,L.length)]:=by simp [MN,List.mapIdx_append]
theorem AoZ{L:List (Pt×Int)}{x:Pt×Value×Nat}(h:x∈MN L):∃e∈L,x.1=e.1:=by
 unfold MN at h;rw [List.mem_mapIdx]at h;obtain⟨i,hi,rfl⟩:=h;exact⟨L[i],As1 hi,rfl⟩
def Ib(p:Pt)(L:List (Pt×Int)):Int:=match L.find? (fun e=>Aq p e.1)with|some e=>e.2|none=>0
theorem Al1(p:Pt)(L:List (Pt×Int)):FW Aq (.int .i64 0) p (MN L)=.int .i64 (Ib p L):=by
 have h:∀(L:List (Pt×Int)) (n:Nat),FW Aq (.int .i64 0) p (L.mapIdx fun i e=>(e.1,.int .i64 e.2,i+n))=.int .i64 (Ib p L):=by
  intro L
  induction L with
  | nil=>intro n;simp [FW,Ib]
  | cons e L ih=>
   intro n;rw [List.mapIdx_cons];unfold FW Ib;rw [List.find?_cons,List.find?_cons];simp only
   cases hb:Aq p e.1
   ·simp only;have:=ih (n+1)
    have e1:(L.mapIdx fun i e=>(e.1,Value.int .i64 e.2,i+1+n))=L.mapIdx fun i e=>(e.1,Value.int .i64 e.2,i+(n+1)):=by congr 1;funext i e;rw [show i+1+n=i+(n+1)by omega]
    rw [e1];unfold FW Ib at this;exact this
   ·rfl
 exact h L 0
def IR(W:World)(b:Nat)(l:List (Pt×Int)):Prop:=W.heap[b]?=some (.map (AK Af (MN l)).toArray l.length)
theorem IR.ext{W W':World}{b:Nat}{l:List (Pt×Int)}(h:IR W b l)(hx:Ab W W'):IR W' b l:=(hx.block b (Asy h)).trans h
theorem IR.put{W:World}{b:Nat}{l:List (Pt×Int)}(h:IR W b l)(p:Pt)(hno:∀e∈l,Aq p e.1=false)(z:Int) :
  ∃W',(Instr.mapUpdate 197 (.map (some b)) (Af p) (.int .i64 z)).run Tryz.prog W=.ok () W'/\IR W' b (l ++ [(p,z)])/\W.grownBy W' (some b)/\W'.heap.size=W.heap.size:=by
 refine⟨_,pU yh p (MN l) (fun e he=>by obtain⟨e',h1,h2⟩:=AoZ he;rw [h2];exact hno e' h1) (.int .i64 z) h,?_,LQ h,by simp [setBlock]⟩;unfold IR;rw [MI h,Apa,List.length_append]
 rfl
theorem IR.look{W:World}{b:Nat}{l:List (Pt×Int)}(h:IR W b l)(p:Pt):(Instr.lookup 197 (.map (some b)) (Af p) false).run Tryz.prog W=.ok (.int .i64 (Ib p l)) W:=by
 rw [Sp yh p (MN l) h,Al1]
theorem ZH(k:Int)(l:List (Int×Int)){b clock:Nat}{W:World}(hb:W.heap[b]?=some (.map (LM l).toArray clock)) :
  (Instr.lookup 130 (.map (some b)) (.int .i64 k) false).run Tryz.prog W=.ok (.int .i64 ((Ct k l).getD 0)) W:=by
 obtain⟨x,h1,h2⟩:=eT k l W;have hz:(zeroValue 3).run Tryz.prog W=.ok (.int .i64 0) W:=(by simp [go_sem]);have hc:∀b,(Instr.checkKey b 10000 3 (.int .i64 k)).run Tryz.prog W=.ok () W:=fun b=>MapKept.run_checkKey (k:=.int .i64 k) Tryz.underlying3 (by simp [MapKept.IsKey]) b 9999;have hm:=run_underlying (w:=W) Tryz.underlying130
 cases h:Ct k l with
 | none=>
  rw [h]at h2;have hx:x=none:=(by simpa using h2);subst hx;simp [Instr.lookup,hm,MapKept.run_getObj_map hb,hc,h1,hz,Result.andThen]
 | some z=>rw [h]at h2;obtain⟨⟨i,v⟩,rfl,hv⟩:=Option.map_eq_some_iff.1 h2;simp only at hv;subst hv;simp [Instr.lookup,hm,MapKept.run_getObj_map hb,hc,h1,Result.andThen]
theorem Ak.mono{K K':Nat→Prop}{w w':World}(h:Ak K w w')(hk:∀k,K k→K' k):Ak K' w w':=⟨h.os,h.tape,h.output,h.size,fun k h1 h2=>h.block k h1 (fun h3=>h2 (hk k h3))⟩
structure Ij(wr:World)(B bx bn bm bu:Nat)(U:Option Addr)(cu:Nat)(units:List Bs)(P E F:Value)(nm:List (Int×Int))(faces:List Bs):Prop where
 cN:wr.heap[bx]?=some (.cells #[.map (some bn)] 130)
 num:Dj wr bn nm
 cM:wr.heap[bm]?=some (.cells #[P,E,F] 35)
 fac:wr.ownsRow B 9 1 F faces.length (faces.map S)
 cU:wr.heap[bu]?=some (.cells #[.slice U units.length cu] 33)
 uni:Ad wr U (units.map S)
 uB:∀x,U=some x→x.block<B
theorem Ij.extn{w w':World}{B bx bn bm bu:Nat}{U:Option Addr}{cu:Nat}{units:List Bs}{P E F:Value}{nm:List (Int×Int)}{faces:List Bs}(h:Ij w B bx bn bm bu U cu units P E F nm faces)(hx:Ab w w'):Ij w' B bx bn bm bu U cu units P E F nm faces:=
 ⟨(hx.block _ (Asy h.cN)).trans h.cN,(hx.block _ (Asy h.num)).trans h.num,(hx.block _ (Asy h.cM)).trans h.cM,An h.fac hx,(hx.block _ (Asy h.cU)).trans h.cU,h.uni.ext hx,h.uB⟩
theorem Ij.far{w w':World}{B bx bn bm bu:Nat}{U:Option Addr}{cu:Nat}{units:List Bs}{P E F:Value}{nm:List (Int×Int)}{faces:List Bs}(h:Ij w B bx bn bm bu U cu units P E F nm faces){K:Nat→Prop}(hb:Ak K w w')
  (k1:¬K bx) (k2:¬K bn) (k3:¬K bm) (k4:¬K bu) (k5:∀k,F.ownBlock=some k→¬K k) (k6:∀x,U=some x→0<units.length→¬K x.block):Ij w' B bx bn bm bu U cu units P E F nm faces:=by
 refine⟨(hb.block _ (Asy h.cN) k1).trans h.cN,(hb.block _ (Asy h.num) k2).trans h.num,(hb.block _ (Asy h.cM) k3).trans h.cM,AS h.fac hb k5,(hb.block _ (Asy h.cU) k4).trans h.cU,⟨fun h0=>?_⟩,h.uB⟩;obtain⟨b,o,e,hc⟩:=h.uni.ad h0;refine⟨b,o,e,fun j hj=>?_⟩;have h1:=hc j hj;exact(World.cell?_of_block (a:=⟨b,o+j,none⟩) (hb.block b (World.block_lt_of_cell? w _ h1) (k6 _ e (by simpa using h0)))).trans h1
def Qg(w:World)(B bx bn bm bu:Nat)(U:Option Addr)(cu:Nat)(units:List Bs)(P E F:Value)(z:Int)(Er:List (Int×Int))(AV:List Bs)(e:Ending)(w':World):Prop:=
 ∃F',e=.returned (.int .i64 z)/\Ij w' B bx bn bm bu U cu units P E F' Er AV/\Ak (fun k=>k=bn∨k=bm∨F.ownBlock=some k) w w'
theorem Ah2{w:World}{B bx bn bm bu:Nat}{U:Option Addr}{cu:Nat}{units:List Bs}{P E F:Value}{nm:List (Int×Int)}{faces:List Bs}(h:Ij w B bx bn bm bu U cu units P E F nm faces)(f z:Int)(hf:Ct f nm=some z) :
  Calls Tryz.prog 126 #[.int .i64 f,.pointer (some ⟨bx,0,none⟩),.pointer (some ⟨bm,0,none⟩),.pointer (some ⟨bu,0,none⟩)] w (Qg w B bx bn bm bu U cu units P E F z nm faces):=by
 have k0:=Aa (o:=0) h.cN rfl;have lk:=VQ f nm h.num;have Lh:=ZH f nm h.num;rw [hf]at lk Lh;simp only [Option.getD_some,Option.isSome_some]at lk Lh;go_enter Tryz.func126,Tryz.ntmps126;go_wp2;go_ret;exact⟨F,rfl,h,Ak.refl _ _⟩
theorem Ah1{w:World}{B bx bn bm bu:Nat}{U:Option Addr}{cu:Nat}{units:List Bs}{P E F:Value}{nm:List (Int×Int)}{faces:List Bs}(h:Ij w B bx bn bm bu U cu units P E F nm faces)(hB:B<=w.heap.size)(hBn:B<=bn)(hBm:B<=bm)(m:Nat)(hf:Ct (m:Int) nm=none)(hm:m<units.length)(Dq:units.length<=100000)(C5:faces.length<=100000) :
  Calls Tryz.prog 126 #[.int .i64 (m:Nat),.pointer (some ⟨bx,0,none⟩),.pointer (some ⟨bm,0,none⟩),.pointer (some ⟨bu,0,none⟩)] w (Qg w B bx bn bm bu U cu units P E F (faces.length:Nat) (nm ++ [((m:Int),(faces.length:Int))]) (faces ++ [units[m]])):=by
 have k0:=Aa (o:=0) h.cN rfl;have lk:=VQ (m:Int) nm h.num;rw [hf]at lk;simp only [Option.getD_none,Option.isSome_none]at lk;obtain⟨W1,hput,Fw,hg1,hs1⟩:=h.num.put (m:Int) (faces.length:Int) hf;have hb1:Ak (fun k=>k=bn) w W1:=(Ak.refl (fun k=>k=bn) w).grown hg1 (fun k e=>by cases e;exact .inl rfl)
 have nx:bx≠bn:=by
  intro e;have:=h.num;unfold Dj at this;rw [←e,h.cN]at this
  cases this
 have nmm:bm≠bn:=by
  intro e;have:=h.num;unfold Dj at this;rw [←e,h.cM]at this
  cases this
 have nu:bu≠bn:=by
  intro e;have:=h.num;unfold Dj at this;rw [←e,h.cU]at this
  cases this
 have nF:F.ownBlock≠some bn:=by
  intro e
  rcases h.fac.2 with⟨h',_⟩|⟨g,cap,cur,h',_,hgb,_⟩
  ·rw [h']at e;cases e
  ·rw [h']at e;simp only [Value.ownBlock,As4]at e;subst e;have:=h.num;unfold Dj at this;rw [hgb]at this
   cases this
 have c1:=(hb1.block _ (Asy h.cN) nx).trans h.cN;have c2:=(hb1.block _ (Asy h.cM) nmm).trans h.cM;have c3:=(hb1.block _ (Asy h.cU) nu).trans h.cU;have c4:=AS h.fac hb1 (fun k hk e=>by subst e;exact nF hk)
 have c5:Ad W1 U (units.map S):=⟨fun h0=>by
  obtain⟨b,o,e,hc⟩:=h.uni.ad h0;refine⟨b,o,e,fun j hj=>?_⟩;have h1:=hc j hj
  exact(World.cell?_of_block (a:=⟨b,o+j,none⟩) (hb1.block b (World.block_lt_of_cell? w _ h1) (fun e'=>by have:=h.uB _ e;simp only at this;omega))).trans h1⟩
 have hB1:B<=W1.heap.size:=(by omega);obtain⟨ub,uo,rfl,hu⟩:=c5.ad (by simp;omega);have mL:=hu m (by simp;omega);have Ar7:ub<B:=h.uB _ rfl;obtain⟨s,hs⟩:=Asw (units[m]);rw [List.getElem_map,←hs]at mL;rw [←hs];obtain⟨oF,cF,rfl,-,-,-⟩:=Ad.of_own' (by omega) h.fac;have k1:w.cell? ⟨bm,2,none⟩=some (.slice oF faces.length cF):=Aa h.cM rfl;have k2:W1.cell? ⟨bm,2,none⟩=some (.slice oF faces.length cF):=Aa c2 rfl;have k3:=Aa (o:=0) c3 rfl;have hm0:(0:Int)<=(m:Int):=(by omega);have hm1:(m:Int)<(units.length:Int):=(by omega);have HN:=Asx Fw;have Qi:=Asx hb1;have HW:=Asx h;have IK:=Asx hf;clear hu hs hf Fw hb1 hg1 hs1 h;go_enter Tryz.func126,Tryz.ntmps126
 go_upto_region 4 with fail
 have fO:(Value.slice oF faces.length cF).ownBlock≠some bm:=Av c4 c2 (by decide);have hFN:(Value.slice oF faces.length cF).ownBlock≠some bx:=Av c4 c1 (by decide);have hFU:(Value.slice oF faces.length cF).ownBlock≠some bu:=Av c4 c3 (by decide);have fZ:=Asy c2;have UA:faces.length<200000:=by omega
 go_region_law (refine Acm rfl _ _ rfl _ B (.slice oF faces.length cF) faces.length faces rfl (An c4 (by first|exact(Ab.refl W1).alloc _|exact((Ab.refl W1).alloc _).drew)) UA s W1.heap.size (Asz W1 _) rfl (by simp;omega) ?_;intro v7 w7 CU GK DJ;obtain⟨GR,GA,rfl,-,-,-⟩:=Ad.of_own' (by omega) CU;have CH:=(DJ.block bm (by simp;omega) (fun e=>fO e.symm)).trans ((((Ab.refl W1).alloc _).block bm fZ).trans c2);have e1:w7.cell? ⟨bm,2,none⟩=some (.slice oF faces.length cF):=Aa CH rfl;have e2:=Ah (o:=2) CH)
 all_goals (
  have E4:Ab W1 ((W1.alloc (.cells #[S s] 9)).drew):=((Ab.refl W1).alloc _).drew;have Yy:((W1.alloc (.cells #[S s] 9)).drew).grownBy w7 (Value.slice oF faces.length cF).ownBlock:=DJ;have g7:∀{j:Nat} {o:Obj},W1.heap[j]?=some o→(Value.slice oF faces.length cF).ownBlock≠some j→w7.heap[j]?=some o:=fun {j o} hj hn=>(Yy.block j (As9 (Asy hj) E4.size) (fun e=>hn e.symm)).trans ((E4.block j (Asy hj)).trans hj);have XN:=g7 c1 hFN;have eu:=g7 c3 hFU;have EO:=g7 HN.out nF;have nxm:=BF c1 c2 (by decide);have num:=BF c3 c2 (by decide)
  have Dm:Ak (fun k=>k=bn∨k=bm∨(Value.slice oF faces.length cF).ownBlock=some k) w (w7.setCell ⟨bm,2,none⟩ (.slice GR (faces.length+1) GA)):=
   (((Qi.out.mono (fun k e=>.inl e)).ext E4).grown Yy (fun k e=>.inl (.inr (.inr e)))).setCell (p:=⟨bm,2,none⟩) (.inl (.inr (.inl rfl))) _
  have o8:=AS (K:=fun k=>k=bm) CU ((Ak.refl (fun k=>k=bm) w7).setCell (p:=⟨bm,2,none⟩) (.inl rfl) (.slice GR (faces.length+1) GA)) (fun k hk e=>by subst e;exact Av CU CH (by decide) hk)
  have N9:Ij (w7.setCell ⟨bm,2,none⟩ (.slice GR (faces.length+1) GA)) B bx bn bm bu (some ⟨ub,uo,none⟩) cu units P E (.slice GR (faces.length+1) GA) (nm ++ [((m:Int),(faces.length:Int))]) (faces ++ [s]):=by
   refine⟨?_,?_,Xh _ CH,by rw [List.length_append];exact o8,?_,⟨fun h0=>?_⟩,HW.out.uB⟩
   ·rw [Bu (by show bx≠bm;exact nxm)];exact XN
   ·unfold Dj;rw [Bu (by show bn≠bm;exact fun e=>nmm e.symm)];exact EO
   ·rw [Bu (by show bu≠bm;exact num)];exact eu
   ·obtain⟨b,o,e,hc⟩:=c5.ad h0;simp only [As4,Addr.mk.injEq,and_true]at e;obtain⟨rfl,rfl⟩:=e;refine⟨ub,uo,rfl,fun j hj=>?_⟩;have h1:=hc j hj;have hlt:=World.block_lt_of_cell? W1 _ h1;have n1:ub≠bm:=(by omega);have n2:(Value.slice oF faces.length cF).ownBlock≠some ub:=fun e=>(by have:=(c4.lt ub e).1;omega);refine(World.cell?_of_block (a:=⟨ub,uo+j,none⟩) (show (w7.setCell ⟨bm,2,none⟩ (.slice GR (faces.length+1) GA)).heap[ub]?=W1.heap[ub]? from ?_)).trans h1;rw [Bu (by show ub≠bm;exact n1)];exact(Yy.block ub (As9 hlt E4.size) (fun e=>n2 e.symm)).trans (E4.block ub hlt)
  have v1:=Aa (o:=0) N9.cN rfl;have Vw:=ZH (m:Int) (nm ++ [((m:Int),(faces.length:Int))]) N9.num
  rw [show Ct (m:Int) (nm ++ [((m:Int),(faces.length:Int))])=some (faces.length:Int)by
   have Pp:=IK.out;unfold Ct at Pp ⊢;rw [List.find?_append]
   cases hq:nm.find? (fun e=>(m:Int) == e.1)with
   | some e=>rw [hq]at Pp;cases Pp
   | none=>simp]at Vw
  simp only [Option.getD_some]at Vw;clear CH e1 e2 DJ Yy CU GK g7 XN eu EO o8 E4;generalize (w7.setCell ⟨bm,2,none⟩ (.slice GR (faces.length+1) GA))=W8 at *;have SR:=Asx N9;have HB9:=Asx Dm;clear N9 Dm;go_wp2;go_ret
  exact⟨_,rfl,SR.out,HB9.out⟩)
end
section
open Go.Shelf
section
variable {P : Program} {ops : Array Oper} {Q : Exit → Act → World → Prop}
theorem ApE{β:Type}{id:Nat}(s m:Nat)(val:β→Nat→Value)(St:β→Array Bool→World→Prop)(b0:β){a0:Act}{w:World}(hm:P.follows .mixedOrders=true)(hb:okB s m ops=true)(hB:s+m<=a0.tmps.size)(h0:St b0 (Array.replicate ops.size false) w.drew)
  (hstep:∀b listed a w i o,Dv .any ops (val b) a0 listed a→St b listed w→ops[i]?=some o→listed.size=ops.size→listed.getD i false=false→(∀e∈o.after,Region.binds .any e=true→listed.getD e.on false=true)→
   o.wp P a w (fun a' w'=>∃b',a'=a.put o.dst (val b' i)/\(∀j,listed.getD j false=true→val b' j=val b j)/\St b' (listed.setIfInBounds i true) w') Q)
  (hend:∀b listed a w,Dv .any ops (val b) a0 listed a→a.defers=a0.defers→(∀i,i<ops.size→listed.getD i false=true)→St b listed w→Q .normal a w):(Code.region id ops true).wp P Q a0 w:=by
 refine AcQ (fun listed a w'=>∃b,(Dv .any ops (val b) a0 listed a/\a.defers=a0.defers)/\St b listed w') hm (fun i o ho=>(M9 hb i o ho).2.2) (fun i o ho=>(M9 hb i o ho).2.1) ⟨b0,⟨Dv.start,rfl⟩,h0⟩ ?_ ?_
 ·rintro listed a w' i o ⟨b,⟨Ai,GI⟩,hst⟩ hs AG ho hd;have hi:i<ops.size:=(Array.getElem?_eq_some_iff.1 ho).1;have hr:i∈Region.ready .any ops listed:=mem_ready.2 ⟨getD_in (by omega) AG,o,ho,hd⟩;refine Oper.wp_mono ?_ (hstep b listed a w' i o Ai hst ho hs AG hd);rintro a' w2 ⟨b',rfl,hv,Aka⟩;have lM:Dv .any ops (val b') a0 listed a:=⟨Ai.sz,Ai.lsz,fun j oj d hj hl jY=>by rw [hv j hl];exact Ai.done j oj d hj hl jY,Ai.rest,Ai.closed⟩;exact⟨b',⟨lM.step (fun i o ho=>(M9 hb i o ho).1) hB ho hr,by rw [←GI];cases o.dst<;>rfl⟩,Aka⟩
 ·rintro listed a w' ⟨b,⟨Ai,GI⟩,hst⟩ hall;exact hend b listed a w' Ai GI hall hst
end
theorem Dv.lit{md:Region.Mode}{ops:Array Oper}{val:Nat→Value}{a0 a:Act}{listed:Array Bool}{s m:Nat}(h:Dv md ops val a0 listed a)(hb:okB s m ops=true)(hm:m<=ops.size)(hs:s+m<=a0.tmps.size)(hall:∀i,i<ops.size→listed.getD i false=true)(hd:a.defers=a0.defers) :
  a=⟨(a0.tmps.toList.take s++((List.range m).map val++a0.tmps.toList.drop (s+m))).toArray,a0.defers⟩:=by
 refine uE ?_ ?_ hd
 ·rw [h.sz];simp only [List.length_append,List.length_take,List.length_map,List.length_range,List.length_drop,Array.length_toList];omega
 ·intro d Pn;simp only [List.length_append,List.length_take,List.length_map,List.length_range,List.length_drop,Array.length_toList]at Pn
  have out:∀e,(e<s∨s+m<=e)→(he:e<a0.tmps.size)→a.eval (.tmp e)=a0.tmps.toList[e]'(by simpa using he):=fun e h1 he=>by refine h.out hb h1 ?_;simp [Act.eval,Array.getD_eq_getD_getElem?,Array.getElem?_eq_getElem he]
  by_cases h1:d<s
  ·rw [List.getElem_append_left (by simp;omega)];rw [List.getElem_take];exact out d (.inl h1) (by omega)
  ·rw [List.getElem_append_right (by simp;omega)];simp only [List.length_take,Array.length_toList,Nat.min_eq_left (show s<=a0.tmps.size by omega)];by_cases h2:d<s+m
   ·rw [List.getElem_append_left (by simp;omega)];simp only [List.getElem_map,List.getElem_range];exact h.val hb (d-s) (by omega) (by omega) (hall _ (by omega)) rfl
   ·rw [List.getElem_append_right (by simp;omega)];simp only [List.length_map,List.length_range,List.getElem_drop];have e3:s+m+(d-s-m)=d:=(by omega);have:=out d (.inr (by omega)) (by omega);rw [this]
    congr 1
    omega
theorem vJ{w:World}{b:Nat}{a0 a1 a2:Value}{t:TypeId}(v:Value)(h:w.heap[b]?=some (.cells #[a0,a1,a2] t)):(w.setCell ⟨b,1,none⟩ v).heap[b]?=some (.cells #[a0,v,a2] t):=by
 simp only [World.setCell,Array.getElem?_modify,h];simp
structure Cn where
 B:Nat
 bx:Nat
 bn:Nat
 bm:Nat
 bu:Nat
 bi:Nat
 r:Nat
 b1:Nat
 b2:Nat
 U:Option Addr
 cu:Nat
 units:List Bs
 P:Value
 idx:List (Pt×Int)
 L:List (Sg×Int)
structure Cn.Ok(c:Cn):Prop where
 r:c.r<c.B
 b1:c.b1<c.B
 bn:c.B<=c.bn
 bm:c.B<=c.bm
 ni:c.bi≠c.bn
def Cn.fn(c:Cn):Value:=.func (.func 126) #[] #[.pointer (some ⟨c.bx,0,none⟩),.pointer (some ⟨c.bm,0,none⟩),.pointer (some ⟨c.bu,0,none⟩)]
structure Tl(c:Cn)(w:World):Prop where
 net:w.heap[c.r]?=some (.cells #[.map (some c.b1),.map (some c.b2)] 98)
 left:w.heap[c.b1]?=some (.map (AK A8 (stamp c.L)).toArray c.L.length)
 idx:IR w c.bi c.idx
structure Cs(c:Cn)(E F:Value)(nm:List (Int×Int))(faces:List Bs)(eds:List EdZ)(w:World):Prop where
 fc:Ij w c.B c.bx c.bn c.bm c.bu c.U c.cu c.units c.P E F nm faces
 rd:Tl c w
 own:w.ownsRow c.B 51 4 E eds.length (Ar eds)
 size:c.B<=w.heap.size
def KE(w:World)(b:Nat)(x:Sg):Prop:=w.heap[b]?=some (.cells #[S (R x.a.x),S (R x.a.y),S (R x.b.x),S (R x.b.y)] 140)
section
variable {c : Cn} {E F : Value} {nm : List (Int × Int)} {faces : List Bs} {eds : List EdZ} {w w' : World}
theorem Tl.but(h:Tl c w){K:Nat→Prop}(hb:Ak K w w')(k1:¬K c.r)(k2:¬K c.b1)(k3:¬K c.bi):Tl c w':=
 ⟨(hb.block _ (Asy h.net) k1).trans h.net,(hb.block _ (Asy h.left) k2).trans h.left,(hb.block _ (Asy h.idx) k3).trans h.idx⟩
theorem Cs.ext(h:Cs c E F nm faces eds w)(hx:Ab w w'):Cs c E F nm faces eds w':=
 ⟨h.fc.extn hx,⟨(hx.block _ (Asy h.rd.net)).trans h.rd.net,(hx.block _ (Asy h.rd.left)).trans h.rd.left,(hx.block _ (Asy h.rd.idx)).trans h.rd.idx⟩,An h.own hx,AsA h.size hx.size⟩
theorem Z5{B:Nat}{e:TypeId}{s n:Nat}{v:Value}{xs:List Value}(h:w.ownsRow B e s v n xs){j:Nat}{es:Array MapEntry}{k:Nat}(hj:w.heap[j]?=some (.map es k)):v.ownBlock≠some j:=by
 intro hk
 rcases h.2 with⟨h',_⟩|⟨g,cap,cur,h',_,hgb,_⟩
 ·rw [h']at hk;cases hk
 ·rw [h']at hk;simp only [Value.ownBlock,As4]at hk;subst hk;rw [hgb]at hj
  cases hj
theorem Nr{i j:Nat}{cs:Array Value}{t:TypeId}{f:Nat×Nat}{es:Array MapEntry}{k:Nat}(hi:w.heap[i]?=some (.cells cs t f))(hj:w.heap[j]?=some (.map es k)):i≠j:=by
 rintro rfl;rw [hi]at hj
 cases hj
theorem Cs.named(ok:c.Ok)(h:Cs c E F nm faces eds w){F':Value}{Er:List (Int×Int)}{AV:List Bs}(hf:Ij w' c.B c.bx c.bn c.bm c.bu c.U c.cu c.units c.P E F' Er AV)(hb:Ak (fun k=>k=c.bn∨k=c.bm∨F.ownBlock=some k) w w'):Cs c E F' Er AV eds w':=by
 have o1:=ok.r;have o2:=ok.b1;have o3:=ok.bn;have o4:=ok.bm;refine⟨hf,h.rd.but hb ?_ ?_ ?_,AS h.own hb ?_,AsA h.size hb.size⟩
 ·rintro(e|e|e)
  ·omega
  ·omega
  ·have:=(h.fc.fac.lt _ e).1;omega
 ·rintro(e|e|e)
  ·omega
  ·omega
  ·have:=(h.fc.fac.lt _ e).1;omega
 ·rintro(e|e|e)
  ·exact ok.ni e
  ·exact Nr h.fc.cM h.rd.idx e.symm
  ·exact Z5 h.fc.fac h.rd.idx e
 ·rintro k hk (e|e|e)
  ·subst e;exact Z5 h.own h.fc.num hk
  ·subst e;exact Av h.own h.fc.cM (by decide) hk
  ·rcases h.fc.fac.2 with⟨h',_⟩|⟨g,cap,cur,h',_,hgb,_⟩
   ·rw [h']at e;cases e
   ·rw [h']at e;simp only [Value.ownBlock,As4]at e;subst e;exact Av h.own hgb (by decide) hk
theorem Cs.app(ok:c.Ok)(h:Cs c E F nm faces eds w){d:EdZ}{v':Value}(hg:w.grownBy w' E.ownBlock)(ho:w'.ownsRow c.B 51 4 v' (eds.length+1) (Ar (eds ++ [d]))) :
  w'.heap[c.bm]?=some (.cells #[c.P,E,F] 35)/\Cs c v' F nm faces (eds ++ [d]) (w'.setCell ⟨c.bm,1,none⟩ v'):=by
 have o1:=ok.r;have o2:=ok.b1;have o4:=ok.bm;have hb:Ak (fun k=>E.ownBlock=some k) w w':=(Ak.refl (fun k=>E.ownBlock=some k) w).grown hg (fun k e=>.inl e);have n1:=Av h.own h.fc.cM (by decide);have n2:=Av h.own h.fc.cN (by decide);have n3:=Av h.own h.fc.cU (by decide);have n4:=Z5 h.own h.fc.num;have n5:=Z5 h.own h.rd.idx;have hM:=(hb.block _ (Asy h.fc.cM) n1).trans h.fc.cM
 have f1:Ij w' c.B c.bx c.bn c.bm c.bu c.U c.cu c.units c.P E F nm faces:=by
  refine h.fc.far hb n2 n4 n1 n3 ?_ ?_
  ·intro k hk e
   rcases h.own.2 with⟨h',_⟩|⟨g,cap,cur,h',_,hgb,_⟩
   ·rw [h']at e;cases e
   ·rw [h']at e;simp only [Value.ownBlock,As4]at e;subst e;exact Av h.fc.fac hgb (by decide) hk
  ·intro x hx _ e;have:=h.fc.uB x hx;have:=(h.own.lt _ e).1;omega
 have r1:Tl c w':=h.rd.but hb (fun e=>by have:=(h.own.lt _ e).1;omega) (fun e=>by have:=(h.own.lt _ e).1;omega) n5;have hb2:Ak (fun k=>k=c.bm) w' (w'.setCell ⟨c.bm,1,none⟩ v'):=(Ak.refl (fun k=>k=c.bm) w').setCell (p:=⟨c.bm,1,none⟩) (.inl rfl) v';refine⟨hM,⟨⟨?_,?_,vJ _ hM,AS f1.fac hb2 ?_,?_,⟨fun h0=>?_⟩,h.fc.uB⟩,r1.but hb2 (by omega) (by omega) ?_,by rw [List.length_append];exact AS ho hb2 (fun k hk e=>by subst e;exact Av ho hM (by decide) hk),AsA h.size (AsA hb.size hb2.size)⟩⟩
 ·exact(hb2.block _ (Asy f1.cN) (BF f1.cN hM (by decide))).trans f1.cN
 ·exact(hb2.block _ (Asy f1.num) (fun e=>Nr hM f1.num e.symm)).trans f1.num
 ·intro k hk e;subst e;exact Av f1.fac hM (by decide) hk
 ·exact(hb2.block _ (Asy f1.cU) (BF f1.cU hM (by decide))).trans f1.cU
 ·obtain⟨b,o,e,hc⟩:=f1.uni.ad h0;refine⟨b,o,e,fun j hj=>?_⟩;have h1:=hc j hj;exact(World.cell?_of_block (a:=⟨b,o+j,none⟩) (hb2.block b (World.block_lt_of_cell? w' _ h1) (fun e'=>by have:=h.fc.uB _ e;simp only at this;omega))).trans h1
 ·exact fun e=>Nr hM r1.idx e.symm
structure KB(B:Nat)(W w:World):Prop where
 kp:∀(k:Nat) (cs:Array Value) (t:TypeId) (f:Nat×Nat),t≠35→t≠9→t≠51→W.heap[k]?=some (.cells cs t f)→w.heap[k]?=some (.cells cs t f)
 bl:Below B W w
theorem KB.refl(B:Nat)(W:World):KB B W W:=⟨fun _ _ _ _ _ _ _ h=>h,Below.refl _ _⟩
theorem KB.trans{B:Nat}{a b d:World}(h:KB B a b)(k:KB B b d):KB B a d:=⟨fun i cs t f h1 h2 h3 h4=>k.kp i cs t f h1 h2 h3 (h.kp i cs t f h1 h2 h3 h4),h.bl.trans k.bl⟩
theorem KB.ext{B:Nat}{a b:World}(hx:Ab a b)(hB:B<=a.heap.size):KB B a b:=⟨fun _ _ _ _ _ _ _ h=>(hx.block _ (Asy h)).trans h,Below.mono hx hB⟩
theorem KB.named(ok:c.Ok)(h:Cs c E F nm faces eds w)(hb:Ak (fun k=>k=c.bn∨k=c.bm∨F.ownBlock=some k) w w'):KB c.B w w':=by
 have o3:=ok.bn;have o4:=ok.bm;refine⟨fun k cs t f h1 h2 h3 h4=>(hb.block _ (Asy h4) ?_).trans h4,⟨hb.os,hb.tape,hb.output,hb.size,fun k hk=>hb.block k (As9 hk h.size) ?_⟩⟩
 ·rintro(e|e|e)
  ·exact Nr h4 h.fc.num e
  ·exact BF h4 h.fc.cM h1 e
  ·exact Av h.fc.fac h4 (fun e'=>h2 e'.symm) e
 ·rintro(e|e|e)
  ·omega
  ·omega
  ·have:=(h.fc.fac.lt _ e).1;omega
theorem KB.app(h:Cs c E F nm faces eds w)(hg:w.grownBy w' E.ownBlock):KB c.B w w':=
 ⟨fun _ _ _ _ _ _ h3 h4=>(hg.block _ (Asy h4) (fun e=>Av h.own h4 (fun e'=>h3 e'.symm) e.symm)).trans h4,(Below.refl c.B w).grown hg h.size (fun k e=>(h.own.lt k e).1)⟩
theorem KB.set(ok:c.Ok){P' E' F':Value}(hM:w.heap[c.bm]?=some (.cells #[P',E',F'] 35))(v:Value):KB c.B w (w.setCell ⟨c.bm,1,none⟩ v):=
 ⟨fun _ _ _ _ h1 _ _ h4=>(Bu (BF h4 hM h1)).trans h4,(Below.refl _ _).setCell (p:=⟨c.bm,1,none⟩) ok.bm v⟩
end
end
section
open Go.Shelf
def oQ:List (Op×Option Nat):=[
 (.fieldAddr 35 (.tmp 5) 1,some 64),(.load 32 (.tmp 64),some 65),(.move (.tmp 6),some 66),(.fieldAddr 140 (.tmp 12) 0,some 67),(.load 24 (.tmp 67),some 68),
 (.lookup 197 (.tmp 66) (.tmp 68) false,some 69),(.move (.tmp 6),some 70),(.fieldAddr 140 (.tmp 12) 1,some 71),(.load 24 (.tmp 71),some 72),
 (.lookup 197 (.tmp 70) (.tmp 72) false,some 73),(.move (.tmp 13),some 74),(.move (.tmp 10),some 75),(.move (.tmp 0),some 76),(.nilCheck (.tmp 76),some 77),(.fieldAddr 98 (.tmp 77) 0,some 78),
 (.load 95 (.tmp 78),some 79),(.load 140 (.tmp 12),some 80),
 (.call {callee:=.value (.func 82),args:=#[.tmp 80],argTypes:=#[140]},some 81),(.lookup 95 (.tmp 79) (.tmp 81) false,some 82),
 (.call {callee:=.value (.tmp 75),args:=#[.tmp 82],argTypes:=#[3]},some 83),
 (.build 51 #[(0,.tmp 69),(1,.tmp 73),(2,.tmp 74),(3,.tmp 83)],some 84),(.buildSlice 32 1 #[(0,.tmp 84)],some 85),
 (.call {callee:=.builtin .append,args:=#[.tmp 65,.tmp 85],argTypes:=#[32,32]},some 86),(.fieldAddr 35 (.tmp 5) 1,some 87),(.store 32 (.tmp 87) (.tmp 86),none)]
def eF:List (Nat×Nat):=[(1,0),(4,3),(5,2),(5,4),(8,7),(9,6),(9,8),(13,12),(14,13),(15,14),(17,16),(18,15),(18,17),(19,11),(19,18),(20,5),(20,9),(20,10),(20,19),(21,20),(22,1),(22,21),(24,22),(24,23)]
def MP(c:Cn)(E:Value)(CO:Nat)(x:Sg)(zl i1 i2 lr zr:Int)(g:Nat×Value):Nat→Value
 | 0=>.pointer (some ⟨c.bm,1,none⟩)
 | 1=>E
 | 2=>.map (some c.bi)
 | 3=>.pointer (some ⟨CO,0,none⟩)
 | 4=>Af x.a
 | 5=>.int .i64 i1
 | 6=>.map (some c.bi)
 | 7=>.pointer (some ⟨CO,2,none⟩)
 | 8=>Af x.b
 | 9=>.int .i64 i2
 | 10=>.int .i64 zl
 | 11=>c.fn
 | 12=>.pointer (some ⟨c.r,0,none⟩)
 | 13=>.pointer (some ⟨c.r,0,none⟩)
 | 14=>.pointer (some ⟨c.r,0,none⟩)
 | 15=>.map (some c.b1)
 | 16=>A8 x
 | 17=>A8 (Bg x)
 | 18=>.int .i64 lr
 | 19=>.int .i64 zr
 | 20=>.agg #[.int .i64 i1,.int .i64 i2,.int .i64 zl,.int .i64 zr]
 | 21=>.slice (some ⟨g.1,0,none⟩) 1 1
 | 22=>g.2
 | _=>.pointer (some ⟨c.bm,1,none⟩)
structure Qu(c:Cn)(W:World)(E:Value)(eds:List EdZ)(d:EdZ)(Er:List (Int×Int))(AV:List Bs)(CO:Nat)(x:Sg)(g:Nat×Value)(l:Array Bool)(w:World):Prop where
 way:KE w CO x
 kb:KB c.B W w
 sA:l.getD 19 false=false→Ab W w
 sB:l.getD 19 false=true→l.getD 22 false=false→∃F',Cs c E F' Er AV eds w
 sG:l.getD 21 false=true→l.getD 22 false=false→w.heap[g.1]?=some (.cells #[.int .i64 d.f,.int .i64 d.t,.int .i64 d.l,.int .i64 d.r] 51)
 sC:l.getD 22 false=true→l.getD 24 false=false→∃F',w.heap[c.bm]?=some (.cells #[c.P,E,F'] 35)/\(∃A k d,g.2=.slice A k d)/\Cs c g.2 F' Er AV (eds ++ [d]) (w.setCell ⟨c.bm,1,none⟩ g.2)
 sD:l.getD 24 false=true→∃F',Cs c g.2 F' Er AV (eds ++ [d]) w
theorem AhG(b:Nat)(w:World):(Instr.fieldAt 140 (.pointer (some ⟨b,0,none⟩)) 0).run Tryz.prog w=.ok (.pointer (some ⟨b,0,none⟩)) w:=by simp [go_sem]
theorem AhH(b:Nat)(w:World):(Instr.fieldAt 140 (.pointer (some ⟨b,0,none⟩)) 1).run Tryz.prog w=.ok (.pointer (some ⟨b,2,none⟩)) w:=by simp [go_sem]
theorem AhF(b:Nat)(w:World):(Instr.fieldAt 98 (.pointer (some ⟨b,0,none⟩)) 0).run Tryz.prog w=.ok (.pointer (some ⟨b,0,none⟩)) w:=by simp [go_sem]
theorem Alw{w:World}{b:Nat}{x:Sg}(h:KE w b x):(Instr.loadAt 140 (.pointer (some ⟨b,0,none⟩))).run Tryz.prog w=.ok (A8 x) w:=by
 have h0:=Aa (o:=0) h rfl;have h1:=Aa (o:=1) h rfl;have h2:=Aa (o:=2) h rfl;have h3:=Aa (o:=3) h rfl;simp [go_sem,h0,h1,h2,h3,A8]
theorem Alv{w:World}{b:Nat}{u v:Value}(h:w.heap[b]?=some (.cells #[u,v] 98)):(Instr.loadAt 95 (.pointer (some ⟨b,0,none⟩))).run Tryz.prog w=.ok u w:=by
 have h0:=Aa (o:=0) h rfl;simp [go_sem,h0]
theorem rF{P:Program}{o:Oper}{a:Act}{w:World}{v:Value}{K:Act→World→Prop}{Q:Exit→Act→World→Prop}{t:TypeId}{x y:Operand}{b:Bool}{D:Option Nat}(p:.lookup t x y b=o.op)(d:D=o.dst)(h:(Instr.lookup t (a.eval x) (a.eval y) b).run P w=.ok v w)(hk:K (a.put D v) w):o.wp P a w K Q:=
 Qb (Instr.lookup t (a.eval x) (a.eval y) b) (by unfold execOp;rw [←p]) h (d▸hk)
section
variable {c : Cn} {W : World} {E : Value} {eds : List EdZ} {d : EdZ} {Er : List (Int × Int)} {AV : List Bs} {CO : Nat} {x : Sg} {g : Nat × Value} {l : Array Bool} {w : World}
theorem Qu.put(h:Qu c W E eds d Er AV CO x g l w){i:Nat}(hi:i≠19/\i≠21/\i≠22/\i≠24):Qu c W E eds d Er AV CO x g (l.setIfInBounds i true) w:=by
 refine⟨h.way,h.kb,?_,?_,?_,?_,?_⟩
 all_goals simp only [getD_set_ne false hi.1,getD_set_ne false hi.2.1,getD_set_ne false hi.2.2.1,getD_set_ne false hi.2.2.2]
 ·exact h.sA
 ·exact h.sB
 ·exact h.sG
 ·exact h.sC
 ·exact h.sD
end
theorem AnO{c:Cn}(ok:c.Ok){W:World}{E F:Value}{nm Er:List (Int×Int)}{faces AV:List Bs}{eds:List EdZ}(h0:Cs c E F nm faces eds W){CO:Nat}{x:Sg}(hx:KE W CO x)(hel:eds.length<200000)(zl i1 i2 lr zr:Int)
  (Ji:Ib x.a c.idx=i1) (Ro:Ib x.b c.idx=i2) (pu:AM (Bg x) c.L=lr)
  (Yx:∀w F,Cs c E F nm faces eds w→Calls Tryz.prog 126 #[.int .i64 lr,.pointer (some ⟨c.bx,0,none⟩),.pointer (some ⟨c.bm,0,none⟩),.pointer (some ⟨c.bu,0,none⟩)] w (Qg w c.B c.bx c.bn c.bm c.bu c.U c.cu c.units c.P E F zr Er AV))
  {a0:Act} {ops:Array Oper} (hop:ops.toList.map (fun o=>(o.op,o.dst))=oQ) (Bq:xW ops eF=true) (YL:okB 64 24 ops=true) (hsz:88<=a0.tmps.size)
  (e5:a0.eval (.tmp 5)=.pointer (some ⟨c.bm,0,none⟩)) (e6:a0.eval (.tmp 6)=.map (some c.bi)) (e12:a0.eval (.tmp 12)=.pointer (some ⟨CO,0,none⟩)) (eJ:a0.eval (.tmp 13)=.int .i64 zl) (e10:a0.eval (.tmp 10)=c.fn) (e0:a0.eval (.tmp 0)=.pointer (some ⟨c.r,0,none⟩))
  {id:Nat} {Q:Exit→Act→World→Prop}
  (hend:∀(v:Nat→Value) w E' F',Cs c E' F' Er AV (eds ++ [⟨i1,i2,zl,zr⟩]) w→KB c.B W w→Q .normal ⟨(a0.tmps.toList.take 64++((List.range 24).map v++a0.tmps.toList.drop 88)).toArray,a0.defers⟩ w) :
  (Code.region id ops true).wp Tryz.prog Q a0 W:=by
 have Xs:Enters Tryz.prog 82:=enters_of Tryz.func82 (by kernel_rfl) rfl;have eL:Enters Tryz.prog 126:=enters_of Tryz.func126 (by kernel_rfl) rfl
 have Ar3:ops.size=25:=by
  have:=congrArg List.length hop
  simpa [oQ]using this
 refine ApE 64 24 (MP c E CO x zl i1 i2 lr zr) (fun g l w=>Qu c W E eds ⟨i1,i2,zl,zr⟩ Er AV CO x g l w) (0,.slice none 0 0) (by kernel_rfl) YL (by omega) ?_ ?_ ?_
 ·refine⟨(Ab.refl W).drew.block _ (Asy hx) |>.trans hx,KB.ext (Ab.refl W).drew h0.size,fun _=>(Ab.refl W).drew,?_,?_,?_,?_⟩
  all_goals (rw [getD_replicate_false];intro e;cases e)
 ·intro b l a w i o Ai hst ho hls AG hd;have hi:i<25:=(by have:=(Array.getElem?_eq_some_iff.1 ho).1;omega);have hL:=Aa8 hop ho;have Yr:=O5 hd;have ev:=fun (d:Nat) {v:Value} (e:a0.eval (.tmp d)=v) (hd:d<64)=>Ai.out YL (.inl hd) e;replace e5:=ev 5 e5 (by omega);replace e6:=ev 6 e6 (by omega);replace e12:=ev 12 e12 (by omega);replace eJ:=ev 13 eJ (by omega);replace e10:=ev 10 e10 (by omega);replace e0:=ev 0 e0 (by omega)
  have dep:∀j k,eF.contains (j,k)=true→j=i→l.getD k false=true:=by rintro j k hjk rfl;have h1:=List.all_eq_true.1 Bq (j,k) (by simpa using hjk);rw [ho]at h1;exact Yr k h1
  have need:∀j k,eF.contains (j,k)=true→l.getD j false=true→l.getD k false=true:=by
   intro j k hjk hl;have h1:=List.all_eq_true.1 Bq (j,k) (by simpa using hjk)
   cases NY:ops[j]? with
   | none=>rw [NY]at h1;cases h1
   | some oj=>rw [NY]at h1;exact Ai.waits NY hl k h1
  have sl:=fun (k:Nat) (hk:k<24) (hl:l.getD k false=true)=>Ai.val YL k (d:=64+k) rfl hk hl (v:=MP c E CO x zl i1 i2 lr zr b k) rfl
  have dN:l.getD 22 false=true→∀k,k<22→k≠0∨k=0→l.getD k false=true:=by
   intro LR k hk _;have k1:=need 22 1 (by decide) LR;have k21:=need 22 21 (by decide) LR;have YY:=need 21 20 (by decide) k21;have k5:=need 20 5 (by decide) YY;have k9:=need 20 9 (by decide) YY;have k10:=need 20 10 (by decide) YY;have yc:=need 20 19 (by decide) YY;have k0:=need 1 0 (by decide) k1;have k2:=need 5 2 (by decide) k5;have k4:=need 5 4 (by decide) k5;have k3:=need 4 3 (by decide) k4;have k6:=need 9 6 (by decide) k9;have k8:=need 9 8 (by decide) k9;have k7:=need 8 7 (by decide) k8;have k11:=need 19 11 (by decide) yc;have yb:=need 19 18 (by decide) yc;have k15:=need 18 15 (by decide) yb;have k17:=need 18 17 (by decide) yb;have k16:=need 17 16 (by decide) k17;have k14:=need 15 14 (by decide) k15;have k13:=need 14 13 (by decide) k14;have k12:=need 13 12 (by decide) k13
   rcases(by omega:k=0∨k=1∨k=2∨k=3∨k=4∨k=5∨k=6∨k=7∨k=8∨k=9∨k=10∨k=11∨k=12∨k=13∨k=14∨k=15∨k=16∨k=17∨k=18∨k=19∨k=20∨k=21)with rfl|rfl|rfl|rfl|rfl|rfl|rfl|rfl|rfl|rfl|rfl|rfl|rfl|rfl|rfl|rfl|rfl|rfl|rfl|rfl|rfl|rfl<;>assumption
  have n22:i<22→l.getD 22 false=false:=fun h=>by
   cases e:l.getD 22 false
   ·rfl
   ·have:=dN e i h (by omega);rw [AG]at this;cases this
  have cs:i<22→∃F nm faces,Cs c E F nm faces eds w:=fun h=>by
   cases e:l.getD 19 false
   ·exact⟨_,_,_,h0.ext (hst.sA e)⟩
   ·obtain⟨F',h'⟩:=hst.sB e (n22 h);exact⟨F',_,_,h'⟩
  have fin:(i≠19/\i≠21/\i≠22/\i≠24)→∀v,v=MP c E CO x zl i1 i2 lr zr b i→∃b',a.put o.dst v=a.put o.dst (MP c E CO x zl i1 i2 lr zr b' i)/\(∀j,l.getD j false=true→MP c E CO x zl i1 i2 lr zr b' j=MP c E CO x zl i1 i2 lr zr b j)/\Qu c W E eds ⟨i1,i2,zl,zr⟩ Er AV CO x b' (l.setIfInBounds i true) w:=
   fun hne v hv=>⟨b,by rw [hv],fun _ _=>rfl,hst.put hne⟩
  rcases(by omega:i=0∨i=1∨i=2∨i=3∨i=4∨i=5∨i=6∨i=7∨i=8∨i=9∨i=10∨i=11∨i=12∨i=13∨i=14∨i=15∨i=16∨i=17∨i=18∨i=19∨i=20∨i=21∨i=22∨i=23∨i=24)with rfl|rfl|rfl|rfl|rfl|rfl|rfl|rfl|rfl|rfl|rfl|rfl|rfl|rfl|rfl|rfl|rfl|rfl|rfl|rfl|rfl|rfl|rfl|rfl|rfl
  all_goals
   simp only [oQ,List.getElem?_cons_zero,List.getElem?_cons_succ,As4,Prod.mk.injEq]at hL;obtain⟨p,d⟩:=hL
  ·refine MR p d (by rw [e5];exact Xz _ _) ?_;rw [d];exact fin (by omega) _ rfl
  ·obtain⟨F1,Lj,Xw,hc⟩:=cs (by omega);refine Kw p d (by rw [show a.eval (.tmp 64)=_ from sl 0 (by omega) (dep 1 0 (by decide) rfl)];exact zh (Aa hc.fc.cM rfl)) ?_;rw [d];exact fin (by omega) _ rfl
  ·refine O6 _ p.symm ?_;rw [e6];exact fin (by omega) _ rfl
  ·refine MR p d (by rw [e12];exact AhG _ _) ?_;rw [d];exact fin (by omega) _ rfl
  ·refine Kw p d (by rw [show a.eval (.tmp 67)=_ from sl 3 (by omega) (dep 4 3 (by decide) rfl)];exact Zc (Aa (o:=0) hst.way rfl) (Aa (o:=1) hst.way rfl)) ?_;rw [d];exact fin (by omega) _ rfl
  ·obtain⟨F1,Lj,Xw,hc⟩:=cs (by omega);refine rF p d (by rw [show a.eval (.tmp 66)=_ from sl 2 (by omega) (dep 5 2 (by decide) rfl),show a.eval (.tmp 68)=_ from sl 4 (by omega) (dep 5 4 (by decide) rfl)];exact hc.rd.idx.look x.a) ?_;rw [d];exact fin (by omega) _ (by rw [Ji];rfl)
  ·refine O6 _ p.symm ?_;rw [e6];exact fin (by omega) _ rfl
  ·refine MR p d (by rw [e12];exact AhH _ _) ?_;rw [d];exact fin (by omega) _ rfl
  ·refine Kw p d (by rw [show a.eval (.tmp 71)=_ from sl 7 (by omega) (dep 8 7 (by decide) rfl)];exact Zc (Aa (o:=2) hst.way rfl) (Aa (o:=3) hst.way rfl)) ?_;rw [d];exact fin (by omega) _ rfl
  ·obtain⟨F1,Lj,Xw,hc⟩:=cs (by omega);refine rF p d (by rw [show a.eval (.tmp 70)=_ from sl 6 (by omega) (dep 9 6 (by decide) rfl),show a.eval (.tmp 72)=_ from sl 8 (by omega) (dep 9 8 (by decide) rfl)];exact hc.rd.idx.look x.b) ?_;rw [d];exact fin (by omega) _ (by rw [Ro];rfl)
  ·refine O6 _ p.symm ?_;rw [eJ];exact fin (by omega) _ rfl
  ·refine O6 _ p.symm ?_;rw [e10];exact fin (by omega) _ rfl
  ·refine O6 _ p.symm ?_;rw [e0];exact fin (by omega) _ rfl
  ·have s12:a.eval (.tmp 76)=.pointer (some ⟨c.r,0,none⟩):=sl 12 (by omega) (dep 13 12 (by decide) rfl);refine AcO (v:=.pointer (some ⟨c.r,0,none⟩)) (w':=w) ?_ (fin (by omega) _ rfl);unfold execOp;rw [←p];simp [s12]
  ·refine MR p d (by rw [show a.eval (.tmp 77)=_ from sl 13 (by omega) (dep 14 13 (by decide) rfl)];exact AhF _ _) ?_;rw [d];exact fin (by omega) _ rfl
  ·obtain⟨F1,Lj,Xw,hc⟩:=cs (by omega);refine Kw p d (by rw [show a.eval (.tmp 78)=_ from sl 14 (by omega) (dep 15 14 (by decide) rfl)];exact Alv hc.rd.net) ?_;rw [d];exact fin (by omega) _ rfl
  ·refine Kw p d (by rw [e12];exact Alw hst.way) ?_;rw [d];exact fin (by omega) _ rfl
  ·have n19:l.getD 19 false=false:=by
    cases e:l.getD 19 false
    ·rfl
    ·have:=need 18 17 (by decide) (need 19 18 (by decide) e);rw [AG]at this;cases this
   have n21:l.getD 21 false=false:=by
    cases e:l.getD 21 false
    ·rfl
    ·have:=need 20 19 (by decide) (need 21 20 (by decide) e);rw [n19]at this;cases this
   have n24:l.getD 24 false=false:=by
    cases e:l.getD 24 false
    ·rfl
    ·have:=need 24 22 (by decide) e;rw [n22 (by omega)]at this;cases this
   refine ApD p.symm Xs (show a.eval (.tmp 80)=_ from sl 16 (by omega) (dep 17 16 (by decide) rfl)) (Xc x w) ?_;rintro e w'' ⟨rfl,hX⟩;refine⟨_,rfl,b,rfl,fun _ _=>rfl,?_⟩;refine Qu.put ⟨(hX.block _ (Asy hst.way)).trans hst.way,hst.kb.trans (KB.ext hX (h0.ext (hst.sA n19)).size),fun e=>(hst.sA e).trans hX,fun e=>?_,fun e=>?_,fun e=>?_,fun e=>?_⟩ (by omega)
   ·rw [n19]at e;cases e
   ·rw [n21]at e;cases e
   ·rw [n22 (by omega)]at e;cases e
   ·rw [n24]at e;cases e
  ·obtain⟨F1,Lj,Xw,hc⟩:=cs (by omega);refine rF p d (by rw [show a.eval (.tmp 79)=_ from sl 15 (by omega) (dep 18 15 (by decide) rfl),show a.eval (.tmp 81)=_ from sl 17 (by omega) (dep 18 17 (by decide) rfl)];exact O3 _ _ hc.rd.left) ?_;rw [d];exact fin (by omega) _ (by rw [pu];rfl)
  ·have n21:l.getD 21 false=false:=by
    cases e:l.getD 21 false
    ·rfl
    ·have:=need 20 19 (by decide) (need 21 20 (by decide) e);rw [AG]at this;cases this
   have n24:l.getD 24 false=false:=by
    cases e:l.getD 24 false
    ·rfl
    ·have:=need 24 22 (by decide) e;rw [n22 (by omega)]at this;cases this
   have hC:=h0.ext (hst.sA AG);refine AcN p.symm eL (show a.eval (.tmp 75)=_ from sl 11 (by omega) (dep 19 11 (by decide) rfl)) (show a.eval (.tmp 82)=_ from sl 18 (by omega) (dep 19 18 (by decide) rfl)) (Yx w F hC) ?_;rintro e w'' ⟨F',rfl,hF,hB⟩;refine⟨_,rfl,b,rfl,fun _ _=>rfl,?_⟩
   have hw:KE w'' CO x:=(hB.block _ (Asy hst.way) (by
    rintro(e|e|e)
    ·exact Nr hst.way hC.fc.num e
    ·exact BF hst.way hC.fc.cM (by decide) e
    ·exact Av hC.fc.fac hst.way (by decide) e)).trans hst.way
   refine⟨hw,hst.kb.trans (KB.named ok hC hB),?_,?_,?_,?_,?_⟩
   all_goals simp only [LP (show 19<l.size by omega),getD_set_ne false (show (19:Nat)≠21 by omega),getD_set_ne false (show (19:Nat)≠22 by omega),getD_set_ne false (show (19:Nat)≠24 by omega)]
   ·intro e;cases e
   ·intro _ _;exact⟨F',hC.named ok hF hB⟩
   ·intro e;rw [n21]at e;cases e
   ·intro e;rw [n22 (by omega)]at e;cases e
   ·intro e;rw [n24]at e;cases e
  ·have s5:a.eval (.tmp 69)=.int .i64 i1:=sl 5 (by omega) (dep 20 5 (by decide) rfl);have s9:a.eval (.tmp 73)=.int .i64 i2:=sl 9 (by omega) (dep 20 9 (by decide) rfl);have pV:a.eval (.tmp 74)=.int .i64 zl:=sl 10 (by omega) (dep 20 10 (by decide) rfl);have pW:a.eval (.tmp 83)=.int .i64 zr:=sl 19 (by omega) (dep 20 19 (by decide) rfl);refine Qb (Instr.build 51 #[(0,.int .i64 i1),(1,.int .i64 i2),(2,.int .i64 zl),(3,.int .i64 zr)]) (by unfold execOp;rw [←p];simp [s5,s9,pV,pW]) (vP _ _ _ _ _) ?_;exact fin (by omega) _ rfl
  ·have KL:=dep 21 20 (by decide) rfl;have N3:=need 20 19 (by decide) KL
   have n24:l.getD 24 false=false:=by
    cases e:l.getD 24 false
    ·rfl
    ·have:=need 24 22 (by decide) e;rw [n22 (by omega)]at this;cases this
   have pX:a.eval (.tmp 84)=.agg #[.int .i64 i1,.int .i64 i2,.int .i64 zl,.int .i64 zr]:=sl 20 (by omega) KL;refine Qb (Instr.buildSlice 32 1 #[(0,.agg #[.int .i64 i1,.int .i64 i2,.int .i64 zl,.int .i64 zr])]) (by unfold execOp;rw [←p];simp [pX]) (vN _ _ _ _ _) ?_;have hX:=(Ab.refl w).alloc (.cells #[.int .i64 i1,.int .i64 i2,.int .i64 zl,.int .i64 zr] 51);refine⟨(w.heap.size,b.2),rfl,fun j hj=>?_,?_⟩
   ·have:j≠21:=(by rintro rfl;rw [AG]at hj;cases hj);unfold MP
    split<;>first|rfl|omega
   ·obtain⟨F1,h1⟩:=hst.sB N3 (n22 (by omega));refine⟨(hX.block _ (Asy hst.way)).trans hst.way,hst.kb.trans (KB.ext hX h1.size),?_,?_,?_,?_,?_⟩
    all_goals simp only [LP (show 21<l.size by omega),getD_set_ne false (show (21:Nat)≠19 by omega),getD_set_ne false (show (21:Nat)≠22 by omega),getD_set_ne false (show (21:Nat)≠24 by omega)]
    ·intro e;rw [N3]at e;cases e
    ·intro _ e;obtain⟨F',h'⟩:=hst.sB N3 e;exact⟨F',h'.ext hX⟩
    ·intro _ _;exact Asz w _
    ·intro e;rw [n22 (by omega)]at e;cases e
    ·intro e;rw [n24]at e;cases e
  ·have Jc:=dep 22 21 (by decide) rfl;have N3:=need 20 19 (by decide) (need 21 20 (by decide) Jc)
   have n24:l.getD 24 false=false:=by
    cases e:l.getD 24 false
    ·rfl
    ·have:=need 24 22 (by decide) e;rw [AG]at this;cases this
   obtain⟨F',hC⟩:=hst.sB N3 AG;refine rB _ _ p.symm w c.B E eds.length eds (show a.eval (.tmp 65)=_ from sl 1 (by omega) (dep 22 1 (by decide) rfl)) hC.own hel ⟨i1,i2,zl,zr⟩ b.1 (hst.sG Jc AG) (show a.eval (.tmp 85)=_ from sl 21 (by omega) Jc) hC.size ?_;intro v' w' k1 k2;obtain⟨m1,m2⟩:=hC.app ok (d:=⟨i1,i2,zl,zr⟩) k2 k1;obtain⟨A,dd,rfl,-,-,-⟩:=Ad.of_own' (show 0<4 by omega) k1;refine⟨(b.1,.slice A (eds.length+1) dd),rfl,fun j hj=>?_,?_⟩
   ·have:j≠22:=(by rintro rfl;rw [AG]at hj;cases hj);unfold MP
    split<;>first|rfl|omega
   ·have hw:KE w' CO x:=(k2.block _ (Asy hst.way) (fun e=>Av hC.own hst.way (by decide) e.symm)).trans hst.way;refine⟨hw,hst.kb.trans (KB.app hC k2),?_,?_,?_,?_,?_⟩
    all_goals simp only [LP (show 22<l.size by omega),getD_set_ne false (show (22:Nat)≠19 by omega),getD_set_ne false (show (22:Nat)≠21 by omega),getD_set_ne false (show (22:Nat)≠24 by omega)]
    ·intro e;rw [N3]at e;cases e
    ·intro _ e;cases e
    ·intro _ e;cases e
    ·intro _ _;exact⟨F',m1,⟨_,_,_,rfl⟩,m2⟩
    ·intro e;rw [n24]at e;cases e
  ·refine MR p d (by rw [e5];exact Xz _ _) ?_;rw [d];exact fin (by omega) _ rfl
  ·have LR:=dep 24 22 (by decide) rfl;have N3:=dN LR 19 (by omega) (by omega);have Jc:=dN LR 21 (by omega) (by omega);obtain⟨F',k1,k2,k3⟩:=hst.sC LR AG
   have hrun:(execOp a.eval o).run Tryz.prog w=.ok .skip (w.setCell ⟨c.bm,1,none⟩ b.2):=by unfold execOp;rw [←p];show (do Instr.storeAt 32 (a.eval (.tmp 87)) (a.eval (.tmp 86));pure Next.skip:Sem Next).run Tryz.prog w=_;rw [show a.eval (.tmp 87)=_ from sl 23 (by omega) (dep 24 23 (by decide) rfl),show a.eval (.tmp 86)=_ from sl 22 (by omega) LR];have:=Aco k2 k1;simp [MP,this]
   unfold Oper.wp;rw [hrun];refine⟨b,?_,fun _ _=>rfl,?_⟩
   ·rw [←d];rfl
   ·have hw:KE (w.setCell ⟨c.bm,1,none⟩ b.2) CO x:=(Bu (by show CO≠c.bm;exact BF hst.way k1 (by decide))).trans hst.way;refine⟨hw,hst.kb.trans (KB.set ok k1 _),?_,?_,?_,?_,?_⟩
    all_goals simp only [LP (show 24<l.size by omega),getD_set_ne false (show (24:Nat)≠19 by omega),getD_set_ne false (show (24:Nat)≠21 by omega),getD_set_ne false (show (24:Nat)≠22 by omega)]
    ·intro e;rw [N3]at e;cases e
    ·intro _ e;rw [LR]at e;cases e
    ·intro _ e;rw [LR]at e;cases e
    ·intro _ e;cases e
    ·intro _;exact⟨F',k3⟩
 ·intro b l a w Ai GI hall hst;obtain⟨F',hF⟩:=hst.sD (hall 24 (by omega));have:=Ai.lit YL (by omega) (by omega) hall GI;rw [this];exact hend _ w _ F' hF hst.kb
end
section
open Go.Shelf
def BD(units:List Bs)(nm:List (Int×Int))(fa:List Bs)(f:Int):Int×List (Int×Int)×List Bs:=match Ct f nm with
 | some z=>(z,nm,fa)
 | none=>((fa.length:Int),nm ++ [(f,(fa.length:Int))],fa ++ [units.getD f.toNat []])
structure GX where
 nm:List (Int×Int)
 fa:List Bs
 ed:List EdZ
def Nq(units:List Bs)(idx:List (Pt×Int))(L:List (Sg×Int))(st:GX)(s:Sg):GX:=
 ⟨(BD units (BD units st.nm st.fa (AM s L)).2.1 (BD units st.nm st.fa (AM s L)).2.2 (AM (Bg s) L)).2.1,(BD units (BD units st.nm st.fa (AM s L)).2.1 (BD units st.nm st.fa (AM s L)).2.2 (AM (Bg s) L)).2.2,
  st.ed ++ [⟨Ib s.a idx,Ib s.b idx,(BD units st.nm st.fa (AM s L)).1,(BD units (BD units st.nm st.fa (AM s L)).2.1 (BD units st.nm st.fa (AM s L)).2.2 (AM (Bg s) L)).1⟩]⟩
def LH(units:List Bs)(idx:List (Pt×Int))(L:List (Sg×Int))(st:GX)(s:Sg):GX:=if AY s.a s.b<0 then Nq units idx L st s else st
def IW(units:List Bs)(idx:List (Pt×Int))(L:List (Sg×Int))(ws:List Sg):GX:=ws.foldl (LH units idx L) ⟨[(-1,-1)],[],[]⟩
def Cq(l:List Pt):List (Pt×Int):=l.zipIdx.map fun e=>(e.1,(e.2:Int))
theorem Ak3(l:List Pt)(p:Pt):Cq (l ++ [p])=Cq l ++ [(p,(l.length:Int))]:=by simp [Cq,List.zipIdx_append]
theorem Ak2(l:List Pt):(Cq l).map (·.1)=l:=by
 unfold Cq;rw [List.map_map];have:((fun x:Pt×Int=>x.1) ∘ fun e:Pt×Nat=>(e.1,(e.2:Int)))=Prod.fst:=rfl;rw [this,List.zipIdx_map_fst]
theorem nV(units:List Bs)(nm:List (Int×Int))(fa:List Bs)(f:Int):(BD units nm fa f).2.2.length<=fa.length+1:=by
 unfold BD;split<;>simp
theorem nU(units:List Bs){nm:List (Int×Int)}(fa:List Bs)(f:Int)(h:Ct (-1) nm=some (-1)):Ct (-1) (BD units nm fa f).2.1=some (-1):=by
 unfold BD
 split
 ·exact h
 ·unfold Ct at h ⊢;simp only;rw [List.find?_append]
  cases hq:nm.find? (fun e=>(-1:Int) == e.1)with
  | none=>rw [hq]at h;cases h
  | some e=>rw [hq]at h;simpa using h
structure S3(k:Nat)(st:GX):Prop where
 h:Ct (-1) st.nm=some (-1)
 fa:st.fa.length<=2*k
 ed:st.ed.length<=k
theorem S3.step{k:Nat}{st:GX}(h:S3 k st)(units:List Bs)(idx:List (Pt×Int))(L:List (Sg×Int))(s:Sg):S3 (k+1) (LH units idx L st s):=by
 unfold LH
 split
 ·unfold Nq;refine⟨nU _ _ _ (nU _ _ _ h.h),?_,?_⟩
  ·have h1:=nV units st.nm st.fa (AM s L);have h2:=nV units (BD units st.nm st.fa (AM s L)).2.1 (BD units st.nm st.fa (AM s L)).2.2 (AM (Bg s) L);have:=h.fa;simp only;omega
  ·have:=h.ed;simp only [List.length_append,List.length_singleton];omega
 ·exact⟨h.h,by have:=h.fa;omega,by have:=h.ed;omega⟩
theorem AfV(units:List Bs)(idx:List (Pt×Int))(L:List (Sg×Int))(ws:List Sg)(s:Sg):IW units idx L (ws ++ [s])=LH units idx L (IW units idx L ws) s:=by simp [IW]
theorem yX{c:Cn}(ok:c.Ok){E F:Value}{nm:List (Int×Int)}{faces:List Bs}{eds:List EdZ}{w:World}(h:Cs c E F nm faces eds w)(hh:Ct (-1) nm=some (-1))(f:Int)(hf0:-1<=f)(I6:f<(c.units.length:Int))(Dq:c.units.length<=100000)(C5:faces.length<=100000) :
  Calls Tryz.prog 126 #[.int .i64 f,.pointer (some ⟨c.bx,0,none⟩),.pointer (some ⟨c.bm,0,none⟩),.pointer (some ⟨c.bu,0,none⟩)] w (Qg w c.B c.bx c.bn c.bm c.bu c.U c.cu c.units c.P E F (BD c.units nm faces f).1 (BD c.units nm faces f).2.1 (BD c.units nm faces f).2.2):=by
 cases hl:Ct f nm with
 | some z=>
  have e:BD c.units nm faces f=(z,nm,faces):=(by unfold BD;rw [hl]);rw [e];exact Ah2 h.fc f z hl
 | none=>
  have hne:f≠-1:=(by rintro rfl;rw [hh]at hl;cases hl);obtain⟨m,rfl⟩:∃m:Nat,f=(m:Int):=⟨f.toNat,by omega⟩;have hm:m<c.units.length:=by omega
  have e:BD c.units nm faces (m:Int)=((faces.length:Int),nm ++ [((m:Int),(faces.length:Int))],faces ++ [c.units[m]]):=by unfold BD;rw [hl];simp [List.getD_eq_getElem?_getD,As5 hm]
  rw [e];exact Ah1 h.fc h.size ok.bn ok.bm m hl hm Dq C5
def rH(w:World)(m:MapZ)(faces:List Bs)(e:Ending)(w':World):Prop:=
 ∃A Bk F c d g,e=.returned (AH A Bk F m c d g)/\Db m c d g/\Ad w' A (flat (Ag m.pts))/\Ad w' Bk (Ar m.eds)/\Ad w' F (faces.map S)/\m.nf=faces.length/\Ab w w'
end
end Go.Proofs.YtnddllipjippnaaGreatDoor
