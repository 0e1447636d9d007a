/- Z36: O4 O5 O6 O7 O8 C1. -/
import Derived.Test.YtdaefncphfeaeaaGreatDoorZ35
set_option maxRecDepth 100000
set_option maxHeartbeats 4000000
namespace Go.Proofs.YtdaefncphfeaeaaGreatDoor
open Go.RowKit Kl
open Go.ChangeMaps (setBlock)
section
variable {α : Type} {enc : α → Value} {same : α → α → Bool}
theorem AaQ{mt kt et:TypeId}{z:Value}(K:MN mt kt et z enc same)(k:α)(l:List (α×Value×Nat))(hno:∀e∈l,same k e.1=false)(v:Value){b clock:Nat}{W:World}(hb:W.heap[b]?=some (.map (AK enc l).toArray clock)) :
  (Instr.mapUpdate mt (.map (some b)) (enc k) v).run Tryz.prog W=.ok () (setBlock W b (.map (AK enc (l ++ [(k,v,clock)])).toArray (clock+1))):=by
 have hf:=Xk K k l W
 have hi:Ik same k l=none:=by unfold Ik;rw [List.findIdx?_eq_none_iff];exact hno
 rw [hi]at hf;simp only [Option.bind_none]at hf
 have e0:AK enc l ++ [{key:=enc k,val:=v,born:=clock}]=AK enc (l ++ [(k,v,clock)]):=by simp [AK]
 simp [Instr.mapUpdate,run_underlying K.map,MapKept.run_getObj_map hb,K.chk,hf,MapKept.run_setObj_map _ hb,Result.andThen,setBlock,e0]
end
theorem vh:MN 243 183 4 (.bool false) Ax Bc where
 map:=Tryz.underlying243
 st:=⟨_,Tryz.underlying183⟩
 zero:=fun W=>by simp [go_sem]
 eq:=vU
 chk:=uE
 iff:=Ls
 bits:=fun x=>by unfold Ax;simp [Instr.sameBits,beq_toListBytes]
def Kp(L:List (Sg×Value)):List (Sg×Value×Nat):=L.mapIdx fun i e=>(e.1,e.2,i)
theorem Aot(L:List (Sg×Value))(e:Sg×Value):Kp (L ++ [e])=Kp L ++ [(e.1,e.2,L.length)]:=by simp [Kp,List.mapIdx_append]
theorem Aos{L:List (Sg×Value)}{x:Sg×Value×Nat}(h:x∈Kp L):∃e∈L,x.1=e.1/\x.2.1=e.2:=by
 unfold Kp at h;rw [List.mem_mapIdx]at h;obtain⟨i,hi,rfl⟩:=h;exact⟨L[i],Asg hi,rfl,rfl⟩
def Zh(z:Value)(k:Sg)(L:List (Sg×Value)):Value:=match L.find? (fun e=>Bc k e.1)with|some e=>e.2|none=>z
theorem AkF(z:Value)(k:Sg)(L:List (Sg×Value)):Le Bc z k (Kp L)=Zh z k L:=by
 have h:∀(L:List (Sg×Value)) (n:Nat),(L.mapIdx fun i e=>(e.1,e.2,i+n)).find? (fun e=>Bc k e.1)=(L.findIdx? (fun e=>Bc k e.1)).bind fun j=>(L[j]?).map fun e=>(e.1,e.2,j+n):=by
  intro L
  induction L with
  | nil=>intro n;simp
  | cons e L ih=>
   intro n;rw [List.mapIdx_cons,List.find?_cons,List.findIdx?_cons];simp only
   cases hb:Bc k e.1
   ·simp only;have:=ih (n+1)
    have e1:(L.mapIdx fun i e=>(e.1,e.2,i+1+n))=L.mapIdx fun i e=>(e.1,e.2,i+(n+1)):=by congr 1;funext i e;rw [show i+1+n=i+(n+1)by omega]
    rw [e1,this]
    cases L.findIdx? (fun e=>Bc k e.1)with
    | none=>simp
    | some j=>
     simp only [Bool.false_eq_true,if_false,Option.map_some,Option.bind_some,List.getElem?_cons_succ]
     congr 1;funext e;rw [show j+(n+1)=j+1+n by omega]
   ·simp
 have h2:∀(L:List (Sg×Value)),L.find? (fun e=>Bc k e.1)=(L.findIdx? (fun e=>Bc k e.1)).bind fun j=>L[j]?:=by
  intro L
  induction L with
  | nil=>simp
  | cons e L ih=>
   rw [List.find?_cons,List.findIdx?_cons]
   cases hb:Bc k e.1
   ·simp only [ih]
    cases L.findIdx? (fun e=>Bc k e.1)<;>simp
   ·simp
 unfold Le Zh Kp;have h0:=h L 0;simp only [Nat.add_zero]at h0;rw [h0,h2]
 cases L.findIdx? (fun e=>Bc k e.1)with
 | none=>rfl
 | some j=>
  simp only [Option.bind_some]
  cases L[j]?<;>rfl
def J9(U:List Sg):List (Sg×Value):=U.map fun s=>(s,.bool true)
def EL(W:World)(b:Nat)(U:List Sg):Prop:=W.heap[b]?=some (.map (AK Ax (Kp (J9 U))).toArray U.length)
theorem AkG(k:Sg)(U:List Sg):Zh (.bool false) k (J9 U)=.bool (U.any (Bc k)):=by
 induction U with
 | nil=>rfl
 | cons u U ih=>
  unfold Zh J9 at *;rw [List.map_cons,List.find?_cons,List.any_cons]
  cases hb:Bc k u
  ·simp only [Bool.false_or];exact ih
  ·simp
theorem EL.look{W:World}{b:Nat}{U:List Sg}(h:EL W b U)(s:Sg):(Instr.lookup 243 (.map (some b)) (Ax s) false).run Tryz.prog W=.ok (.bool (U.any (Bc s))) W:=by
 rw [ZQ vh s (Kp (J9 U)) h,AkF,AkG]
theorem EL.put{W:World}{b:Nat}{U:List Sg}(h:EL W b U)(s:Sg)(hno:U.any (Bc s)=false) :
  ∃W',(Instr.mapUpdate 243 (.map (some b)) (Ax s) (.bool true)).run Tryz.prog W=.ok () W'/\EL W' b (U ++ [s])/\W.grownBy W' (some b)/\W'.heap.size=W.heap.size:=by
 refine⟨_,AaQ vh s (Kp (J9 U)) ?_ (.bool true) h,?_,Nh h,by simp [setBlock]⟩
 ·intro e he;obtain⟨x,hx,h1,_⟩:=Aos he;unfold J9 at hx;rw [List.mem_map]at hx;obtain⟨u,hu,rfl⟩:=hx;rw [h1];rw [List.any_eq_false]at hno
  simpa using hno u hu
 ·unfold EL;rw [On h];have e1:J9 (U ++ [s])=J9 U ++ [(s,.bool true)]:=(by simp [J9]);have e2:(J9 U).length=U.length:=(by simp [J9]);rw [e1,Aot,e2];simp
structure AH(K:Nat→Prop)(w w':World):Prop where
 os:w'.os=w.os
 tape:w'.tape=w.tape
 output:w'.output=w.output
 size:w.heap.size<=w'.heap.size
 block:∀k,k<w.heap.size→¬K k→w'.heap[k]?=w.heap[k]?
theorem AH.refl(K:Nat→Prop)(w:World):AH K w w:=⟨rfl,rfl,rfl,Asf _,fun _ _ _=>rfl⟩
theorem AH.ext{K:Nat→Prop}{w a b:World}(h:AH K w a)(hx:Aa a b):AH K w b:=
 ⟨hx.os.trans h.os,hx.tape.trans h.tape,hx.output.trans h.output,Asq h.size hx.size,fun k hk hn=>(hx.block k (Asp hk h.size)).trans (h.block k hk hn)⟩
theorem AH.grown{K:Nat→Prop}{w a b:World}{row:Option Nat}(h:AH K w a)(hg:a.grownBy b row)(hr:∀k,row=some k→K k∨w.heap.size<=k):AH K w b:=by
 refine⟨hg.os.trans h.os,hg.tape.trans h.tape,hg.output.trans h.output,Asq h.size hg.size,fun k hk hn=>(hg.block k (Asp hk h.size) ?_).trans (h.block k hk hn)⟩;intro e
 rcases hr k e.symm with h1|h1
 ·exact hn h1
 ·omega
theorem AH.own{K:Nat→Prop}{w a b:World}{B:Nat}{e:TypeId}{s n:Nat}{v:Value}{xs:List Value}(h:AH K w a)(hg:a.grownBy b v.ownBlock)(ho:a.ownsRow B e s v n xs)(hB:w.heap.size<=B):AH K w b:=
 h.grown hg fun k hk=>.inr (Asq hB (ho.lt k hk).1)
theorem AH.cells{K:Nat→Prop}{w a:World}{k:Nat}{o:Obj}(h:AH K w a)(hk:w.heap[k]?=some o)(hn:¬K k):a.heap[k]?=some o:=(h.block k (Asd hk) hn).trans hk
theorem AH.setCell{K:Nat→Prop}{w a:World}(h:AH K w a){p:Addr}(hp:K p.block∨w.heap.size<=p.block)(v:Value):AH K w (a.setCell p v):=by
 refine⟨h.os,h.tape,h.output,by rw [World.size_setCell];exact h.size,fun k hk hn=>?_⟩
 have hne:k≠p.block:=by
  intro e
  rcases hp with hp|hp
  ·exact hn (e▸hp)
  ·omega
 rw [Below.heap_setCell _ _ _ _ hne];exact h.block k hk hn
theorem AH.toExt{K:Nat→Prop}{w0 w a:World}(h:AH K w a)(hx:Aa w0 w)(hK:∀k,K k→w0.heap.size<=k):Aa w0 a:=
 ⟨h.os.trans hx.os,h.tape.trans hx.tape,h.output.trans hx.output,Asq hx.size h.size,fun k hk=>(h.block k (Asp hk hx.size) (fun hh=>by have:=hK k hh;omega)).trans (hx.block k hk)⟩
theorem AH.trans{K:Nat→Prop}{a b c:World}(h:AH K a b)(k:AH K b c):AH K a c:=
 ⟨k.os.trans h.os,k.tape.trans h.tape,k.output.trans h.output,Asq h.size k.size,fun i hi hn=>(k.block i (Asp hi h.size) hn).trans (h.block i hi hn)⟩
theorem Cl.but{B:Nat}{W W':World}{r b1 b2:Nat}{L:List (Sg×Int)}{E:List (Pt×Value×Nat)}{R0:List (Pt×List Pt)}(h:Cl B W r b1 b2 L E R0){K:Nat→Prop}(hb:AH K W W')(hK:∀k,k<W.heap.size→¬K k):Cl B W' r b1 b2 L E R0:=
 h.ext ⟨hb.os,hb.tape,hb.output,hb.size,fun k hk=>hb.block k hk (hK k hk)⟩
theorem Tryz.infoStep:(Tryz.prog.info? 183).map (fun i=>(i.zero,i.size,i.bytes))=some (some (.agg #[S [],S [],S [],S []]),4,64):=by kernel_rfl
section
variable {ops : Array Oper} {rest : List Oper} {o : Oper} {a : Act} {Q : Exit → Act → World → Prop}
theorem Aes(hgd:o.guard=none)(s x:Operand)(ho:o.op=.call {callee:=.builtin .append,args:=#[s,x],argTypes:=#[190,190]})
  (wN:World) (base:Nat) (v:Value) (n:Nat) (l:List Sg) (hs:a.eval s=v) (hown:wN.ownsRow base 183 4 v n (Cb l)) (hn:n<200000) (d:Sg)
  (g:Nat) (hb:wN.heap[g]?=some (.cells #[S (R d.a.x),S (R d.a.y),S (R d.b.x),S (R d.b.y)] 183)) (hx:a.eval x=.slice (some ⟨g,0,none⟩) 1 1) (hbase:base<=wN.heap.size)
  (h:∀v' w',w'.ownsRow base 183 4 v' (n+1) (Cb (l ++ [d]))→wN.grownBy w' v.ownBlock→wpList Tryz.prog ops Q rest (a.put o.dst v') w') :
  wpList Tryz.prog ops Q (o::rest) a wN:=by
 obtain⟨i0,hi,hz0,hz1,hz2⟩:=info_parts Tryz.infoStep;refine wpList_plain hgd fun K hK=>VL s x 190 ho 183 i0 _ 4 64 Tryz.underlying190 hi hz0 hz1 hz2 rfl (by omega) (by omega) wN base v n _ hs hown hn g _ hb rfl ?_ hx hbase ?_
 ·intro u hu;simp only [List.mem_cons,Asr,or_false]at hu
  rcases hu with rfl|rfl|rfl|rfl<;>rfl
 ·intro v' w' h1 _ h3;exact hK _ _ (h v' w' (by rw [oQ];exact h1) h3)
theorem Tryz.infoSteps:(Tryz.prog.info? 190).map (fun i=>(i.zero,i.size,i.bytes))=some (some (.slice none 0 0),1,24):=by kernel_rfl
theorem appRow(hgd:o.guard=none)(s x:Operand)(ho:o.op=.call {callee:=.builtin .append,args:=#[s,x],argTypes:=#[185,185]})
  (wN:World) (base:Nat) (v:Value) (n:Nat) (vs:List Value) (hs:a.eval s=v) (hown:wN.ownsRow base 190 1 v n vs) (hn:n<200000) (d:Value) (hd:d.oneCell'=true)
  (g:Nat) (hb:wN.heap[g]?=some (.cells #[d] 190)) (hx:a.eval x=.slice (some ⟨g,0,none⟩) 1 1) (hbase:base<=wN.heap.size)
  (h:∀v' w',w'.ownsRow base 190 1 v' (n+1) (vs ++ [d])→wN.grownBy w' v.ownBlock→wpList Tryz.prog ops Q rest (a.put o.dst v') w') :
  wpList Tryz.prog ops Q (o::rest) a wN:=by
 obtain⟨i0,hi,hz0,hz1,hz2⟩:=info_parts Tryz.infoSteps;refine wpList_plain hgd fun K hK=>VL s x 185 ho 190 i0 _ 1 24 Tryz.underlying185 hi hz0 hz1 hz2 rfl (by omega) (by omega) wN base v n _ hs hown hn g _ hb rfl ?_ hx hbase ?_
 ·intro u hu;simp only [List.mem_cons,Asr,or_false]at hu;rw [hu];exact hd
 ·intro v' w' h1 _ h3;exact hK _ _ (h v' w' h1 h3)
end
end Go.Proofs.YtdaefncphfeaeaaGreatDoor
namespace Go.Proofs.YtdaefncphfeaeaaGreatDoor
open Go.RowKit Kl Go.Sort
def dB:Code:=Code.region 2 #[{dst:=some 5,op:=Op.alloc 183,type:=0,pos:= "iter.go:51",after:=#[],guard:=none},{dst:=none,op:=Op.store 183 (Operand.tmp 5) (Operand.tmp 7),type:=0,pos:= "iter.go:51",after:=#[{on:=0,ground:=Ground.data},{on:=0,ground:=Ground.phase}],guard:=none}] false
def dC:Code:=Code.block 1 (Code.region 3 #[{dst:=some 8,op:=Op.load 190 (Operand.tmp 2),type:=190,pos:= "iter.go:52",after:=#[],guard:=none},{dst:=some 9,op:=Op.load 183 (Operand.tmp 5),type:=183,pos:= "iter.go:52",after:=#[],guard:=none},{dst:=some 10,op:=Op.buildSlice 190 1 #[(0,Operand.tmp 9)],type:=190,pos:= "iter.go:52",after:=#[{on:=1,ground:=Ground.data}],guard:=none},{dst:=some 11,op:=Op.call {callee:=Callee.builtin Builtin.append,args:=#[Operand.tmp 8,Operand.tmp 10],argTypes:=#[190,190]},type:=190,pos:= "iter.go:52",after:=#[{on:=0,ground:=Ground.data},{on:=2,ground:=Ground.data}],guard:=none},{dst:=none,op:=Op.store 190 (Operand.tmp 2) (Operand.tmp 11),type:=0,pos:= "iter.go:52",after:=#[{on:=3,ground:=Ground.data},{on:=3,ground:=Ground.chain},{on:=0,ground:=Ground.phase},{on:=1,ground:=Ground.phase},{on:=2,ground:=Ground.phase},{on:=3,ground:=Ground.phase}],guard:=none}] false)
def apRec(fn:FuncId)(sv:Value)(Bs D:Nat)(st:LoopState)(pend:Option Code):Loop:=
 {state:=st,pending:=pend,fn,tmps:=#[.slice none 0 0,sv,.pointer (some ⟨Bs,0,none⟩),undef,.slice none 0 0,undef,sv,undef,undef,undef,undef,undef,undef],params:=#[7],assign:=dB,body:=dC,defers:=D}
structure ApAt(w0:World)(fn:FuncId)(sv:Value)(Bs l D:Nat)(ss:List Sg)(W:World):Prop where
 box:∃v,W.heap[Bs]?=some (.cells #[v] 190 (0,0))/\W.ownsRow w0.heap.size 183 4 v ss.length (Cb ss)
 L:W.heap[l]?=some (.loop (apRec fn sv Bs D .ready none))
 K:W.heap[D]?=some (.deferred (some []))
 below:Below w0.heap.size w0 W
theorem ownsRow_abides{W W':World}{row:Option Nat}{base:Nat}{e:TypeId}{size:Nat}{v:Value}{k:Nat}{xs:List Value}(h:W.ownsRow base e size v k xs)(hg:W.grownBy W' row)
  (hrow:∀r,row=some r→∃o:Obj,W.heap[r]?=some o/\o.isWalk=true):W'.ownsRow base e size v k xs:=by
 refine h.kept hg ?_
 rcases h.2 with⟨rfl,_⟩|⟨g,cap,cur,rfl,_,hgb,_⟩
 ·exact .inl rfl
 ·refine .inr fun e'=>?_;obtain⟨o,ho,hw⟩:=hrow g (by simpa [Value.ownBlock]using e'.symm);rw [hgb]at ho;cases ho;cases hw
theorem ap_abides(w0:World)(fn:FuncId)(sv:Value)(Bs l D B:Nat)(hB:w0.heap.size<=B):AbidesFrom B (ApAt w0 fn sv Bs l D):=fun s W W' row h hg hrow=>by
 have hrow':∀r,row=some r→∃o:Obj,W.heap[r]?=some o/\o.isWalk=true:=fun r e=>(hrow r e).2;obtain⟨v,hv,hr⟩:=h.box
 exact⟨⟨v,(grownBy_keeps hg hrow' hv rfl).trans hv,ownsRow_abides hr hg hrow'⟩,(grownBy_keeps hg hrow' h.L rfl).trans h.L,(grownBy_keeps hg hrow' h.K rfl).trans h.K,
  h.below.grown hg h.below.size (fun k e=>Asq hB (hrow k e).1)⟩
theorem grownBy_putObj(W:World)(l:Nat)(o:Obj):W.grownBy (W.putObj l o) (some l):=
 ⟨rfl,rfl,rfl,by simp,fun k _ hk=>World.putObj_heap_other (fun e=>hk (by rw [e]))⟩
theorem grownBy_setCell0(W:World)(b:Nat)(v:Value):W.grownBy (W.setCell ⟨b,0,none⟩ v) (some b):=
 ⟨rfl,rfl,rfl,(KeepsWalks.setCell W _ v).size,fun k _ hk=>Below.heap_setCell _ _ _ k (fun e=>hk (by rw [e]))⟩
theorem ownsRow_ne{W:World}{base:Nat}{e:TypeId}{size:Nat}{v:Value}{k:Nat}{xs:List Value}(h:W.ownsRow base e size v k xs){j:Nat}{o:Obj}(hj:W.heap[j]?=some o)(hno:∀cur,o≠.cells cur e (0,0)) :
  v.ownBlock=none∨v.ownBlock≠some j:=by
 rcases h.2 with⟨rfl,_⟩|⟨g,cap,cur,rfl,_,hgb,_⟩
 ·exact .inl rfl
 ·refine .inr fun e'=>?_;have:g=j:=(by simpa [Value.ownBlock]using e');subst this;rw [hgb]at hj;cases hj;exact hno cur rfl
theorem cell_of_box{W:World}{B:Nat}{v:Value}{t:TypeId}(h:W.heap[B]?=some (.cells #[v] t (0,0))):W.cell? ⟨B,0,none⟩=some v/\W.frozen? ⟨B,0,none⟩=false:=by
 constructor<;>simp [World.cell?,World.frozen?,h]
theorem heap_setCell_box{W:World}{B:Nat}{v:Value}{t:TypeId}(v':Value)(h:W.heap[B]?=some (.cells #[v] t (0,0))):(W.setCell ⟨B,0,none⟩ v').heap[B]?=some (.cells #[v'] t (0,0)):=by
 obtain⟨hlt,hk⟩:=Array.getElem?_eq_some_iff.1 h;show (W.heap.modify B _)[B]?=_;rw [Array.getElem?_eq_getElem (by rw [Array.size_modify];exact hlt),Array.getElem_modify_self,hk]
 rfl
theorem ownsRow_not_walk{W:World}{base:Nat}{e:TypeId}{size:Nat}{v:Value}{k:Nat}{xs:List Value}(h:W.ownsRow base e size v k xs):∀(j:Nat) (o:Obj),v.ownBlock=some j→W.heap[j]?=some o→o.isWalk=false:=by
 intro j o hj ho
 rcases h.2 with⟨rfl,_⟩|⟨g,cap,cur,rfl,_,hgb,_⟩
 ·simp [Value.ownBlock]at hj
 ·have:g=j:=(by simpa [Value.ownBlock]using hj);subst this;rw [hgb]at ho;cases ho;rfl
theorem AeZ(W:World)(a b c d:Value)(t:TypeId):∀(j:Nat) (u:Value),[a,b,c,d][j]?=some u→(W.alloc (.cells #[a,b,c,d] t)).cell? ((⟨W.heap.size,0,none⟩:Addr).add j)=some u:=by
 intro j u hu;rw [Addr.add_lit,Nat.zero_add];refine Ab (Ase W (.cells #[a,b,c,d] t)) ?_;rw [←Array.getElem?_toList];exact hu
theorem apYield (F : Fence) (m : Nat) (w0 : World) (fn : FuncId) (hfn : F.fn fn) (sv : Value) (Bs l D : Nat) (hBl : Bs ≠ l) (hDl : D ≠ l) (hDB : D ≠ Bs) (h0B : w0.heap.size ≤ Bs) (h0l : w0.heap.size ≤ l)
    (N : Nat) (hN : N ≤ 200000) (ss : List Sg) (x : Sg) (W : World) (h : ApAt w0 fn sv Bs l D ss W) (hlen : ss.length < N) :
    YieldAt F m Tryz.prog l #[Ax x] W fun e W' => e = .returned (.bool true) ∧ ApAt w0 fn sv Bs l D (ss ++ [x]) W' ∧ KeepsWalks W W' := by
  have hne : 190 ≠ 183 := by decide
  obtain ⟨i0, hi, hz0, hz1, hz2⟩ := info_parts Tryz.infoStep
  obtain ⟨v, hv, hrow⟩ := h.box
  refine ⟨fn, #[.slice none 0 0, sv, .pointer (some ⟨Bs, 0, none⟩), undef, .slice none 0 0, undef, sv, Ax x, undef, undef, undef, undef, undef], dB, dC, by simpa [apRec] using run_yield (P := Tryz.prog) (args := #[Ax x]) h.L rfl, roundIn_of_wpIn hfn ?_⟩
  have hka : KeepsWalks W (W.alloc (.cells #[S (R x.a.x), S (R x.a.y), S (R x.b.x), S (R x.b.y)] 183)) := KeepsWalks.alloc _ _
  have ha := ap_abides w0 fn sv Bs l D W.heap.size h.below.size ss W _ none h (JK ((Aa.refl W).alloc (.cells #[S (R x.a.x), S (R x.a.y), S (R x.b.x), S (R x.b.y)] 183)) none) (fun r e => by cases e)
  have FS := Ase W (.cells #[S (R x.a.x), S (R x.a.y), S (R x.b.x), S (R x.b.y)] 183)
  have kB : l < W.heap.size := (Array.getElem?_eq_some_iff.1 h.L).1
  unfold dB
  unfold Ax
  gi_wp2_with (rw [Oper.semAt_eq _ _ _ (fun c h => by cases h)]; go_simp; try go_bits)
  obtain ⟨bv, EC⟩ := AcG W.heap.size
  rw [← EC] at FS kB ⊢
  unfold S at ha FS hka
  clear EC h hv hrow
  generalize hWa : W.alloc (.cells #[.string ⟨(R x.a.x).toArray⟩, .string ⟨(R x.a.y).toArray⟩, .string ⟨(R x.b.x).toArray⟩, .string ⟨(R x.b.y).toArray⟩] 183) = Wa at *
  clear hWa
  obtain ⟨v, hv, hrow⟩ := ha.box
  have hl : l < Wa.heap.size := (Array.getElem?_eq_some_iff.1 ha.L).1
  have hbr := run_beginRound (P := Tryz.prog) ha.L rfl
  obtain ⟨W2, hW2⟩ : ∃ W2, Wa.putObj l (.loop { apRec fn sv Bs D .ready none with state := .busy }) = W2 := ⟨_, rfl⟩
  rw [hW2] at hbr
  have hg2 : Wa.grownBy W2 (some l) := by rw [← hW2]; exact grownBy_putObj _ _ _
  have hk2 : KeepsWalks Wa W2 := by rw [← hW2]; exact KeepsWalks.putObj _ ha.L rfl
  have hv2 : W2.heap[Bs]? = some (.cells #[v] 190 (0, 0)) := by rw [← hW2]; exact (World.putObj_heap_other hBl).trans hv
  have DZ : W2.heap[bv]? = some (.cells #[S (R x.a.x), S (R x.a.y), S (R x.b.x), S (R x.b.y)] 183) := by rw [← hW2]; exact (World.putObj_heap_other (by omega)).trans FS
  have hK2 : W2.heap[D]? = some (.deferred (some [])) := by rw [← hW2]; exact (World.putObj_heap_other hDl).trans ha.K
  have hL2 : W2.heap[l]? = some (.loop { apRec fn sv Bs D .ready none with state := .busy }) := by rw [← hW2]; exact World.putObj_heap_same hl
  have hrow2 : W2.ownsRow w0.heap.size 183 4 v ss.length (Cb ss) := hrow.kept hg2 (ownsRow_ne hrow ha.L (fun cur e => by first | cases e | exact hne (Obj.cells.inj e).2.1))
  have hb2 : Below w0.heap.size w0 W2 := ha.below.grown hg2 ha.below.size (fun k e => by cases e; exact h0l)
  obtain ⟨hc2, hf2⟩ := cell_of_box hv2
  have hBlt : Bs < W2.heap.size := (Array.getElem?_eq_some_iff.1 hv2).1
  have hl2 : l < W2.heap.size := (Array.getElem?_eq_some_iff.1 hL2).1
  have hDlt : D < W2.heap.size := (Array.getElem?_eq_some_iff.1 hK2).1
  have ne_of : ∀ {j : Nat} {o : Obj}, W2.heap[j]? = some o → (∀ cur, o ≠ .cells cur 183 (0, 0)) → some j ≠ v.ownBlock := fun hj hno => by
    rcases ownsRow_ne hrow2 hj hno with e | e
    · rw [e]; simp
    · exact fun e' => e e'.symm
  have q0 := Ab (o := 0) DZ rfl
  have q1 := Ab (o := 1) DZ rfl
  have q2 := Ab (o := 2) DZ rfl
  have q3 := Ab (o := 3) DZ rfl
  have Y0 : W2.heap.size ≠ l := by omega
  clear hW2 ha hv hrow FS DZ
  refine ⟨W2, hbr, ?_⟩
  unfold dC
  gi_wp2_with (first
    | (gi_at_builtin; refine wpListIn_append_own _ rfl _ _ 190 rfl w0.heap.size 183 i0 (.agg #[S [], S [], S [], S []]) 4 64 Tryz.underlying190 hi hz0 hz1 hz2 rfl (by decide) _ _ _ rfl (hrow2.alloc _) ⟨W2.heap.size, 0, none⟩ 1 1 [S (R x.a.x), S (R x.a.y), S (R x.b.x), S (R x.b.y)] rfl rfl (AeZ _ _ _ _ _ _) (by simp [Value.oneCell']) (by unfold maxLen; omega) (by omega) (by have := hb2.size; simp; omega) ?_; intro v' w3 hown' hg3 hnil3
       have hv3 : w3.heap[Bs]? = some (.cells #[v] 190 (0, 0)) := (hg3.block Bs (by simp; omega) (ne_of hv2 (fun cur e => by first | cases e | exact hne (Obj.cells.inj e).2.1))).trans ((Below.heap_alloc _ _ Bs hBlt).trans hv2)
       obtain ⟨hc3, hf3⟩ := cell_of_box hv3
       obtain ⟨g', cap', cur', rfl, hbase', hgb', hr1, hr2, hr3, hr4⟩ : ∃ g' cap' cur', v' = .slice (some ⟨g', 0, none⟩) (ss.length + 1) cap' ∧ w0.heap.size ≤ g' ∧ w3.heap[g']? = some (.cells cur' 183 (0, 0)) ∧ ss.length + 1 ≤ cap' ∧ cap' ≤ maxLen ∧ cur'.size = cap' * 4 ∧ cur'.toList.take ((ss.length + 1) * 4) = Cb ss ++ [S (R x.a.x), S (R x.a.y), S (R x.b.x), S (R x.b.y)] := by
         rcases hown'.2 with ⟨_, h0⟩ | h'
         · exact absurd h0 (by omega)
         · exact h'
       go_frame)
    | (rw [Oper.semAt_eq _ _ _ (fun c h => by cases h)]; go_simp; try go_bits))
  have hg3' : (W2.alloc (.cells #[S (R x.a.x), S (R x.a.y), S (R x.b.x), S (R x.b.y)] 183)).grownBy w3 v.ownBlock := hg3
  have hL3 : w3.heap[l]? = some (.loop { apRec fn sv Bs D .ready none with state := .busy }) := (hg3'.block l (by simp; omega) (ne_of hL2 (fun cur e => by first | cases e | exact hne (Obj.cells.inj e).2.1))).trans ((Below.heap_alloc _ _ l hl2).trans hL2)
  have hK3 : w3.heap[D]? = some (.deferred (some [])) := (hg3'.block D (by simp; omega) (ne_of hK2 (fun cur e => by first | cases e | exact hne (Obj.cells.inj e).2.1))).trans ((Below.heap_alloc _ _ D hDlt).trans hK2)
  obtain ⟨w4, hw4⟩ : ∃ w4, w3.setCell ⟨Bs, 0, none⟩ (.slice (some ⟨g', 0, none⟩) (ss.length + 1) cap') = w4 := ⟨_, rfl⟩
  rw [hw4]
  have hg4 : w3.grownBy w4 (some Bs) := by rw [← hw4]; exact grownBy_setCell0 _ _ _
  have hv4 : w4.heap[Bs]? = some (.cells #[.slice (some ⟨g', 0, none⟩) (ss.length + 1) cap'] 190 (0, 0)) := by rw [← hw4]; exact heap_setCell_box _ hv3
  have hL4 : w4.heap[l]? = some (.loop { apRec fn sv Bs D .ready none with state := .busy }) := (hg4.block l (Array.getElem?_eq_some_iff.1 hL3).1 (fun e => hBl (by cases e; rfl))).trans hL3
  have hK4 : w4.heap[D]? = some (.deferred (some [])) := (hg4.block D (Array.getElem?_eq_some_iff.1 hK3).1 (fun e => hDB (by cases e; rfl))).trans hK3
  have hrow4 := hown'.kept hg4 (ownsRow_ne hown' hv3 (fun cur e => by first | cases e | exact hne (Obj.cells.inj e).2.1))
  have hl4 : l < w4.heap.size := (Array.getElem?_eq_some_iff.1 hL4).1
  have hb3 : Below w0.heap.size w0 w3 := (hb2.alloc hb2.size _).grown hg3' (by have := hb2.size; simp; omega) (fun k e => (hrow2.lt k e).1)
  have hb4 : Below w0.heap.size w0 w4 := hb3.grown hg4 hb3.size (fun k e => by cases e; exact h0B)
  have hk4 : KeepsWalks W w4 := (hka.trans ((hk2.trans (KeepsWalks.alloc _ _)).trans (KeepsWalks.of_grownBy hg3' (ownsRow_not_walk (hrow2.alloc _))))).trans (by rw [← hw4]; exact KeepsWalks.setCell _ _ _)
  clear hw4
  refine ⟨_, _, run_endRound none hL4, rfl, ⟨⟨_, (World.putObj_heap_other hBl).trans hv4, ?_⟩, World.putObj_heap_same hl4, (World.putObj_heap_other hDl).trans hK4, hb4.grown (grownBy_putObj _ _ _) hb4.size (fun k e => by cases e; exact h0l)⟩, hk4.trans (KeepsWalks.putObj _ hL4 rfl)⟩
  have := hrow4.kept (grownBy_putObj w4 l (.loop { { apRec fn sv Bs D .ready none with state := .busy } with state := if (none : Option Code).isNone then .ready else .done, pending := none })) (ownsRow_ne hrow4 hL4 (fun cur e => by first | cases e | exact hne (Obj.cells.inj e).2.1))
  rw [oQ]
  simpa using this
theorem appendSeq_in(F:Fence)(n:Nat)(h11:F.fn 269)(hro:F.round=none)(hn:2<=n)(g:Nat)(lb:Array Value)(hFg:F.fn g)(eg:∀args w,(callFunc g args).run Tryz.prog w=.ok (.enter g args) w)
  (S:List Sg→Prop) (N:Nat) (hN:N<=200000) (w:World) (hseq:SeqGives F (n-1) Tryz.prog g lb Ax S N w) :
  CallsIn F n Tryz.prog 269 #[.slice none 0 0,.func (.func g) #[] lb] w fun e w'=>∃(v:Value) (ss:List Sg),e=.returned v/\S ss/\w'.ownsRow w.heap.size 183 4 v ss.length (Cb ss)/\Below w.heap.size w w':=by
 have h1:1<=n:=(by omega);have hne:190≠183:=(by decide);refine callsIn_of_wp_marks Tryz.func269 rfl h11 ?_ hro;simp only [Tryz.ntmps269,List.size_toArray,List.length_cons,List.length_nil,Nat.reduceAdd,Nat.reduceSub,Array.replicate_succ,Array.replicate_zero,List.push_toArray,List.append_toArray,List.nil_append,List.cons_append];gi_wp2;refine wpIn_rangeFunc ?_;intro fn hfn;rw [hro];obtain⟨W0,hW0⟩:∃W0,w.alloc (.cells #[.slice none 0 0] 190)=W0:=⟨_,rfl⟩;have hs0:W0.heap.size=w.heap.size+1:=(by rw [←hW0];simp);have hv0:W0.heap[w.heap.size]?=some (.cells #[.slice none 0 0] 190 (0,0)):=(by rw [←hW0];exact World.alloc_heap_new w _);have hb0:Below w.heap.size w W0:=(by rw [←hW0];exact(Below.refl _ w).alloc (Asf _) _);rw [hW0];obtain⟨W1,hW1⟩:∃W1,(W0.alloc (.deferred (some []))).alloc (.loop (apRec fn (.func (.func g) #[] lb) w.heap.size W0.heap.size .ready none))=W1:=⟨_,rfl⟩
 have hold:∀k,k<W0.heap.size→W1.heap[k]?=W0.heap[k]?:=fun k hk=>by rw [←hW1];exact(Below.heap_alloc _ _ k (by simp;omega)).trans (Below.heap_alloc _ _ k hk)
 have hb1:Below w.heap.size w W1:=(by rw [←hW1];exact(hb0.alloc hb0.size _).alloc (by have:=hb0.size;simp;omega) _);have hs1:W1.heap.size=W0.heap.size+2:=by rw [←hW1];simp
 have hM:ApAt w fn (.func (.func g) #[] lb) w.heap.size (W0.heap.size+1) W0.heap.size [] W1:=
  ⟨⟨_,(hold w.heap.size (by omega)).trans hv0,⟨rfl,.inl ⟨rfl,rfl⟩⟩⟩,
   by rw [←hW1];have:=World.alloc_heap_new (W0.alloc (.deferred (some []))) (.loop (apRec fn (.func (.func g) #[] lb) w.heap.size W0.heap.size .ready none));rwa [Asn]at this,
   by rw [←hW1];exact(Below.heap_alloc _ _ _ (by simp)).trans (World.alloc_heap_new W0 _),hb1⟩
 refine⟨W0.heap.size+1,[{target:=.collected W0.heap.size,args:=#[]}],W1,{target:=.fn (.func g) lb,args:=#[.func (.yield (W0.heap.size+1)) #[] #[]]},W1,g,
  #[.func (.yield (W0.heap.size+1)) #[] #[]]++lb,W1,?_,?_,?_,?_,fun _=>h1,?_⟩
 ·rw [←hW1];exact run_enterLoop_outer _ _ _ _ _
 ·simp [resolve,go_sem]
 ·intro f' hf';simp [Target.leads]at hf';subst hf';exact hFg
 ·simp [invoke,go_sem,eg]
 ·refine(hseq (W0.heap.size+1) (ApAt w fn (.func (.func g) #[] lb) w.heap.size (W0.heap.size+1) W0.heap.size) W1 hb1 (ap_abides _ _ _ _ _ _ _ hb1.size)
   (fun pre x W hJ hl=>apYield F (n-1-1) w fn hfn _ w.heap.size (W0.heap.size+1) W0.heap.size (by omega) (by omega) (by omega) (Asf _) (by omega) N hN pre x W hJ hl) hM).mono ?_
  rintro e W2 ⟨⟨v0,rfl⟩,ss,hS,h2⟩;obtain⟨v,hv,hrow⟩:=h2.box;have hend:=run_endLoop (P:=Tryz.prog) h2.L (by simp [apRec]);obtain⟨W3,hW3⟩:∃W3,W2.putObj (W0.heap.size+1) (.loop {apRec fn (.func (.func g) #[] lb) w.heap.size W0.heap.size .ready none with state:=.exhausted})=W3:=⟨_,rfl⟩;rw [hW3]at hend;have hg3:W2.grownBy W3 (some (W0.heap.size+1)):=(by rw [←hW3];exact grownBy_putObj _ _ _);have hv3:W3.heap[w.heap.size]?=some (.cells #[v] 190 (0,0)):=(by rw [←hW3];exact(World.putObj_heap_other (by omega)).trans hv);have hK3:W3.heap[W0.heap.size]?=some (.deferred (some [])):=(by rw [←hW3];exact(World.putObj_heap_other (by omega)).trans h2.K);have hrow3:=hrow.kept hg3 (ownsRow_ne hrow h2.L (fun cur e=>by first|cases e|exact hne (Obj.cells.inj e).2.1));have hb3:Below w.heap.size w W3:=h2.below.grown hg3 h2.below.size (fun k e=>by cases e;omega);obtain⟨hc3,hf3⟩:=cell_of_box hv3;clear hW3;refine⟨none,W3,hend,?_⟩;gi_wp2;rw [←hs0];refine⟨by simp,.inl ⟨_,_,rfl,run_takeDeferred hK3,?_⟩⟩;exact⟨_,results_tmp rfl _ _ _,v,ss,rfl,hS,hrow3.kept (grownBy_putObj _ _ _) (ownsRow_ne hrow3 hK3 (fun cur e=>by first|cases e|exact hne (Obj.cells.inj e).2.1)),hb3.grown (grownBy_putObj _ _ _) hb3.size (fun k e=>by cases e;omega)⟩
theorem collect_in(F:Fence)(n:Nat)(h8:F.fn 240)(h11:F.fn 269)(hro:F.round=none)(hn:3<=n)(g:Nat)(lb:Array Value)(hFg:F.fn g)(eg:∀args w,(callFunc g args).run Tryz.prog w=.ok (.enter g args) w)
  (S:List Sg→Prop) (N:Nat) (hN:N<=200000) (w:World) (hseq:SeqGives F (n-1-1) Tryz.prog g lb Ax S N w) :
  CallsIn F n Tryz.prog 240 #[.func (.func g) #[] lb] w fun e w'=>∃(v:Value) (ss:List Sg),e=.returned v/\S ss/\w'.ownsRow w.heap.size 183 4 v ss.length (Cb ss)/\Below w.heap.size w w':=by
 have h1:1<=n:=(by omega);have e11:∀args w,(callFunc 269 args).run Tryz.prog w=.ok (.enter 269 args) w:=enters_of Tryz.func269 (by kernel_rfl) rfl;refine callsIn_of_wp Tryz.func240 rfl h8 ?_ hro;simp only [Tryz.ntmps240,List.size_toArray,List.length_cons,List.length_nil,Nat.reduceAdd,Nat.reduceSub,Array.replicate_succ,Array.replicate_zero,List.push_toArray,List.append_toArray,List.nil_append,List.cons_append];gi_wp2;refine(appendSeq_in F (n-1) h11 hro (by omega) g lb hFg eg S N hN _ hseq).mono ?_;rintro e w' ⟨v,ss,rfl,hS,hrow,hb⟩;gi_wp2;go_ret;exact⟨v,ss,rfl,hS,hrow,hb⟩
theorem Ak4(w:World):Calls Tryz.prog 175 #[.int .u64 0] w fun e w'=>e=.returned (.int .i64 0)/\w'=w:=by
 have e8:wrap64 (wrap64 (Lib.len8 0))=0:=(by decide +kernel);go_enter Tryz.func175,Tryz.ntmps175;go_wp2;go_ret;exact⟨by simp [e8],rfl⟩
theorem len_nil(w:World):Calls Tryz.prog 89 #[.int .u64 0] w fun e w'=>e=.returned (.int .i64 0)/\w'=w:=by
 have h:=Ak4;go_enter Tryz.func89,Tryz.ntmps89;(go_wp2_with fail);(with_reducible refine(h _).mono ?_);rintro e w1 ⟨rfl,rfl⟩;go_wp2;go_ret;exact⟨rfl,rfl⟩
theorem Akn(fv:Value)(w:World):Calls Tryz.prog 284 #[.slice none 0 0,.int .i64 0,.int .i64 0,fv] w fun e w'=>e=.returned (.tuple #[])/\w'=w:=by
 go_enter Tryz.func284,Tryz.ntmps284;go_wp2;refine wp_loop_rounds 1 ?_;rw [rounds_succ];go_wp2
 go_end0
 exact⟨rfl,rfl⟩
theorem Ama(lim:Int)(fv:Value)(w:World):Calls Tryz.prog 270 #[.slice none 0 0,.int .i64 0,.int .i64 0,.int .i64 lim,fv] w fun e w'=>e=.returned (.tuple #[])/\w'=w:=by
 have hi:=Akn fv;go_enter Tryz.func270,Tryz.ntmps270;go_wp2;refine wp_loop_rounds 1 ?_;rw [rounds_succ];(go_wp2_with fail);(with_reducible refine(hi _).mono ?_);rintro e w1 ⟨rfl,rfl⟩;go_wp2
 (try simp only [Exit.inBlock,Exit.then]);refine bodyPost_ret (results_none rfl _ _ _) rfl ?_
 exact⟨rfl,rfl⟩
theorem Aoe(fv:Value)(w:World):Calls Tryz.prog 241 #[.slice none 0 0,fv] w fun e w'=>e=.returned (.tuple #[])/\w'=w:=by
 have h1:=len_nil;have h2:=Ama 0 fv;go_enter Tryz.func241,Tryz.ntmps241;(go_wp2_with fail);(with_reducible refine(h1 _).mono ?_);rintro e w1 ⟨rfl,rfl⟩;(go_wp2_with fail);(with_reducible refine(h2 _).mono ?_);rintro e w1 ⟨rfl,rfl⟩;go_wp2
 go_end0
 exact⟨rfl,rfl⟩
def Cr(l:List Sg):List Sg:=l.mergeSort (fun x y=>!decide (Hn y x<0))
theorem PN(l:List Sg):(Cr l).Perm l:=List.mergeSort_perm _ _
theorem oY{l:List Sg} : (Cr l).Pairwise (fun x y=>¬Hn y x<0):=by
 have tr:∀a b c:Sg,(!decide (Hn b a<0))=true→(!decide (Hn c b<0))=true→(!decide (Hn c a<0))=true:=by
  intro a b c h1 h2;simp only [Bool.not_eq_true',decide_eq_false_iff_not,Rs]at *
  grind
 have tot:∀a b:Sg,((!decide (Hn b a<0))||(!decide (Hn a b<0)))=true:=by
  intro a b;simp only [Bool.or_eq_true,Bool.not_eq_true',decide_eq_false_iff_not,Rs]
  grind
 have h:=List.pairwise_mergeSort tr tot l;refine h.imp ?_;intro a b hab
 simpa using hab
theorem Aoi{l m:List Sg}(h:l.Perm m):Cr l=Cr m:=by
 refine List.Perm.eq_of_pairwise (le:=fun x y=>¬Hn y x<0) ?_ oY oY (((PN l).trans h).trans (PN m).symm);intro a b _ _ h1 h2;rw [Rs]at h1 h2;obtain⟨⟨a1,a2⟩,⟨a3,a4⟩⟩:=a;obtain⟨⟨b1,b2⟩,⟨b3,b4⟩⟩:=b;simp only [Sg.mk.injEq,Pt.mk.injEq]at *
 grind
theorem vT(m:List Way):m.flatMap Hz=Cb (m.map (·.1)):=by
 induction m with
 | nil=>rfl
 | cons x m ih=>rw [List.flatMap_cons,ih];rfl
theorem Apc{l:List Sg}(h:∀s∈l,S9 s):∃d:Array Way,d.toList.map (·.1)=l:=
 ⟨(l.attachWith S9 h).toArray,by simp⟩
theorem AgY(w:World)(row:Option Nat):w.grownBy w row:=⟨rfl,rfl,rfl,Asf _,fun _ _ _=>rfl⟩
theorem Aoc{w0 w:World}(hw:Ai w0)(hx:Aa w0 w){B:Nat}(hB:w0.heap.size<=B)(l:List Sg)(hl:∀s∈l,S9 s)(hlen:l.length<1000000){v:Value}(hv:w.ownsRow B 183 4 v l.length (Cb l)) :
  Calls Tryz.prog 241 #[v,.func (.func 197) #[] #[]] w fun e w'=>
   e=.returned (.tuple #[])/\w.grownBy w' v.ownBlock/\w'.ownsRow B 183 4 v l.length (Cb (Cr l)):=by
 by_cases hn:l = []
 ·subst hn
  have hv':v=.slice none 0 0∨∃g cap,v=.slice (some ⟨g,0,none⟩) 0 cap:=by
   rcases hv.2 with⟨h,_⟩|⟨g,cap,cur,h,_⟩
   ·exact .inl h
   ·exact .inr ⟨g,cap,h⟩
  have e:Cr [] = []:=(by unfold Cr;simp);rw [e]
  rcases hv' with rfl|⟨g,cap,rfl⟩
  ·exact(Aoe _ w).mono fun _ _ ⟨he,hw⟩=>⟨he,by subst hw;exact AgY _ _,by subst hw;exact hv⟩
  ·have hgb:g<w.heap.size/\w0.heap.size<=g:=by have:=hv.lt g rfl;omega
   refine(Abf g 0 cap #[] w0 w hw hx hgb.2 (fun j hj=>by simp at hj) hgb.1 (by simp)).mono ?_;rintro e w' ⟨he,n,os,rfl⟩;refine⟨he,Xp Hz 4 w g 0 n _ os,?_⟩;have h2:w.ownsRow B 183 4 (.slice (some ⟨g,0,none⟩) (#[]:Array Way).size cap) (#[]:Array Way).size ((#[]:Array Way).toList.flatMap Hz):=hv;have:=nJ Xh (by omega) h2 (d':=(Lt []).toArray) (by simp [Lt]) n os
   simpa [Lt,Cb]using this
 ·obtain⟨d,hd⟩:=Apc hl;have LY:d.size=l.length:=by rw [←hd];simp
  have hv':w.ownsRow B 183 4 v d.size (d.toList.flatMap Hz):=by rw [vT,hd,LY];exact hv
  have Fu:0<d.size:=(by rw [LY];exact List.length_pos_iff.2 hn);obtain⟨g,cap,rfl,hgb,Yk,hH,hown⟩:=l9 Xh (by omega) hv' Fu;refine(Abf g 0 cap d w0 w hw hx (by omega) hH Yk (by omega)).mono ?_;rintro e w' ⟨he,n,os,rfl⟩;refine⟨he,Xp Hz 4 w g 0 n _ os,?_⟩;have ho:=nJ Xh (by omega) hv' (d':=(Lt d.toList).toArray) (by simp [Lt]) n os
  have hm:(Lt d.toList).map (·.1)=Cr l:=by unfold Lt Cr;rw [List.map_mergeSort (r:=fun x y:Way=>!ltOf IT y x) (f:=fun x:Way=>x.1) (s:=fun x y=>!decide (Hn y x<0)) (fun a _ b _=>rfl),hd]
  rw [vT,List.toList_toArray,hm,LY]at ho;rw [LY];exact ho
theorem Aoh{w0 w:World}(hw:Ai w0)(hx:Aa w0 w)(Bm b:Nat)(L:List (Sg×Int))(hBm:Bm<w.heap.size)(hm:w.cell? ⟨Bm,0,none⟩=some (.map (some b)))(hb:w.heap[b]?=some (.map (AK Ax (stamp L)).toArray L.length))
  (hL:∀e∈L,DK 200 e.1) (hlen:L.length<=200000) :
  Calls Tryz.prog 195 #[.func (.func 242) #[] #[.pointer (some ⟨Bm,0,none⟩)],.func (.func 197) #[] #[]] w fun e w'=>
   ∃v,e=.returned v/\w'.ownsRow w.heap.size 183 4 v L.length (Cb (Cr (L.map (·.1))))/\Aa w w':=by
 have eg:∀args w,(callFunc 242 args).run Tryz.prog w=.ok (.enter 242 args) w:=enters_of Tryz.func242 (by kernel_rfl) rfl;have c1:=callsIn_wide.1 (collect_in Fence.wide 5 trivial trivial rfl (by omega) 242 #[.pointer (some ⟨Bm,0,none⟩)] trivial eg _ L.length hlen w (Aky Fence.wide 3 trivial rfl (by omega) Bm b L w hBm hm hb));go_enter Tryz.func195,Tryz.ntmps195;(go_wp2_with fail);(with_reducible refine c1.mono ?_);rintro e w1 ⟨v,ss,rfl,hS,hrow,hbl⟩;have ER:Aa w w1:=hbl;have Fw:ss.length=L.length:=by rw [hS.length_eq];simp
 have c2:=Aoc hw (hx.trans ER) hx.size ss (fun s hs=>by
  have:=hS.mem_iff.1 hs;rw [List.mem_map]at this;obtain⟨e,he,rfl⟩:=this
  exact hL e he) (by omega) hrow
 have KY:=Aoi hS;rw [KY,Fw]at c2;rw [Fw]at hrow;(go_wp2_with fail);(with_reducible refine c2.mono ?_);rintro e w2 ⟨rfl,hg,ho⟩;go_wp2;go_ret;exact⟨v,rfl,ho,ER.grownOwn hg hrow (Asf _)⟩
end Go.Proofs.YtdaefncphfeaeaaGreatDoor
namespace Go.Proofs.YtdaefncphfeaeaaGreatDoor
open Go.RowKit Kl
def rowOf(R0:List (Pt×List Pt))(p:Pt):List Pt:=match R0.find? (fun e=>Ar p e.1)with|some e=>e.2|none=>[]
theorem Aap(p:Pt):Ar p p=true:=Di.2 rfl
theorem Amp{p q:Pt} : Ar p q=false↔p≠q:=by
 rw [Bool.eq_false_iff];exact not_congr Di
theorem M7(e:Pt×List Pt)(R0:List (Pt×List Pt))(p:Pt):rowOf (e::R0) p=if Ar p e.1=true then e.2 else rowOf R0 p:=by
 unfold rowOf;rw [List.find?_cons]
 cases h:Ar p e.1<;>simp
theorem Wz(p q:Pt):EM [] p q = [(p,[q])]:=by simp [EM,Hx,Ha,List.modify]
theorem Wy(e:Pt×List Pt)(R0:List (Pt×List Pt))(p q:Pt):EM (e::R0) p q=if Ar p e.1=true then (e.1,e.2 ++ [q])::R0 else e::EM R0 p q:=by
 unfold EM Hx Ha;rw [List.findIdx?_cons]
 cases h:Ar p e.1
 ·simp only [Bool.false_eq_true,if_false]
  cases h2:R0.findIdx? (fun e=>Ar p e.1)with
  | none=>simp [List.modify_succ_cons]
  | some j=>simp [List.modify_succ_cons]
 ·simp
theorem oJ(R0:List (Pt×List Pt))(p q p':Pt):rowOf (EM R0 p q) p'=if Ar p' p=true then rowOf R0 p ++ [q] else rowOf R0 p':=by
 induction R0 with
 | nil=>
  rw [Wz,M7];simp only
  cases h:Ar p' p<;>simp [rowOf]
 | cons e R0 ih=>
  rw [Wy];by_cases h:Ar p e.1=true
  ·rw [if_pos h,M7,M7,M7,if_pos h];have he:=Di.1 h;simp only [←he];by_cases h2:Ar p' p=true
   ·rw [if_pos h2,if_pos h2]
   ·rw [if_neg h2,if_neg h2,if_neg h2]
  ·rw [if_neg h,M7,M7,M7,if_neg h,ih];by_cases h2:Ar p' p=true
   ·have:=Di.1 h2;subst this;rw [if_neg h,if_pos h2,if_pos h2]
   ·rw [if_neg h2,if_neg h2]
theorem AdZ(R0:List (Pt×List Pt))(p q:Pt):∀x,x∈(EM R0 p q).map (·.1)↔x=p∨x∈R0.map (·.1):=by
 induction R0 with
 | nil=>intro x;rw [Wz];simp
 | cons e R0 ih=>
  intro x;rw [Wy];by_cases h:Ar p e.1=true
  ·rw [if_pos h];have:=Di.1 h;subst this;simp
  ·rw [if_neg h,List.map_cons,List.mem_cons,ih x,List.map_cons,List.mem_cons];constructor
   ·rintro(h1|h1|h1)
    ·exact .inr (.inl h1)
    ·exact .inl h1
    ·exact .inr (.inr h1)
   ·rintro(h1|h1|h1)
    ·exact .inr (.inl h1)
    ·exact .inl h1
    ·exact .inr (.inr h1)
theorem sJ{R0:List (Pt×List Pt)}(h:(R0.map (·.1)).Nodup)(p q:Pt):((EM R0 p q).map (·.1)).Nodup:=by
 induction R0 with
 | nil=>rw [Wz];simp
 | cons e R0 ih=>
  rw [List.map_cons,List.nodup_cons]at h;rw [Wy];by_cases h2:Ar p e.1=true
  ·rw [if_pos h2,List.map_cons,List.nodup_cons];exact h
  ·rw [if_neg h2,List.map_cons,List.nodup_cons];refine⟨?_,ih h.2⟩;rw [AdZ];rintro(h3|h3)
   ·exact h2 (Di.2 h3.symm)
   ·exact h.1 h3
theorem sH{R0:List (Pt×List Pt)}(h:∀e∈R0,e.2≠[])(p q:Pt):∀e∈EM R0 p q,e.2≠[]:=by
 induction R0 with
 | nil=>rw [Wz];simp
 | cons e R0 ih=>
  rw [Wy];intro x hx;by_cases h2:Ar p e.1=true
  ·rw [if_pos h2]at hx
   rcases List.mem_cons.1 hx with rfl|hx
   ·simp
   ·exact h x (List.mem_cons_of_mem _ hx)
  ·rw [if_neg h2]at hx
   rcases List.mem_cons.1 hx with rfl|hx
   ·exact h _ (List.mem_cons_self)
   ·exact ih (fun e he=>h e (List.mem_cons_of_mem _ he)) x hx
theorem An1{R0:List (Pt×List Pt)}(h:(R0.map (·.1)).Nodup){e:Pt×List Pt}(he:e∈R0):R0.find? (fun x=>Ar e.1 x.1)=some e:=by
 induction R0 with
 | nil=>cases he
 | cons x R0 ih=>
  rw [List.map_cons,List.nodup_cons]at h;rw [List.find?_cons]
  rcases List.mem_cons.1 he with rfl|he
  ·rw [Aap]
  ·have:Ar e.1 x.1=false:=by rw [Amp];intro hh;exact h.1 (hh▸List.mem_map_of_mem he)
   rw [this];exact ih h.2 he
structure G5(W:List Sg)(R0:List (Pt×List Pt)):Prop where
 keys:(R0.map (·.1)).Nodup
 ne:∀e∈R0,e.2≠[]
 mem:∀p q,q∈rowOf R0 p↔(⟨p,q⟩:Sg)∈W
 back:∀s∈W,CM s∈W
theorem Alh(pts:List Pt)(l:List AO):G5 ((CV pts l).map (·.1)) (GO pts l):=by
 have main:∀n,n<=l.length→G5 ((CV pts (l.take n)).map (·.1)) (GO pts (l.take n)):=by
  intro n
  induction n with
  | zero=>intro _;exact⟨by simp [GO],by simp [GO],by simp [GO,CV,rowOf],by simp [CV]⟩
  | succ n ih=>
   intro hn;have h:=ih (by omega);rw [Asi (by omega),yb,yg];generalize l[n]=e at *;generalize B6 pts e=s at *;refine⟨sJ (sJ h.keys _ _) _ _,sH (sH h.ne _ _) _ _,?_,?_⟩
   ·intro p q;rw [oJ,oJ,oJ,List.map_append,List.mem_append];simp only [List.map_cons,List.map_nil,List.mem_cons,Asr,or_false,←h.mem];have e1:((⟨p,q⟩:Sg)=s)↔p=s.a/\q=s.b:=(by obtain⟨a,b⟩:=s;simp);have e2:((⟨p,q⟩:Sg)=CM s)↔p=s.b/\q=s.a:=(by obtain⟨a,b⟩:=s;simp [CM]);rw [e1,e2];by_cases h1:Ar p s.b=true
    ·have p1:=Di.1 h1;rw [if_pos h1];by_cases h2:Ar s.b s.a=true
     ·have p2:=Di.1 h2;rw [if_pos h2,←p2,←p1];simp only [List.mem_append,Ass]
      grind
     ·rw [if_neg h2,←p1];have p2:¬s.b=s.a:=fun h=>h2 (Di.2 h);simp only [List.mem_append,Ass]
      grind
    ·have p1:¬p=s.b:=fun h=>h1 (Di.2 h);rw [if_neg h1];by_cases h2:Ar p s.a=true
     ·have p2:=Di.1 h2;rw [if_pos h2,←p2];simp only [List.mem_append,Ass]
      grind
     ·have p2:¬p=s.a:=fun h=>h2 (Di.2 h);rw [if_neg h2]
      grind
   ·intro x hx;rw [List.map_append,List.mem_append]at hx ⊢;simp only [List.map_cons,List.map_nil,List.mem_cons,Asr,or_false]at hx ⊢
    rcases hx with hx|rfl|rfl
    ·exact .inl (h.back x hx)
    ·exact .inr (.inr rfl)
    ·exact .inr (.inl rfl)
 have:=main l.length (Asf _)
 rwa [List.take_length]at this
theorem An2(R0:List (Pt×List Pt))(p q:Pt):q∈rowOf (R0.map (fun e=>(e.1,GR e.1 e.2))) p↔q∈rowOf R0 p:=by
 induction R0 with
 | nil=>simp [rowOf]
 | cons e R0 ih=>
  rw [List.map_cons,M7,M7];simp only;by_cases h1:Ar p e.1=true
  ·rw [if_pos h1,if_pos h1];exact(ZZ e.1 e.2).mem_iff
  ·rw [if_neg h1,if_neg h1];exact ih
theorem Akd{l:List Pt}{p:Pt}(h:p∈l):∃j,j<l.length/\FV l p=(j:Int):=by
 unfold FV
 cases hf:l.findIdx? (Ar p)with
 | none=>
  rw [List.findIdx?_eq_none_iff]at hf;have:=hf p h;rw [Aap]at this
  cases this
 | some j=>rw [List.findIdx?_eq_some_iff_getElem]at hf;exact⟨j,hf.1,rfl⟩
theorem G5.sorted{W:List Sg}{R0:List (Pt×List Pt)}(h:G5 W R0):G5 W (R0.map (fun e=>(e.1,GR e.1 e.2))):=by
 have hk:(R0.map (fun e=>(e.1,GR e.1 e.2))).map (·.1)=R0.map (·.1):=(by rw [List.map_map];rfl);have hr:=An2 R0;refine⟨by rw [hk];exact h.keys,?_,fun p q=>by rw [hr];exact h.mem p q,h.back⟩;intro e he;rw [List.mem_map]at he;obtain⟨x,hx,rfl⟩:=he;have:=h.ne x hx;intro e0;have:=(ZZ x.1 x.2).length_eq;simp only at e0;rw [e0]at this;exact h.ne x hx (List.eq_nil_of_length_eq_zero this.symm)
def NX(R0:List (Pt×List Pt))(s:Sg):Sg:=⟨s.b,(rowOf R0 s.b).getD (((FV (rowOf R0 s.b) s.a).toNat+(rowOf R0 s.b).length-1)%(rowOf R0 s.b).length) ⟨0,0⟩⟩
theorem G5.step{W:List Sg}{R0:List (Pt×List Pt)}(h:G5 W R0){s:Sg}(hs:s∈W) :
  ∃e,R0.find? (fun e=>Ar s.b e.1)=some e/\∃j m,∃_:j<e.2.length,FV e.2 s.a=(j:Int)/\∃hm:m<e.2.length,m=(j+e.2.length-1)%e.2.length/\NX R0 s=⟨s.b,e.2[m]⟩/\(⟨s.b,e.2[m]⟩:Sg)∈W:=by
 have hb:s.a∈rowOf R0 s.b:=(h.mem s.b s.a).2 (h.back s hs)
 have hr:rowOf R0 s.b=match R0.find? (fun e=>Ar s.b e.1)with|some e=>e.2|none=>[]:=rfl
 cases hf:R0.find? (fun e=>Ar s.b e.1)with
 | none=>rw [hr,hf]at hb;cases hb
 | some e=>
  rw [hf]at hr;simp only at hr;rw [hr]at hb;obtain⟨j,hj,hi⟩:=Akd hb;have hl:0<e.2.length:=(by omega);have hm:(j+e.2.length-1)%e.2.length<e.2.length:=Nat.mod_lt _ hl;refine⟨e,rfl,j,_,hj,hi,hm,rfl,?_,?_⟩
  ·unfold NX;rw [hr,hi];simp only [Int.toNat_natCast];rw [List.getD_eq_getElem?_getD,Asl hm];rfl
  ·refine(h.mem s.b _).1 ?_;rw [hr];exact Asg hm
theorem G5.next{W:List Sg}{R0:List (Pt×List Pt)}(h:G5 W R0){s:Sg}(hs:s∈W):NX R0 s∈W:=by
 obtain⟨e,_,j,m,_,_,hm,_,h1,h2⟩:=h.step hs;rw [h1];exact h2
end Go.Proofs.YtdaefncphfeaeaaGreatDoor
