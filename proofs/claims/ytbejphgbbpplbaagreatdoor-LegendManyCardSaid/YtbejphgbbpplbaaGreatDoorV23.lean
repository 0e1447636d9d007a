/- V23: M5 M6 M7 M8 M9 M10 Lay M12 M13 M14 M15 M16. -/
import Derived.Maps.AppendAt
import Derived.Test.YtbejphgbbpplbaaGreatDoorV20
import Derived.Test.YtbejphgbbpplbaaGreatDoorV10
import Derived.Shelf.SlSortCmp.InsertionK
set_option maxRecDepth 100000
set_option maxHeartbeats 8000000
namespace Go.Proofs.YtbejphgbbpplbaaGreatDoor
open Go.RowKit Kl
open Go.ChangeMaps (setBlock)
def FC(R:List (Pt×List Pt))(p:Pt):Nat:=(R.findIdx? (fun e=>Ap p e.1)).getD R.length
def Gh(R:List (Pt×List Pt))(p:Pt):List (Pt×List Pt):=match R.findIdx? (fun e=>Ap p e.1)with|some _=>R|none=>R ++ [(p,[])]
def CG(R:List (Pt×List Pt))(p q:Pt):List (Pt×List Pt):=(Gh R p).modify (FC R p) (fun e=>(e.1,e.2 ++ [q]))
structure Du(B:Nat)(W:World)(b2:Nat)(E:List (Pt×Value×Nat))(R:List (Pt×List Pt)):Prop where
 blk:W.heap[b2]?=some (.map (Aw Ak E).toArray E.length)
 len:E.length=R.length
 row:∀i (h:i<E.length) (h':i<R.length),E[i].1=R[i].1/\E[i].2.2=i/\W.ownsRow B 94 2 E[i].2.1 R[i].2.length (flat (Ao R[i].2))
 apart:∀i j (hi:i<E.length) (hj:j<E.length),i≠j→E[i].2.1.ownBlock=none∨E[i].2.1.ownBlock≠E[j].2.1.ownBlock
 own:B<=b2
theorem Du.lt{B:Nat}{W:World}{b2:Nat}{E:List (Pt×Value×Nat)}{R:List (Pt×List Pt)}(h:Du B W b2 E R):b2<W.heap.size:=(Array.getElem?_eq_some_iff.1 h.blk).1
theorem Du.keep{B:Nat}{W W':World}{b2:Nat}{E:List (Pt×Value×Nat)}{R:List (Pt×List Pt)}(h:Du B W b2 E R)(hg:W.grownBy W' none):Du B W' b2 E R:=
 ⟨(hg.block b2 h.lt (by simp)).trans h.blk,h.len,fun i hi hi'=>⟨(h.row i hi hi').1,(h.row i hi hi').2.1,(h.row i hi hi').2.2.kept hg (by
  rcases hv:E[i].2.1.ownBlock with _|g
  ·exact .inl rfl
  ·exact .inr (by simp))⟩,h.apart,h.own⟩
theorem YY{E:List (Pt×Value×Nat)}{R:List (Pt×List Pt)}(hl:E.length=R.length)(he:∀i (h:i<E.length) (h':i<R.length),E[i].1=R[i].1)(p:Pt):E.findIdx? (fun e=>Ap p e.1)=R.findIdx? (fun e=>Ap p e.1):=by
 have h1:E.map (·.1)=R.map (·.1):=by
  apply List.ext_getElem
  ·simp [hl]
  ·intro i h1 h2;simp at h1 h2 ⊢;exact he i h1 h2
 have f:∀{β:Type} (l:List (Pt×β)),l.findIdx? (fun e=>Ap p e.1)=(l.map (·.1)).findIdx? (Ap p):=by
  intro β l;rw [List.findIdx?_map]
  rfl
 rw [f E,f R,h1]
theorem Kw{w:World}{b:Nat}{o o':Obj}(_:w.heap[b]?=some o'):w.grownBy (setBlock w b o) (some b):=
 ⟨rfl,rfl,rfl,by simp [setBlock],fun k _ hk=>Ts (fun e=>hk (by rw [e]))⟩
theorem Du.entry{B:Nat}{W:World}{b2:Nat}{E:List (Pt×Value×Nat)}{R:List (Pt×List Pt)}(h:Du B W b2 E R)(p:Pt) :
  ∃W1 E1,Du B W1 b2 E1 (Gh R p)/\W.grownBy W1 (some b2)/\W1.heap.size=W.heap.size/\∃hj:FC R p<E1.length,∃hj':FC R p<(Gh R p).length,((Gh R p)[FC R p]).1=p/\
   (∀V,V.heap[b2]?=W.heap[b2]?→(Instr.mapEntry 132 (.map (some b2)) (Ak p)).run Tryz.prog V=.ok (.tuple #[E1[FC R p].2.1,.int .i64 (FC R p:Nat)]) (setBlock V b2 (.map (Aw Ak E1).toArray E1.length)))/\W1=setBlock W b2 (.map (Aw Ak E1).toArray E1.length):=by
 have Da:=YY h.len (fun i h1 h2=>(h.row i h1 h2).1) p
 cases hf:R.findIdx? (fun e=>Ap p e.1)with
 | none=>
  have e1:FC R p=R.length:=(by unfold FC;rw [hf];rfl);have e2:Gh R p=R ++ [(p,[])]:=(by unfold Gh;rw [hf]);rw [hf]at Da;have hno:∀e∈E,Ap p e.1=false:=(by rw [List.findIdx?_eq_none_iff]at Da;exact Da);have hnew:=iM PK p E hno (W:=W) h.blk;rw [e2];refine⟨_,E ++ [(p,.slice none 0 0,E.length)],⟨?_,?_,?_,?_,h.own⟩,Kw h.blk,?_,?_,?_,?_,?_,rfl⟩
  ·rw [Ls h.blk]
  ·simp [h.len]
  ·intro i hi hi';by_cases hlt:i<E.length
   ·have P0:i<R.length:=(by rw [←h.len];exact hlt);rw [List.getElem_append_left hlt,List.getElem_append_left P0];obtain⟨r1,r2,r3⟩:=h.row i hlt P0;refine⟨r1,r2,r3.kept (Kw h.blk) ?_⟩
    rcases r3.2 with⟨hn,_⟩|⟨g,cap,cur,hv,hb,hg,_⟩
    ·left;rw [hn];rfl
    ·right
     rw [hv];simp only [Value.ownBlock,ne_eq,Anb];intro e;rw [e,h.blk]at hg
     cases hg
   ·have KI:i=E.length:=(by simp at hi;omega);subst KI;rw [List.getElem_append_right (by omega),List.getElem_append_right (by rw [h.len];omega)];simp only [Nat.sub_self,List.getElem_cons_zero,h.len];exact⟨by trivial,by trivial,⟨rfl,.inl ⟨rfl,rfl⟩⟩⟩
  ·intro i j hi hj Bf;by_cases Sf:i<E.length
   ·rw [List.getElem_append_left Sf];by_cases AV:j<E.length
    ·rw [List.getElem_append_left AV];exact h.apart i j Sf AV Bf
    ·rw [List.getElem_append_right (by omega)];have Mt:j=E.length:=(by simp at hj;omega);subst Mt;simp only [Nat.sub_self,List.getElem_cons_zero]
     cases E[i].2.1.ownBlock with
     | none=>left;rfl
     | some g=>right;simp [Value.ownBlock]
   ·rw [List.getElem_append_right (by omega)];have KI:i=E.length:=(by simp at hi;omega);subst KI
    left
    simp [Value.ownBlock]
  ·simp [setBlock]
  ·rw [e1,←h.len];simp
  ·rw [e1];simp
  ·simp only [e1];rw [List.getElem_append_right (by omega)];simp
  ·intro V hV;have hnV:=iM PK p E hno (W:=V) (hV.trans h.blk);rw [hnV];simp only [e1];rw [List.getElem_append_right (by rw [h.len];omega)];simp [h.len]
 | some j=>
  have e1:FC R p=j:=(by unfold FC;rw [hf];rfl);have e2:Gh R p=R:=(by unfold Gh;rw [hf]);rw [hf]at Da;rw [List.findIdx?_eq_some_iff_getElem]at Da;obtain⟨hj,h1,h2⟩:=Da;have hj':j<R.length:=by rw [←h.len];exact hj
  have hno:∀e∈E.take j,Ap p e.1=false:=by
   intro e he;rw [List.mem_take_iff_getElem]at he;obtain⟨i,hi,rfl⟩:=he;have:=h2 i (by omega)
   simpa using this
  have hk:E[j].1=p:=(Cx.1 h1).symm;rw [e2];refine⟨W,E,h,⟨rfl,rfl,rfl,AmX _,fun _ _ _=>rfl⟩,rfl,by rw [e1];exact hj,by rw [e1];exact hj',?_,?_,(iR h.blk).symm⟩
  ·simp only [e1];rw [←(h.row j hj hj').1];exact hk
  ·intro V hV;have hb:=hV.trans h.blk;have:=AiW PK p E hj hno hk (W:=V) hb;rw [this,iR hb];simp only [e1,(h.row j hj hj').2.1]
theorem Du.append{B:Nat}{Y:World}{b2:Nat}{E:List (Pt×Value×Nat)}{R:List (Pt×List Pt)}(h:Du B Y b2 E R)(hB:B<=Y.heap.size){j:Nat}(hj:j<E.length)(hj':j<R.length)(hn:R[j].2.length<200000)
  (q:Pt) {g:Nat} (hg:Y.heap[g]?=some (.cells #[S (Kl.R q.x),S (Kl.R q.y)] 94)) (ty:TypeId) :
  ∃v' Z Z',(Builtin.append_ #[33,33] ty #[E[j].2.1,.slice (some ⟨g,0,none⟩) 1 1]).run Tryz.prog Y=.ok v' Z/\Y.grownBy Z E[j].2.1.ownBlock
   /\(Instr.entryStore 132 (.map (some b2)) (.int .i64 (j:Nat)) v').run Tryz.prog Z=.ok () Z'/\Z.grownBy Z' (some b2)/\Du B Z' b2 (E.set j (E[j].1,v',j)) (R.modify j (fun e=>(e.1,e.2 ++ [q]))):=by
 obtain⟨i0,hi,hz0,hz1,hz2⟩:=info_parts Tryz.infoPt;obtain⟨r1,r2,r3⟩:=h.row j hj hj'
 obtain⟨v',Z,hr,hown,hgr,_,hat⟩:=run_append_own_at (P:=Tryz.prog) Y B 33 ty 94 i0 (.agg #[S [],S []]) 2 32 Tryz.underlying33 hi hz0 hz1 hz2 rfl (by omega) E[j].2.1 R[j].2.length (flat (Ao R[j].2)) r3
  ⟨g,0,none⟩ 1 1 [S (Kl.R q.x),S (Kl.R q.y)] rfl (fun k u hu=>by
   rw [Addr.add_lit,Nat.zero_add];refine Ab hg ?_;rw [←Array.getElem?_toList]
   exact hu) (fun u hu=>by
   simp only [List.mem_cons,Anj,or_false]at hu
   rcases hu with rfl|rfl<;>rfl) (by unfold maxLen;omega) (by omega) hB
 rw [←gY]at hown
 have hb2:Z.heap[b2]?=Y.heap[b2]?:=hgr.block b2 h.lt (by
  rcases r3.2 with⟨hv,_⟩|⟨g0,cap,cur,hv,_,hg0,_⟩
  ·rw [hv];simp [Value.ownBlock]
  ·rw [hv];simp only [Value.ownBlock,ne_eq,Anb];intro e;rw [←e,h.blk]at hg0
   cases hg0)
 have Vd:=hb2.trans h.blk
 have hno:∀e∈E.take j,e.2.2≠E[j].2.2:=by intro e he;rw [List.mem_take_iff_getElem]at he;obtain⟨i,hi,rfl⟩:=he;rw [(h.row i (by omega) (by rw [←h.len];omega)).2.1,r2];omega
 have hst:=ky (enc:=Ak) 132 E hj hno v' Vd;rw [r2]at hst;have aZ:=Kw (o:=.map (Aw Ak (E.set j (E[j].1,v',j))).toArray E.length) Vd;refine⟨v',Z,_,hr,hgr,hst,aZ,⟨?_,?_,?_,?_,h.own⟩⟩
 ·rw [Ls Vd];simp
 ·simp [h.len]
 ·intro i hi hi';have Mq:i<E.length:=(by simpa using hi);have KL:i<R.length:=(by simpa using hi');by_cases Bf:j=i
  ·subst Bf;rw [List.getElem_set_self,List.getElem_modify_eq];refine⟨r1,rfl,?_⟩;have hl:(R[j].2 ++ [q]).length=R[j].2.length+1:=(by simp);simp only [hl];refine hown.kept aZ ?_
   rcases hown.2 with⟨hv,_⟩|⟨g0,cap,cur,hv,_,hg0,_⟩
   ·left;rw [hv];rfl
   ·right
    rw [hv];simp only [Value.ownBlock,ne_eq,Anb];intro e;rw [e,Vd]at hg0
    cases hg0
  ·rw [List.getElem_set_ne Bf];have hm:(R.modify j (fun e=>(e.1,e.2 ++ [q])))[i]=R[i]:=(by rw [List.getElem_modify,if_neg Bf]);rw [hm];obtain⟨s1,s2,s3⟩:=h.row i Mq KL;refine⟨s1,s2,(s3.kept hgr (h.apart i j Mq hj (fun e=>Bf e.symm))).kept aZ ?_⟩
   rcases s3.2 with⟨hv,_⟩|⟨g0,cap,cur,hv,_,hg0,_⟩
   ·left;rw [hv];rfl
   ·right
    rw [hv];simp only [Value.ownBlock,ne_eq,Anb];intro e;rw [e,h.blk]at hg0
    cases hg0
 ·intro i k hi hk hik;have Mq:i<E.length:=(by simpa using hi);have Sj:k<E.length:=by simpa using hk
  have hlt:∀x (hx:x<E.length) (hx':x<R.length),E[x].2.1.ownBlock≠some Y.heap.size:=by
   intro x hx hx'
   rcases(h.row x hx hx').2.2.2 with⟨hv,_⟩|⟨g0,cap,cur,hv,_,hg0,_⟩
   ·rw [hv];simp [Value.ownBlock]
   ·rw [hv];have:=(Array.getElem?_eq_some_iff.1 hg0).1;simp only [Value.ownBlock,ne_eq,Anb];omega
  by_cases Bf:j=i
  ·subst Bf;rw [List.getElem_set_self,List.getElem_set_ne hik]
   rcases hat with e|e
   ·rw [e];exact h.apart j k Mq Sj hik
   ·rw [e];right;exact fun e'=>hlt k Sj (by rw [←h.len];exact Sj) e'.symm
  ·rw [List.getElem_set_ne Bf];by_cases hjk:j=k
   ·subst hjk;rw [List.getElem_set_self]
    rcases hat with e|e
    ·rw [e];exact h.apart i j Mq Sj hik
    ·rw [e];right;exact hlt i Mq (by rw [←h.len];exact Mq)
   ·rw [List.getElem_set_ne hjk];exact h.apart i k Mq Sj hik
def stamp(L:List (Sg×Int)):List (Sg×Value×Nat):=L.mapIdx fun i e=>(e.1,.int .i64 e.2,i)
theorem Dp(L:List (Sg×Int)):(stamp L).length=L.length:=by simp [stamp]
theorem nj(L:List (Sg×Int))(e:Sg×Int):stamp (L ++ [e])=stamp L ++ [(e.1,.int .i64 e.2,L.length)]:=by simp [stamp,List.mapIdx_append]
theorem jF{L:List (Sg×Int)}{x:Sg×Value×Nat}(h:x∈stamp L):∃e∈L,x.1=e.1:=by
 unfold stamp at h;rw [List.mem_mapIdx]at h;obtain⟨i,hi,rfl⟩:=h;exact⟨L[i],AmY hi,rfl⟩
theorem AjF{L:List (Sg×Int)}{x:Sg×Value×Nat}(h:x∈stamp L):x.2.2<L.length:=by
 unfold stamp at h;rw [List.mem_mapIdx]at h;obtain⟨i,hi,rfl⟩:=h;exact hi
structure Bo(B:Nat)(W:World)(r b1 b2:Nat)(L:List (Sg×Int))(E:List (Pt×Value×Nat))(R:List (Pt×List Pt)):Prop where
 cell:W.heap[r]?=some (.cells #[.map (some b1),.map (some b2)] 134)
 left:W.heap[b1]?=some (.map (Aw As (stamp L)).toArray L.length)
 ar:Du B W b2 E R
 r0:B<=r
 r1:B<=b1
 ne:b1≠b2
theorem cj{W:World}{b1:Nat}{L:List (Sg×Int)}(h:W.heap[b1]?=some (.map (Aw As (stamp L)).toArray L.length))(s:Sg)(hno:∀e∈L,AK s e.1=false)(z:Int) :
  ∃X,(Instr.mapEntry 131 (.map (some b1)) (As s)).run Tryz.prog W=.ok (.tuple #[.int .i64 0,.int .i64 (L.length:Nat)]) X
   /\W.grownBy X (some b1)/\X.heap.size=W.heap.size
   /\∃Z,(Instr.entryStore 131 (.map (some b1)) (.int .i64 (L.length:Nat)) (.int .i64 z)).run Tryz.prog X=.ok () Z/\W.grownBy Z (some b1)/\Z.heap.size=W.heap.size/\Z.heap[b1]?=some (.map (Aw As (stamp (L ++ [(s,z)]))).toArray (L ++ [(s,z)]).length):=by
 have Ae0:∀e∈stamp L,AK s e.1=false:=by intro e he;obtain⟨x,hx,h1⟩:=jF he;rw [h1];exact hno x hx
 have h1:=iM Wh s (stamp L) Ae0 (W:=W) h;have hb:=Ls (o:=.map (Aw As (stamp L ++ [(s,.int .i64 0,L.length)])).toArray (L.length+1)) h;have hlt:L.length<(stamp L ++ [(s,Value.int .i64 0,L.length)]).length:=by simp [Dp]
 have hge:(stamp L ++ [(s,Value.int .i64 0,L.length)])[L.length]=(s,.int .i64 0,L.length):=by rw [List.getElem_append_right (by rw [Dp];omega)];simp [Dp]
 have h2:=ky (enc:=As) 131 (stamp L ++ [(s,.int .i64 0,L.length)]) hlt (by
  intro e he;rw [hge]
  have:e∈stamp L:=by rw [List.take_append_of_le_length (by rw [Dp];omega),Ang (by rw [Dp];omega)]at he;exact he
  have:=AjF this;show e.2.2≠L.length
  omega) (.int .i64 z) hb
 rw [hge]at h2
 have FX:(stamp L ++ [(s,Value.int .i64 0,L.length)]).set L.length (s,.int .i64 z,L.length)=stamp (L ++ [(s,z)]):=by rw [nj,List.set_append_right _ _ (by rw [Dp];omega)];simp [Dp]
 rw [FX]at h2;refine⟨_,h1,Kw h,by simp [setBlock],_,h2,?_,by simp [setBlock],?_⟩
 ·exact⟨rfl,rfl,rfl,by simp [setBlock],fun k _ hk=>by
   have hkb:k≠b1:=fun e=>hk (by rw [e])
   rw [Ts hkb,Ts hkb]⟩
 ·rw [Ls hb];simp
theorem OQ{w w':World}{row:Option Nat}(hg:w.grownBy w' row){a:Addr}{v:Value}(h:w.cell? a=some v)(hn:some a.block≠row):w'.cell? a=some v:=by
 have hlt:a.block<w.heap.size:=by
  unfold World.cell? at h
  rcases Nat.lt_or_ge a.block w.heap.size with h'|h'
  ·exact h'
  ·simp [Array.getElem?_eq_none h']at h
 exact(World.cell?_of_block (hg.block a.block hlt hn)).trans h
theorem Gj{w w':World}(h:Aa w w')(row:Option Nat):w.grownBy w' row:=⟨h.os,h.tape,h.output,h.size,fun k hk _=>h.block k hk⟩
theorem Nv{a b c:World}{row:Option Nat}(h:a.grownBy b row)(k:b.grownBy c row):a.grownBy c row:=
 ⟨k.os.trans h.os,k.tape.trans h.tape,k.output.trans h.output,Ani h.size k.size,fun i hi hr=>(k.block i (Anh hi h.size) hr).trans (h.block i hi hr)⟩
theorem below_grown{B:Nat}{w w':World}{b:Nat}(hg:w.grownBy w' (some b))(hb:B<=b)(hB:B<=w.heap.size):Below B w w':=
 ⟨hg.os,hg.tape,hg.output,hg.size,fun k hk=>hg.block k (by omega) (by intro e;cases e;omega)⟩
theorem AfU{W:World}{b1:Nat}{L:List (Sg×Int)}(h:W.heap[b1]?=some (.map (Aw As (stamp L)).toArray L.length))(s:Sg)(h1:∀e∈L,AK s e.1=false)(h2:∀e∈L,AK (AP s) e.1=false)(hne:AK (AP s) s=false)(y z:Int) :
  ∃(n1:Nat) (X Z X2 Z2:World),(Instr.mapEntry 131 (.map (some b1)) (As s)).run Tryz.prog W=.ok (.tuple #[.int .i64 0,.int .i64 (L.length:Nat)]) X
   /\(Instr.entryStore 131 (.map (some b1)) (.int .i64 (L.length:Nat)) (.int .i64 y)).run Tryz.prog X=.ok () Z
   /\(Instr.mapEntry 131 (.map (some b1)) (As (AP s))).run Tryz.prog Z=.ok (.tuple #[.int .i64 0,.int .i64 (n1:Nat)]) X2
   /\(Instr.entryStore 131 (.map (some b1)) (.int .i64 (n1:Nat)) (.int .i64 z)).run Tryz.prog X2=.ok () Z2
   /\W.grownBy X (some b1)/\W.grownBy Z (some b1)/\W.grownBy X2 (some b1)/\W.grownBy Z2 (some b1)/\Z2.heap.size=W.heap.size/\Z2.heap[b1]?=some (.map (Aw As (stamp (L ++ [(s,y),(AP s,z)]))).toArray (L ++ [(s,y),(AP s,z)]).length):=by
 obtain⟨X,e1,g1,s1,Z,e2,g2,s2,hb⟩:=cj h s h1 y
 obtain⟨X2,e3,g3,s3,Z2,e4,g4,s4,hb2⟩:=cj hb (AP s) (by
  intro e he
  rcases List.mem_append.1 he with he|he
  ·exact h2 e he
  ·simp only [Ank]at he;subst he;exact hne) z
 have hl:(L ++ [(s,y)]).length=L.length+1:=(by simp);rw [hl]at e3 e4;rw [List.append_assoc]at hb2;exact⟨L.length+1,X,Z,X2,Z2,e1,e2,e3,e4,g1,g2,Nv g2 g3,Nv g2 g4,by omega,hb2⟩
section
variable {ops : Array Oper} {o : Oper} {a : Act} {K : Act → World → Prop} {Q : Exit → Act → World → Prop} {E : Prop}
theorem nt(hgd:o.guard=none)(s x:Operand)(ho:o.op=.call {callee:=.builtin .append,args:=#[s,x],argTypes:=#[33,33]})
  {v u v':Value} {w Z:World} (hs:a.eval s=v) (hx:a.eval x=u) (hr:(Builtin.append_ #[33,33] o.type #[v,u]).run Tryz.prog w=.ok v' Z) (h:K (a.put o.dst v') Z) :
  if Region.wanted o (yielded ops a.tmps)=true then Oper.wp Tryz.prog o a w K Q else E:=by
 have hw:Region.wanted o (yielded ops a.tmps)=true:=(by simp [Region.wanted,hgd]);rw [if_pos hw];unfold Oper.wp execOp;simp only [ho,resolve,invoke,builtin,Sem.run_bind,Sem.run_pure,Result.andThen_ok,List.map_toArray,List.map_cons,List.map_nil,hs,hx,hr];exact h
end
def BD(b2:Nat)(W V:World):Prop:=W.heap.size<=V.heap.size/\∀k o,W.heap[k]?=some o→k≠b2→(∀cs,o≠.cells cs 94 (0,0))→V.heap[k]?=some o
theorem BD.trans{b2:Nat}{a b c:World}(h:BD b2 a b)(k:BD b2 b c):BD b2 a c:=
 ⟨Ani h.1 k.1,fun i o h1 h2 h3=>k.2 i o (h.2 i o h1 h2 h3) h2 h3⟩
theorem BD.of_ext{b2:Nat}{a b:World}(h:Aa a b):BD b2 a b:=⟨h.size,fun i _ h1 _ _=>(h.block i (Array.getElem?_eq_some_iff.1 h1).1).trans h1⟩
theorem BD.of_grown{b2:Nat}{a b:World}(h:a.grownBy b (some b2)):BD b2 a b:=⟨h.size,fun i _ h1 h2 _=>(h.block i (Array.getElem?_eq_some_iff.1 h1).1 (by simp;exact h2)).trans h1⟩
theorem mK{R:List (Pt×List Pt)}{p:Pt}{n:Nat}(h:∀e∈R,e.2.length<=n):∀e∈Gh R p,e.2.length<=n:=by
 unfold Gh
 split
 ·exact h
 ·intro e he
  rcases List.mem_append.1 he with he|he
  ·exact h e he
  ·simp only [Ank]at he;subst he;simp
theorem Yg{R:List (Pt×List Pt)}{p q:Pt}{n:Nat}(h:∀e∈R,e.2.length<=n):∀e∈CG R p q,e.2.length<=n+1:=by
 intro e he;unfold CG at he;obtain⟨i,hi,rfl⟩:=List.getElem_of_mem he;rw [List.getElem_modify];have hi':i<(Gh R p).length:=(by simpa using hi);have:=mK (p:=p) h _ (AmY hi')
 split
 ·simp;omega
 ·omega
theorem mL{B:Nat}{W:World}{b2:Nat}{E:List (Pt×Value×Nat)}{R0:List (Pt×List Pt)}(h:Du B W b2 E R0)(hB:B<=W.heap.size)(p q:Pt)(hn:∀e∈R0,e.2.length<=100000) :
  ∃(j:Nat) (v v':Value) (X Z Z':World) (E':List (Pt×Value×Nat)),
   (Instr.mapEntry 132 (.map (some b2)) (Ak p)).run Tryz.prog (W.alloc (.cells #[S (R q.x),S (R q.y)] 94)).drew=.ok (.tuple #[v,.int .i64 (j:Nat)]) X
   /\(∀ty,ty=33→(Builtin.append_ #[33,33] ty #[v,.slice (some ⟨W.heap.size,0,none⟩) 1 1]).run Tryz.prog X=.ok v' Z)
   /\(Instr.entryStore 132 (.map (some b2)) (.int .i64 (j:Nat)) v').run Tryz.prog Z=.ok () Z'
   /\BD b2 W X/\BD b2 W Z/\BD b2 W Z'/\Below B W Z'/\Du B Z' b2 E' (CG R0 p q):=by
 have hx:=((Aa.refl W).alloc (.cells #[S (R q.x),S (R q.y)] 94)).drew;have hg0:(W.alloc (.cells #[S (R q.x),S (R q.y)] 94)).drew.heap[W.heap.size]?=_:=AmW W (.cells #[S (R q.x),S (R q.y)] 94);have hA:=h.keep (Gj hx none);obtain⟨X,E1,hA1,g1,s1,hj,hj',hk,hrun,hX⟩:=hA.entry p;have hgX:X.heap[W.heap.size]?=some (.cells #[S (R q.x),S (R q.y)] 94):=(g1.block _ (by simp) (by have:=h.lt;simp;omega)).trans hg0;have rU:B<=X.heap.size:=by rw [s1];simp;omega
 have hlen:((Gh R0 p)[FC R0 p]).2.length<200000:=by have:=mK hn _ (AmY hj');omega
 obtain⟨v',Z,Z',hr,gZ,hst,rM,hA2⟩:=hA1.append rU hj hj' hlen q hgX 33;have jD:BD b2 W X:=(BD.of_ext hx).trans (BD.of_grown g1)
 have nh:BD b2 X Z:=by
  refine⟨gZ.size,fun k o h1 _ h3=>(gZ.block k (Array.getElem?_eq_some_iff.1 h1).1 ?_).trans h1⟩
  rcases(hA1.row _ hj hj').2.2.2 with⟨hv,_⟩|⟨g,cap,cur,hv,_,hg,_⟩
  ·rw [hv];simp [Value.ownBlock]
  ·rw [hv];simp only [Value.ownBlock,ne_eq,Anb];intro e;rw [e,hg]at h1;exact h3 cur (Option.some.inj h1).symm
 have bZ:Below B X Z:=⟨gZ.os,gZ.tape,gZ.output,gZ.size,fun k hkB=>gZ.block k (by omega) (by
  rcases(hA1.row _ hj hj').2.2.2 with⟨hv,_⟩|⟨g,cap,cur,hv,hb,_⟩
  ·rw [hv];simp [Value.ownBlock]
  ·rw [hv];simp only [Value.ownBlock,ne_eq,Anb];omega)⟩
 have bb:=h.own;have UC:B<=Z.heap.size:=Ani rU gZ.size;have Aak:Below B W Z':=((Below.mono hx hB).trans (below_grown g1 bb (by simp;omega))).trans (bZ.trans (below_grown rM bb UC));refine⟨FC R0 p,E1[FC R0 p].2.1,v',X,Z,Z',_,?_,?_,hst,jD,jD.trans nh,jD.trans (nh.trans (BD.of_grown rM)),Aak,hA2⟩
 ·rw [hX];exact hrun _ rfl
 ·intro ty dH;subst dH;exact hr
theorem Yi{B:Nat}{w:World}{r b1 b2:Nat}{L:List (Sg×Int)}{E:List (Pt×Value×Nat)}{R0:List (Pt×List Pt)}(h:Bo B w r b1 b2 L E R0)(hB:B<=w.heap.size)(s:Sg)(y z:Int)
  (h1:∀e∈L,AK s e.1=false) (h2:∀e∈L,AK (AP s) e.1=false) (hne:AK (AP s) s=false) (hn:∀e∈R0,e.2.length<=90000) :
  Calls Tryz.prog 111 #[.pointer (some ⟨r,0,none⟩),As s,.int .i64 y,.int .i64 z] w (fun e w'=>e=.returned (.tuple #[])/\Below B w w'/\(∀k o,w.heap[k]?=some o→k≠b1→k≠b2→(∀cs,o≠.cells cs 94 (0,0))→w'.heap[k]?=some o)/\∃E',Bo B w' r b1 b2 (L ++ [(s,y),(AP s,z)]) E' (CG (CG R0 s.a s.b) s.b s.a)):=by
 have hE:=(Aa.refl w).alloc (.cells #[S (R s.a.x),S (R s.a.y),S (R s.b.x),S (R s.b.y)] 155);have FM:=AmW w (.cells #[S (R s.a.x),S (R s.a.y),S (R s.b.x),S (R s.b.y)] 155);obtain⟨hc,hl,ha,hr0,hr1,Bl⟩:=h;have hcl:=AmV hc;have Dm:=(Array.getElem?_eq_some_iff.1 hl).1;have Hy:=ha.lt;have bk:=Uk s;unfold As at bk;unfold As;go_enter Tryz.func111,Tryz.ntmps111
 go_upto_region 1 with fail
 replace hc:=(hE.block r hcl).trans hc;replace hl:=(hE.block b1 Dm).trans hl;replace ha:=ha.keep (Gj hE none);generalize hV:w.alloc (.cells #[S (R s.a.x),S (R s.a.y),S (R s.b.x),S (R s.b.y)] 155)=V at *;obtain⟨bs,RR⟩:=AmT w.heap.size;rw [←RR]at FM ⊢;have nr:b1≠r:=(by intro e;rw [e,hc]at hl;cases hl);have ns:b1≠bs:=(by omega);have nbs:B<=bs:=(by omega);have nrs:r≠bs:=(by omega);have eS:b2≠bs:=(by omega);have nle:w.heap.size<=bs:=(by omega);have HV:=AmU hV;clear RR hV
 have SO:∀w',V.grownBy w' (some b1)→(w'.cell? ⟨r,0,none⟩=some (.map (some b1))/\w'.cell? ⟨r,1,none⟩=some (.map (some b2))/\w'.cell? ⟨bs,0,none⟩=some (S (R s.a.x))/\w'.cell? ⟨bs,1,none⟩=some (S (R s.a.y))/\w'.cell? ⟨bs,2,none⟩=some (S (R s.b.x))/\w'.cell? ⟨bs,3,none⟩=some (S (R s.b.y))):=fun w' hg=>⟨OQ hg (Ab hc rfl) (by simp;omega),OQ hg (Ab hc rfl) (by simp;omega),OQ hg (Ab FM rfl) (by simp;omega),OQ hg (Ab FM rfl) (by simp;omega),OQ hg (Ab FM rfl) (by simp;omega),OQ hg (Ab FM rfl) (by simp;omega)⟩
 have t0:V.grownBy V.drew (some b1):=Gj (Aa.refl V).drew _
 go_region_held3 (fun w'=>w'.cell? ⟨r,0,none⟩=some (.map (some b1))/\w'.cell? ⟨r,1,none⟩=some (.map (some b2))/\w'.cell? ⟨bs,0,none⟩=some (S (R s.a.x))/\w'.cell? ⟨bs,1,none⟩=some (S (R s.a.y))/\w'.cell? ⟨bs,2,none⟩=some (S (R s.b.x))/\w'.cell? ⟨bs,3,none⟩=some (S (R s.b.y)))
  (first|with_reducible exact SO _ t0|with_reducible exact SO _ t1|with_reducible exact SO _ t2|with_reducible exact SO _ t3|with_reducible exact SO _ t4|with_reducible exact SO _ t5)
  (first|((with_reducible refine(bk _).mono ?_);rintro e w1 ⟨rfl,hx1⟩;have t1:V.grownBy w1 (some b1):=Nv t0 (Gj hx1 _);obtain⟨n1,X,Z,X2,Z2,e1,e2,e3,e4,u1,u2,u3,u4,u5,u6⟩:=AfU (((Aa.refl V).drew.trans hx1).block b1 (AmV hl) |>.trans hl) s h1 h2 hne y z;have t2:=Nv t1 u1;have t3:=Nv t1 u2;have t4:=Nv t1 u3;have t5:=Nv t1 u4;unfold As at e1 e3))
 have gz:V.grownBy Z2 (some b1):=t5;have Wt:r≠b2:=(by intro e;rw [e,ha.blk]at hc;cases hc);have hc1:=(gz.block r (AmV hc) (by simp;omega)).trans hc;have hb1:=(gz.block bs (AmV FM) (by simp;omega)).trans FM;have N8:Du B V b2 E R0:=ha
 have tV:Du B Z2 b2 E R0:=by
  refine⟨(gz.block b2 N8.lt (by simp;omega)).trans N8.blk,N8.len,fun i hi hi'=>?_,N8.apart,N8.own⟩;obtain⟨s1,s2,s3⟩:=N8.row i hi hi';refine⟨s1,s2,s3.kept gz ?_⟩
  rcases s3.2 with⟨hv,_⟩|⟨g,cap,cur,hv,_,hg,_⟩
  ·left;rw [hv];rfl
  ·right
   rw [hv];simp only [Value.ownBlock,ne_eq,Anb];intro e;rw [e,hl]at hg
   cases hg
 have LG:=AmU u6;have GZ:=AmU (show ∀k o,w.heap[k]?=some o→k≠b1→Z2.heap[k]?=some o from fun k o q1 q2=>(gz.block k (Anh (Array.getElem?_eq_some_iff.1 q1).1 hE.size) (by simp;exact q2)).trans ((hE.block k (Array.getElem?_eq_some_iff.1 q1).1).trans q1));have bz:Below B w Z2:=(Below.mono hE hB).trans (below_grown gz hr1 (by have:=hE.size;omega));have BZ:=AmU bz;have HC:=AmU hc;have UC:B<=Z2.heap.size:=(by have:=gz.size;have:=hE.size;omega);clear SO t0 t1 t2 t3 t4 t5 e1 e2 e3 e4 u1 u2 u3 u4 u5 u6 ha N8 hc hl FM hx1 bz gz;obtain⟨j1,v1,u1,X1,Y1,Q1,E1,c1,c2,c3,y1,y2,y3,y4,y5⟩:=mL tV UC s.a s.b (fun e he=>Ani (hn e he) (by omega));replace c2:=c2 _ rfl
 have O9:∀w',BD b2 Z2 w'→(w'.cell? ⟨r,0,none⟩=some (.map (some b1))/\w'.cell? ⟨r,1,none⟩=some (.map (some b2))/\w'.cell? ⟨bs,0,none⟩=some (S (R s.a.x))/\w'.cell? ⟨bs,1,none⟩=some (S (R s.a.y))/\w'.cell? ⟨bs,2,none⟩=some (S (R s.b.x))/\w'.cell? ⟨bs,3,none⟩=some (S (R s.b.y))):=fun w' hg=>
  have z1:=hg.2 r _ hc1 Wt (by intro cs e;cases e);have z2:=hg.2 bs _ hb1 (fun e=>eS e.symm) (by intro cs e;cases e)
  ⟨Ab z1 rfl,Ab z1 rfl,Ab z2 rfl,Ab z2 rfl,Ab z2 rfl,Ab z2 rfl⟩
 have t0:BD b2 Z2 Z2.drew:=BD.of_ext (Aa.refl Z2).drew;have t1:BD b2 Z2 (Z2.alloc (.cells #[S (R (s.b).x),S (R (s.b).y)] 94)).drew:=BD.of_ext ((Aa.refl _).alloc _).drew;unfold Ak at c1;(go_wp2_with fail)
 go_region_held3 (fun w'=>w'.cell? ⟨r,0,none⟩=some (.map (some b1))/\w'.cell? ⟨r,1,none⟩=some (.map (some b2))/\w'.cell? ⟨bs,0,none⟩=some (S (R s.a.x))/\w'.cell? ⟨bs,1,none⟩=some (S (R s.a.y))/\w'.cell? ⟨bs,2,none⟩=some (S (R s.b.x))/\w'.cell? ⟨bs,3,none⟩=some (S (R s.b.y)))
  (first|with_reducible exact O9 _ t0|with_reducible exact O9 _ t1|with_reducible exact O9 _ y1|with_reducible exact O9 _ y2|with_reducible exact O9 _ y3)
  (first|(refine nt (s:=.tmp 31) (x:=.tmp 34) ?hgd ?ho ?hs ?hx c2 ?h;(case hgd=>rfl);(case ho=>rfl);(case hs=>rfl);(case hx=>rfl)))
 have haQ:=y5;have hBQ:B<=Q1.heap.size:=Ani UC y3.1;have hc2:=y3.2 r _ hc1 Wt (by intro cs e;cases e);have ZU:=y3.2 bs _ hb1 (fun e=>eS e.symm) (by intro cs e;cases e);have Y3:=AmU y3;have Y4:=AmU y4;clear O9 t0 t1 c1 c2 c3 y1 y2 y3 y4 y5 tV hc1 hb1;obtain⟨j2,v2,u2,X2',Y2',Q2,E2,c1,c2,c3,y1,y2,Xg,y4',y5'⟩:=mL haQ hBQ s.b s.a (fun e he=>Ani (Yg hn e he) (by omega));replace c2:=c2 _ rfl
 have QH:∀w',BD b2 Q1 w'→(w'.cell? ⟨r,0,none⟩=some (.map (some b1))/\w'.cell? ⟨r,1,none⟩=some (.map (some b2))/\w'.cell? ⟨bs,0,none⟩=some (S (R s.a.x))/\w'.cell? ⟨bs,1,none⟩=some (S (R s.a.y))/\w'.cell? ⟨bs,2,none⟩=some (S (R s.b.x))/\w'.cell? ⟨bs,3,none⟩=some (S (R s.b.y))):=fun w' hg=>
  have z1:=hg.2 r _ hc2 Wt (by intro cs e;cases e);have z2:=hg.2 bs _ ZU (fun e=>eS e.symm) (by intro cs e;cases e)
  ⟨Ab z1 rfl,Ab z1 rfl,Ab z2 rfl,Ab z2 rfl,Ab z2 rfl,Ab z2 rfl⟩
 have t0:BD b2 Q1 Q1.drew:=BD.of_ext (Aa.refl Q1).drew;have t1:BD b2 Q1 (Q1.alloc (.cells #[S (R (s.a).x),S (R (s.a).y)] 94)).drew:=BD.of_ext ((Aa.refl _).alloc _).drew;unfold Ak at c1;(go_wp2_with fail)
 go_region_held3 (fun w'=>w'.cell? ⟨r,0,none⟩=some (.map (some b1))/\w'.cell? ⟨r,1,none⟩=some (.map (some b2))/\w'.cell? ⟨bs,0,none⟩=some (S (R s.a.x))/\w'.cell? ⟨bs,1,none⟩=some (S (R s.a.y))/\w'.cell? ⟨bs,2,none⟩=some (S (R s.b.x))/\w'.cell? ⟨bs,3,none⟩=some (S (R s.b.y)))
  (first|with_reducible exact QH _ t0|with_reducible exact QH _ t1|with_reducible exact QH _ y1|with_reducible exact QH _ y2|with_reducible exact QH _ Xg)
  (first|(refine nt (s:=.tmp 44) (x:=.tmp 47) ?hgd ?ho ?hs ?hx c2 ?h;(case hgd=>rfl);(case ho=>rfl);(case hs=>rfl);(case hx=>rfl)))
 go_wp2
 go_end0
 refine⟨rfl,(BZ.out.trans Y4.out).trans y4',fun k o q1 q2 q3 q4=>Xg.2 k o (Y3.out.2 k o (GZ.out k o q1 q2) q3 q4) q3 q4,E2,⟨Xg.2 r _ hc2 Wt (by intro cs e;cases e),Xg.2 b1 _ (Y3.out.2 b1 _ LG.out Bl (by intro cs e;cases e)) Bl (by intro cs e;cases e),y5',hr0,hr1,Bl⟩⟩
def AY(pts:List Pt)(e:Av):Sg:=⟨Fe pts e.f,Fe pts e.t⟩
def AL(pts:List Pt)(l:List Av):List (Sg×Int):=l.flatMap fun e=>[(AY pts e,e.l),(AP (AY pts e),e.r)]
def C3(pts:List Pt)(l:List Av):List (Pt×List Pt):=l.foldl (fun R0 e=>CG (CG R0 (AY pts e).a (AY pts e).b) (AY pts e).b (AY pts e).a) []
theorem Ww(pts:List Pt)(l:List Av)(e:Av):AL pts (l ++ [e])=AL pts l ++ [(AY pts e,e.l),(AP (AY pts e),e.r)]:=by simp [AL]
theorem Wx(pts:List Pt)(l:List Av)(e:Av):C3 pts (l ++ [e])=CG (CG (C3 pts l) (AY pts e).a (AY pts e).b) (AY pts e).b (AY pts e).a:=by simp [C3]
theorem ey(pts:List Pt):∀(l:List Av) (R0:List (Pt×List Pt)) (n:Nat),(∀e∈R0,e.2.length<=n)→∀e∈l.foldl (fun R0 e=>CG (CG R0 (AY pts e).a (AY pts e).b) (AY pts e).b (AY pts e).a) R0,e.2.length<=n+2*l.length
 | [],_,_,h=>by simpa using h
 | x::l,R0,n,h=>by intro e he;rw [List.foldl_cons]at he;have:=ey pts l _ (n+1+1) (Yg (Yg h)) e he;rw [List.length_cons];omega
theorem SZ(pts:List Pt)(l:List Av):∀e∈C3 pts l,e.2.length<=2*l.length:=by
 intro e he;have:=ey pts l [] 0 (by simp) e he;omega
theorem Ai8{w:World}{b o:Nat}{cs:List Value}(h:Ae w (some ⟨b,o,none⟩) cs)(hl:0<cs.length):b<w.heap.size:=by
 obtain⟨b',o',e,hc⟩:=h.ad hl;have e2:(⟨b,o,none⟩:Addr)=⟨b',o',none⟩:=Option.some.inj e;obtain rfl:b=b':=(by injection e2);have h1:=hc 0 hl;unfold World.cell? at h1
 rcases Nat.lt_or_ge b w.heap.size with h'|h'
 ·exact h'
 ·simp [Array.getElem?_eq_none h']at h1
theorem Um{B:Nat}{w w':World}(h:Below B w w'){a:Addr}{v:Value}(hb:a.block<B)(hv:w.cell? a=some v):w'.cell? a=some v:=(World.cell?_of_block (h.block _ hb)).trans hv
theorem i7{w:World}{B B':Nat}{e:TypeId}{size:Nat}{v:Value}{n:Nat}{xs:List Value}(h:w.ownsRow B e size v n xs)(hB:B'<=B):w.ownsRow B' e size v n xs:=by
 refine⟨h.1,?_⟩
 rcases h.2 with h'|⟨g,cap,cur,h1,h2,h3⟩
 ·exact .inl h'
 ·exact .inr ⟨g,cap,cur,h1,Ani hB h2,h3⟩
theorem Bo.ext{B:Nat}{W W':World}{r b1 b2:Nat}{L:List (Sg×Int)}{E:List (Pt×Value×Nat)}{R0:List (Pt×List Pt)}(h:Bo B W r b1 b2 L E R0)(hx:Aa W W'):Bo B W' r b1 b2 L E R0:=
 ⟨(hx.block _ (AmV h.cell)).trans h.cell,(hx.block _ (Array.getElem?_eq_some_iff.1 h.left).1).trans h.left,h.ar.keep (Gj hx none),h.r0,h.r1,h.ne⟩
structure MV(pts:List Pt)(l:List Av):Prop where
 rng:∀e∈l,0<=e.f/\0<=e.t/\e.f<(pts.length:Int)/\e.t<(pts.length:Int)
 ne:∀e∈l,AK (AP (AY pts e)) (AY pts e)=false
 dis:∀j (h:j<l.length),∀e∈l.take j,AK (AY pts l[j]) (AY pts e)=false/\AK (AY pts l[j]) (AP (AY pts e))=false/\AK (AP (AY pts l[j])) (AY pts e)=false/\AK (AP (AY pts l[j])) (AP (AY pts e))=false
theorem MV.keys{pts:List Pt}{l:List Av}(h:MV pts l){j:Nat}(hj:j<l.length):(∀e∈AL pts (l.take j),AK (AY pts l[j]) e.1=false)/\(∀e∈AL pts (l.take j),AK (AP (AY pts l[j])) e.1=false):=by
 constructor
 all_goals
  intro e he;unfold AL at he;rw [List.mem_flatMap]at he;obtain⟨x,hx,he⟩:=he;obtain⟨d1,d2,d3,d4⟩:=h.dis j hj x hx;simp only [List.mem_cons,Anj,or_false]at he
  rcases he with rfl|rfl<;>assumption
theorem qB{w:World} : Bo w.heap.size (Ns w) (w.heap.size+1+1) w.heap.size (w.heap.size+1) [] [] []:=by
 unfold Ns;have h0:=AmW w (.map #[] 0);have h1:=AmW (w.alloc (.map #[] 0)) (.map #[] 0);have h2:=AmW ((w.alloc (.map #[] 0)).alloc (.map #[] 0)) (.cells #[.map (some w.heap.size),.map (some (w.heap.size+1))] 134);simp only [Anf]at h1 h2;have x1:=((Aa.refl (w.alloc (.map #[] 0))).alloc (.map #[] 0)).alloc (.cells #[.map (some w.heap.size),.map (some (w.heap.size+1))] 134);have x2:=(Aa.refl ((w.alloc (.map #[] 0)).alloc (.map #[] 0))).alloc (.cells #[.map (some w.heap.size),.map (some (w.heap.size+1))] 134);exact⟨h2,(x1.block _ (by simp)).trans h0,⟨(x2.block _ (by simp)).trans h1,rfl,fun i hi=>by simp at hi,fun i _ hi=>by simp at hi,by omega⟩,by omega,AmX _,by omega⟩
theorem Ahg(m:Cm)(A B F:Option Addr)(c d g:Nat)(B8:Jm m c d g)(Aj:MV m.pts m.eds)(hle:m.eds.length<=1200)(w:World)(hA:Ae w A (flat (Ao m.pts)))(hB:Ae w B (Bt m.eds)) :
  Calls Tryz.prog 81 #[C2 A B F m c d g] w (fun e w'=>∃r b1 b2 E,e=.returned (.pointer (some ⟨r,0,none⟩))/\Aa w w'/\Bo w.heap.size w' r b1 b2 (AL m.pts m.eds) E (C3 m.pts m.eds)):=by
 obtain⟨c1,c2,d1,d2,g1,g2⟩:=B8;have hM:=AmW w (.cells #[.slice A m.pts.length c,.slice B m.eds.length d,.slice F m.nf g] 36);have hE:=(Aa.refl w).alloc (.cells #[.slice A m.pts.length c,.slice B m.eds.length d,.slice F m.nf g] 36);unfold C2;go_enter Tryz.func81,Tryz.ntmps81
 go_upto_region 1 with fail
 have hA:=hA.ext hE;have hB:=hB.ext hE;generalize w.alloc (.cells #[.slice A m.pts.length c,.slice B m.eds.length d,.slice F m.nf g] 36)=V at *;obtain⟨bm,Dk⟩:=AmT w.heap.size;have Ph:bm<V.heap.size:=(by have:=AmV hM;omega);rw [←Dk]at hM ⊢;clear Dk;have em:=qC V;have en:=@qB V
 have eb:Below V.heap.size V (Ns V):=((Aa.refl V).alloc _).alloc _ |>.alloc _
 generalize Ns V=V0 at *;obtain⟨r,hr⟩:=AmT (V.heap.size+1+1);obtain⟨b2,hb2⟩:=AmT (V.heap.size+1);obtain⟨b1,hb1⟩:=AmT V.heap.size;rw [←hr]at em en;rw [←hb2]at en;have en':Bo V.heap.size V0 r b1 b2 [] [] []:=(by rw [hb1];exact en);clear hr hb2 hb1 en;have N5:∀w',Aa V w'→w'.heap[bm]?=some (.cells #[.slice A m.pts.length c,.slice B m.eds.length d,.slice F m.nf g] 36):=fun w' h=>(h.block _ Ph).trans hM;have m1:=Ab (o:=1) (N5 V0 eb) rfl;(go_wp2_with fail);(with_reducible refine em.mono ?_);rintro e w1 ⟨rfl,hw1⟩;rw [hw1];clear hw1
 go_upto_region 3 with fail
 clear m1 em
 go_loopw [10] (fun i wr=>∃j:Nat,i=.int .i64 (j:Nat)/\j<=m.eds.length/\Below V.heap.size V wr/\∃E,Bo V.heap.size wr r b1 b2 (AL m.pts (m.eds.take j)) E (C3 m.pts (m.eds.take j))) (fun i _=>m.eds.length-(intOf i).toNat)
 case atStart=>exact⟨0,rfl,by omega,eb,[],by simpa [AL,C3]using en'⟩
 case round=>
  obtain⟨j,rfl,hj,BV,E,hN⟩:=hrel;have Ac:Aa V wr:=BV;by_cases hlt:j<m.eds.length
  ·have hj0:(0:Int)<=(j:Int):=(by omega);have AV:(j:Int)<(m.eds.length:Int):=(by omega);obtain⟨b,o,rfl,hg1,hg2,hg3,hg4⟩:=To (hB.ext Ac) hlt;have DI:=Aj.keys hlt;have hne:=Aj.ne _ (AmY hlt);have hrg:=Aj.rng _ (AmY hlt);have hrl:=SZ m.pts (m.eds.take j);have S4:=Ww m.pts (m.eds.take j) m.eds[j];have S6:=Wx m.pts (m.eds.take j) m.eds[j];rw [←Ana hlt]at S4 S6;obtain⟨e,he⟩:=AmT (m.eds[j]);rw [←he]at hg1 hg2 hg3 hg4 DI hne hrg S4 S6;clear he;obtain⟨ef,NC⟩:∃n:Nat,e.f=(n:Int):=⟨e.f.toNat,by omega⟩;obtain⟨et,ND⟩:∃n:Nat,e.t=(n:Int):=⟨e.t.toNat,by omega⟩;have Pm:ef<m.pts.length:=(by omega);have Pn:et<m.pts.length:=(by omega);rw [NC]at hg1;rw [ND]at hg2;obtain⟨ba,oa,rfl,ha1,ha2⟩:=Cy (hA.ext Ac) Pm;obtain⟨b3,o3,J9,ZQ,ZR⟩:=Cy (hA.ext Ac) Pn;have rz:=AmU (Ai8 hA (by rw [flat_length];simp [Ao];omega));obtain⟨rfl,rfl⟩:ba=b3/\oa=o3:=by simpa using J9
   have hs:AY m.pts e=⟨m.pts[ef],m.pts[et]⟩:=by unfold AY Fe;rw [NC,ND];simp [Pm,Pn]
   obtain⟨pa,DK⟩:=AmT (m.pts[ef]);obtain⟨pb,IR⟩:=AmT (m.pts[et]);rw [←DK]at ha1 ha2 hs;rw [←IR]at ZQ ZR hs;rw [hs]at DI hne S4 S6;have f0:(0:Int)<=(ef:Int):=(by omega);have f1:(ef:Int)<(m.pts.length:Int):=(by omega);have f2:(0:Int)<=(et:Int):=(by omega);have f3:(et:Int)<(m.pts.length:Int):=(by omega);have hx1:=(Aa.refl wr).alloc (.cells #[.int .i64 (ef:Nat),.int .i64 (et:Nat),.int .i64 e.l,.int .i64 e.r] 126);have CZ:=AmW wr (.cells #[.int .i64 (ef:Nat),.int .i64 (et:Nat),.int .i64 e.l,.int .i64 e.r] 126);have Iw:=AmU S4;have wu:=AmU S6;clear S4 S6 hs DK IR J9 hrg NC ND
   go_upto_region 5 with fail
   have Gm:=(hN.ext hx1).ext (Aa.refl _).drew;have Ep:=N5 _ (Ac.trans hx1);have k1:=hx1.cellS ha1;have k2:=hx1.cellS ha2;have k3:=hx1.cellS ZQ;have k4:=hx1.cellS ZR;have vS:=Ac.trans hx1;generalize wr.alloc (.cells #[.int .i64 (ef:Nat),.int .i64 (et:Nat),.int .i64 e.l,.int .i64 e.r] 126)=W1 at *;obtain⟨be,uH⟩:=AmT wr.heap.size;rw [←uH]at CZ ⊢;clear uH ha1 ha2 ZQ ZR hg1 hg2 hg3 hg4;have ad:=Yi Gm (by have:=vS.size;show V.heap.size<=W1.heap.size;exact this) ⟨pa,pb⟩ e.l e.r DI.1 DI.2 hne (fun x hx=>by have:=hrl x hx;rw [List.length_take]at this;omega);unfold As at ad
   have SO:∀w',Aa W1 w'→(w'.cell? ⟨bm,0,none⟩=some (.slice (some ⟨ba,oa,none⟩) m.pts.length c)/\w'.cell? ⟨be,0,none⟩=some (.int .i64 (ef:Nat))/\w'.cell? ⟨be,1,none⟩=some (.int .i64 (et:Nat))/\w'.cell? ⟨be,2,none⟩=some (.int .i64 e.l)/\w'.cell? ⟨be,3,none⟩=some (.int .i64 e.r)/\w'.cell? ⟨ba,oa+ef*2,none⟩=some (S (R pa.x))/\w'.cell? ⟨ba,oa+ef*2+1,none⟩=some (S (R pa.y))/\w'.cell? ⟨ba,oa+et*2,none⟩=some (S (R pb.x))/\w'.cell? ⟨ba,oa+et*2+1,none⟩=some (S (R pb.y))):=fun w' h=>⟨h.cellS (Ab Ep rfl),h.cellS (Ab CZ rfl),h.cellS (Ab CZ rfl),h.cellS (Ab CZ rfl),h.cellS (Ab CZ rfl),h.cellS k1,h.cellS k2,h.cellS k3,h.cellS k4⟩
   have Wu:be≠b1:=(by intro e;have q:=Gm.left;rw [←e]at q;cases (show W1.heap[be]?=_ from q).symm.trans CZ);have Wv:be≠b2:=(by intro e;have q:=Gm.ar.blk;rw [←e]at q;cases (show W1.heap[be]?=_ from q).symm.trans CZ);have Aq:ba<V.heap.size:=rz.out;have X:Aa W1 W1:=Aa.refl W1;have Xd:=X.drew
   go_region_held3 (fun w'=>w'.cell? ⟨bm,0,none⟩=some (.slice (some ⟨ba,oa,none⟩) m.pts.length c)/\w'.cell? ⟨be,0,none⟩=some (.int .i64 (ef:Nat))/\w'.cell? ⟨be,1,none⟩=some (.int .i64 (et:Nat))/\w'.cell? ⟨be,2,none⟩=some (.int .i64 e.l)/\w'.cell? ⟨be,3,none⟩=some (.int .i64 e.r)/\w'.cell? ⟨ba,oa+ef*2,none⟩=some (S (R pa.x))/\w'.cell? ⟨ba,oa+ef*2+1,none⟩=some (S (R pa.y))/\w'.cell? ⟨ba,oa+et*2,none⟩=some (S (R pb.x))/\w'.cell? ⟨ba,oa+et*2+1,none⟩=some (S (R pb.y)))
    (first|with_reducible exact SO _ Xd|exact S5)
    (first|((with_reducible refine ad.mono ?_);rintro _ w5 ⟨rfl,hb5,hs5,E5,N6⟩;have S5:(w5.cell? ⟨bm,0,none⟩=some (.slice (some ⟨ba,oa,none⟩) m.pts.length c)/\w5.cell? ⟨be,0,none⟩=some (.int .i64 (ef:Nat))/\w5.cell? ⟨be,1,none⟩=some (.int .i64 (et:Nat))/\w5.cell? ⟨be,2,none⟩=some (.int .i64 e.l)/\w5.cell? ⟨be,3,none⟩=some (.int .i64 e.r)/\w5.cell? ⟨ba,oa+ef*2,none⟩=some (S (R pa.x))/\w5.cell? ⟨ba,oa+ef*2+1,none⟩=some (S (R pa.y))/\w5.cell? ⟨ba,oa+et*2,none⟩=some (S (R pb.x))/\w5.cell? ⟨ba,oa+et*2+1,none⟩=some (S (R pb.y))):=⟨Ab ((hb5.block bm Ph).trans Ep) rfl,Ab (hs5 be _ CZ Wu Wv (by intro cs e;cases e)) rfl,Ab (hs5 be _ CZ Wu Wv (by intro cs e;cases e)) rfl,Ab (hs5 be _ CZ Wu Wv (by intro cs e;cases e)) rfl,Ab (hs5 be _ CZ Wu Wv (by intro cs e;cases e)) rfl,Um hb5 Aq k1,Um hb5 Aq k2,Um hb5 Aq k3,Um hb5 Aq k4⟩))
   have UK:=Iw.out▸wu.out▸N6;have ID:Below V.heap.size V w5:=Below.trans (Aa.drew vS) hb5;have rx:=AmU ID;clear SO S5 X Xd ad hb5 hs5 ID;go_wp2;go_roundw
   case rel=>exact⟨j+1,by go_num,hlt,rx.out,E5,UK⟩
   case measure=>simp [intOf];omega
  ·have bK:(m.eds.length:Int)<=(j:Int):=(by omega);obtain rfl:j=m.eds.length:=(by omega);rw [Ang (AmX _)]at hN;have HN:=AmU hN;have HE:=AmU (hE.trans Ac);have HS:=AmU hE.size;clear hN Ac BV;go_wp2;go_ret;have hN:=HN.out;exact⟨r,b1,b2,E,rfl,HE.out,⟨hN.cell,hN.left,⟨hN.ar.blk,hN.ar.len,fun i hi hi'=>⟨(hN.ar.row i hi hi').1,(hN.ar.row i hi hi').2.1,i7 (hN.ar.row i hi hi').2.2 HS.out⟩,hN.ar.apart,Ani HS.out hN.ar.own⟩,Ani HS.out hN.r0,Ani HS.out hN.r1,hN.ne⟩⟩
end Go.Proofs.YtbejphgbbpplbaaGreatDoor
namespace Go.Proofs.YtbejphgbbpplbaaGreatDoor
open Go.RowKit Kl
def J2(R0:List (Pt×List Pt))(p:Pt):Nat:=match R0.find? (fun e=>Ap p e.1)with|some e=>e.2.length|none=>0
theorem Ac6{E:List (Pt×Value×Nat)}{R0:List (Pt×List Pt)}{B:Nat}{W:World}{b2:Nat}(h:Du B W b2 E R0)(p:Pt) :
  (∃A c,Fb Ap (.slice none 0 0) p E=.slice A (J2 R0 p) c):=by
 have Da:=YY h.len (fun i h1 h2=>(h.row i h1 h2).1) p;unfold Fb J2
 cases hf:R0.findIdx? (fun e=>Ap p e.1)with
 | none=>
  rw [hf]at Da
  have e1:E.find? (fun e=>Ap p e.1)=none:=by rw [List.find?_eq_none];rw [List.findIdx?_eq_none_iff]at Da;intro x hx;rw [Da x hx];simp
  have e2:R0.find? (fun e=>Ap p e.1)=none:=by rw [List.find?_eq_none];rw [List.findIdx?_eq_none_iff]at hf;intro x hx;rw [hf x hx];simp
  rw [e1,e2];exact⟨none,0,rfl⟩
 | some j=>
  rw [hf]at Da;rw [List.findIdx?_eq_some_iff_getElem]at Da hf;obtain⟨hj,h1,h2⟩:=Da;obtain⟨hj',h3,h4⟩:=hf
  have e1:E.find? (fun e=>Ap p e.1)=some E[j]:=by rw [List.find?_eq_some_iff_getElem];exact⟨h1,j,hj,rfl,fun i hi=>by have:=h2 i hi;simpa using this⟩
  have e2:R0.find? (fun e=>Ap p e.1)=some R0[j]:=by rw [List.find?_eq_some_iff_getElem];exact⟨h3,j,hj',rfl,fun i hi=>by have:=h4 i hi;simpa using this⟩
  rw [e1,e2]
  rcases(h.row j hj hj').2.2.2 with⟨hv,hn⟩|⟨g,cap,cur,hv,_⟩
  ·simp only;rw [hv,hn];exact⟨none,0,rfl⟩
  ·simp only;rw [hv];exact⟨_,_,rfl⟩
theorem Ac0{B:Nat}{w:World}{r b1 b2:Nat}{L:List (Sg×Int)}{E:List (Pt×Value×Nat)}{R0:List (Pt×List Pt)}(h:Bo B w r b1 b2 L E R0)(bn:Nat)(BR:w.cell? ⟨bn,0,none⟩=some (.pointer (some ⟨r,0,none⟩)))(p:Pt) :
  Calls Tryz.prog 83 #[Ak p,.pointer (some ⟨bn,0,none⟩)] w (BC (decide (J2 R0 p<2)) w):=by
 have hE:=(Aa.refl w).alloc (.cells #[S (R p.x),S (R p.y)] 94);have hb0:=AmW w (.cells #[S (R p.x),S (R p.y)] 94);have hN:=h.ext hE;obtain⟨A,c,hv⟩:=Ac6 h.ar p;have uP:=hE.cellS BR;obtain⟨x,hx⟩:=AmT (decide (J2 R0 p<2));rw [←hx];have HX:=AmU (show x=decide ((J2 R0 p:Int)<2)by rw [hx];simp;omega);unfold Ak;clear hx;go_enter Tryz.func83,Tryz.ntmps83
 go_upto_region 1 with fail
 generalize w.alloc (.cells #[S (R p.x),S (R p.y)] 94)=V at *;obtain⟨bp,Bu⟩:=AmT w.heap.size;rw [←Bu]at hb0 ⊢;clear Bu;have q1:∀q:Af V,q.w.cell? ⟨bn,0,none⟩=some (.pointer (some ⟨r,0,none⟩)):=Af.cell uP;have q2:∀q:Af V,q.w.cell? ⟨r,1,none⟩=some (.map (some b2)):=Af.cell (Ab hN.cell rfl);have q3:∀q:Af V,q.w.cell? ⟨bp,0,none⟩=some (S (R p.x)):=Af.cell (Ab hb0 rfl);have q4:∀q:Af V,q.w.cell? ⟨bp,1,none⟩=some (S (R p.y)):=Af.cell (Ab hb0 rfl)
 have q5:∀q:Af V,(Instr.lookup 132 (.map (some b2)) (Ak p) false).run Tryz.prog q.w=.ok (.slice A (J2 R0 p) c) q.w:=fun q=>by rw [Qj PK p E (W:=q.w) ((q.h.block b2 hN.ar.lt).trans hN.ar.blk),hv]
 unfold Ak at q5;clear uP hb0 hN h BR hv;refine F3 (by kernel_rfl) (by kernel_rfl) ?_
 repeat (go_big_quiet_step (fail))
 refine wpQuiet_nil ?_;rintro _ ⟨q,rfl⟩;go_wp2;go_ret;exact⟨by rw [HX.out];rfl,hE.trans q.h⟩
section
open Go.Sort
theorem Nt{w a b:World}{r:Nat}(h:Aa w a)(hg:a.grownBy b (some r))(hr:w.heap.size<=r):Aa w b:=
 ⟨hg.os.trans h.os,hg.tape.trans h.tape,hg.output.trans h.output,Ani h.size hg.size,fun k hk=>(hg.block k (Anh hk h.size) (by simp;omega)).trans (h.block k hk)⟩
section
variable {α : Type} [Inhabited α]
theorem OR(enc:α→List Value)(k:Nat)(w:World)(blk off m:Nat)(dk:Array α)(os:Array Obj):w.grownBy (sortWorldK enc k w blk off m dk os) (some blk):=by
 refine⟨rfl,rfl,rfl,?_,fun i hi hne=>?_⟩
 ·exact size_sortWorldK_c enc k w blk off m dk os
 ·have hb:i≠blk:=fun e=>hne (by rw [e]);show ((w.heap.modify blk _)++os)[i]?=w.heap[i]?;rw [Array.getElem?_append_left (by simpa using hi),Array.getElem?_modify,if_neg (fun e=>hb e.symm)]
theorem eI{g:Nat}{cb:Array Value}{enc:α→List Value}{k:Nat}{cf:α→α→Int}{blk off size:Nat}{w:World}
  (h:∀W,w.grownBy W (some blk)→∀x y,Calls Tryz.prog g (#[.agg (enc x).toArray,.agg (enc y).toArray]++cb) W (AA (cf x y) W)):CmpLays Tryz.prog g cb enc k cf blk off size w:=by
 intro m os dk _ x y;refine(Calls.drawn (h _ (OR enc k w blk off m dk os) x y) (fun e w' h=>⟨_,h.1⟩)).mono ?_;rintro e w' ⟨⟨he,hx⟩,hd⟩;exact⟨he,hx.grow hd⟩
theorem Aj4(enc:α→List Value)(k:Nat)(w:World)(blk off m:Nat)(dk:Array α)(os:Array Obj){c:Array Value}{e:TypeId}{fr:Nat×Nat}(h:w.heap[blk]?=some (.cells c e fr)) :
  (sortWorldK enc k w blk off m dk os).heap[blk]?=some (.cells (putCells id off (flatK enc k dk) c) e fr):=by
 have hlt:=AmV h;show ((w.heap.modify blk (onCells (putCells id off (flatK enc k dk))))++os)[blk]?=_;rw [Array.getElem?_append_left (by simpa using hlt),Array.getElem?_modify,if_pos rfl,h]
 rfl
end
theorem Za{α:Type}{enc:α→List Value}{k:Nat}(hk:∀x,(enc x).length=k):∀(l:List α),(l.flatMap enc).length=l.length*k
 | []=>by simp
 | x::l=>by rw [List.flatMap_cons,List.length_append,hk,Za hk l,List.length_cons,Nat.add_mul,Nat.one_mul,Nat.add_comm]
section
variable {α : Type} [Inhabited α] {enc : α → List Value} {k : Nat}
theorem U6(hk:∀x,(enc x).length=k)(k0:0<k):∀(l:List α) (t:Nat),t<l.length*k→(l.flatMap enc)[t]?=some ((enc l[t/k]!)[t%k]!)
 | [],t,h=>by simp at h
 | x::l,t,h=>by
  rw [List.flatMap_cons];by_cases ht:t<k
  ·rw [List.getElem?_append_left (by rw [hk];exact ht),Nat.div_eq_of_lt ht,Nat.mod_eq_of_lt ht,Anc (by rw [hk];exact ht)];simp [hk,ht]
  ·have e1:t/k=(t-k)/k+1:=by rw [Nat.div_eq_sub_div k0 (by omega)]
   have e2:t%k=(t-k)%k:=by rw [Nat.mod_eq_sub_mod (by omega)]
   have hl:t-k<l.length*k:=by rw [List.length_cons,Nat.add_mul,Nat.one_mul]at h;omega
   rw [List.getElem?_append_right (by rw [hk];omega),hk,U6 hk k0 l (t-k) hl,e1,e2];simp
theorem rH(hk:∀x,(enc x).length=k)(k0:0<k)(d:Array α):(flatK enc k d).toList=d.toList.flatMap enc:=by
 apply List.ext_getElem?;intro t;by_cases ht:t<d.size*k
 ·rw [U6 hk k0 _ _ (by simpa using ht)];have h1:t<(flatK enc k d).toList.length:=(by simpa using ht);have h2:=get_flatK enc k d t ht;rw [Anc h1]
  have h3:(flatK enc k d)[t]! = (flatK enc k d).toList[t]:=by rw [getElem!_pos _ t (by simpa using ht)];simp
  rw [←h3,h2]
  congr 1
  have h4:d[t/k]! = d.toList[t/k]!:=by have hlt:t/k<d.size:=Nat.div_lt_of_lt_mul (by rw [Nat.mul_comm];exact ht);rw [getElem!_pos d _ hlt,getElem!_pos d.toList _ (by simpa using hlt)];simp
  rw [h4]
 ·rw [List.getElem?_eq_none (by simp;omega),List.getElem?_eq_none (by rw [Za hk];simp;omega)]
theorem cI{w:World}{base:Nat}{e:TypeId}{v:Value}{d:Array α}(hk:∀x,(enc x).length=k)(k0:0<k)(h:w.ownsRow base e k v d.size (d.toList.flatMap enc))(hd:0<d.size) :
  ∃g cap,v=.slice (some ⟨g,0,none⟩) d.size cap/\base<=g/\g<w.heap.size/\HoldsK enc k w g 0 d/\v.ownBlock=some g:=by
 rcases h.2 with⟨_,h0⟩|⟨g,cap,cur,rfl,hb,hg,hn,hm,hs,ht⟩
 ·omega
 ·refine⟨g,cap,rfl,hb,AmV hg,?_,rfl⟩;intro j hj;rw [size_flatK]at hj;have Mt:j<d.toList.length*k:=(by simpa using hj);have h1:=U6 hk k0 d.toList j Mt;rw [←rH hk k0]at h1
  have h2:(flatK enc k d)[j]! = (enc d.toList[j/k]!)[j%k]!:=by rw [getElem!_pos _ j (by simpa using hj)];rw [Anc (by simpa using hj),Anb]at h1;rw [←h1];simp
  have h3:cur.toList[j]?=some ((flatK enc k d)[j]!):=by have h4:=U6 hk k0 d.toList j Mt;rw [←ht,List.getElem?_take_of_lt (by rw [Nat.mul_comm]at hj ⊢;omega)]at h4;rw [h4,h2]
  refine⟨?_,?_⟩
  ·rw [Nat.zero_add];refine Ab hg ?_;rw [←Array.getElem?_toList];exact h3
  ·rw [Nat.zero_add];exact AU hg
theorem Ti{w:World}{base:Nat}{e:TypeId}{g cap:Nat}{d d':Array α}(hk:∀x,(enc x).length=k)(k0:0<k)(h:w.ownsRow base e k (.slice (some ⟨g,0,none⟩) d.size cap) d.size (d.toList.flatMap enc))(hd:d'.size=d.size)(m:Nat)(os:Array Obj) :
  (sortWorldK enc k w g 0 m d' os).ownsRow base e k (.slice (some ⟨g,0,none⟩) d.size cap) d.size (d'.toList.flatMap enc):=by
 rcases h.2 with⟨h',_⟩|⟨g',cap',cur,hv,hb,hg,hn,hm,hs,ht⟩
 ·cases h'
 ·simp only [Value.slice.injEq,Anb,Addr.mk.injEq,and_true,true_and]at hv;obtain⟨rfl,rfl⟩:=hv;have hF:(flatK enc k d').size=d.size*k:=(by rw [size_flatK,hd]);have hle:d.size*k<=cur.size:=(by rw [hs];exact Nat.mul_le_mul_right k hn);refine⟨?_,.inr ⟨g,cap,_,rfl,hb,Aj4 enc k w g 0 m d' os hg,hn,hm,?_,?_⟩⟩
  ·rw [Za hk];simp [hd]
  ·unfold putCells;simpa using hs
  ·rw [←rH hk k0];apply List.ext_getElem?;intro t;by_cases Ef:t<d.size*k
   ·rw [List.getElem?_take_of_lt Ef,Array.getElem?_toList];unfold putCells;rw [Array.getElem?_mapIdx,Array.getElem?_eq_getElem (by omega)];simp only [Option.map_some,Nat.zero_le,true_and,Nat.zero_add,Nat.sub_zero];rw [if_pos (by omega),Array.getElem?_toList,Array.getElem?_eq_getElem (by omega)];rw [getElem!_pos _ t (by omega)]
    rfl
   ·rw [List.getElem?_eq_none (by rw [List.length_take];omega),List.getElem?_eq_none (by simp [hd];omega)]
end
end
section
open Go.Sort
def Fx(s t:Sg):Int:=if AW s.a t.a≠0 then AW s.a t.a else AW s.b t.b
theorem Abf(s t:Sg){k:Nat}(hs:Ei k s)(ht:Ei k t)(hk:0<k)(hk2:k<=400)(w:World)(hw:An w) :
  Calls Tryz.prog 109 #[As s,As t] w (AA (Fx s t) w):=by
 have c1:=Il s.a t.a hs.a ht.a hk hk2;have c2:=Il s.b t.b hs.b ht.b hk hk2;have hE:=((Aa.refl w).alloc (.cells #[S (R s.a.x),S (R s.a.y),S (R s.b.x),S (R s.b.y)] 155)).alloc (.cells #[S (R t.a.x),S (R t.a.y),S (R t.b.x),S (R t.b.y)] 155);obtain⟨x,hx0⟩:=AmT (AW s.a t.a);obtain⟨y,Bh⟩:=AmT (AW s.b t.b)
 have hr:Fx s t=if x≠0 then x else y:=by rw [hx0,Bh];rfl
 rw [hr];rw [←hx0]at c1;rw [←Bh]at c2
 have hA:(w.alloc (.cells #[S (R s.a.x),S (R s.a.y),S (R s.b.x),S (R s.b.y)] 155)).alloc (.cells #[S (R t.a.x),S (R t.a.y),S (R t.b.x),S (R t.b.y)] 155) |>.heap[w.heap.size]?=some (.cells #[S (R s.a.x),S (R s.a.y),S (R s.b.x),S (R s.b.y)] 155):=(Below.heap_alloc _ _ _ (by simp)).trans (AmW w _)
 have hB:=AmW (w.alloc (.cells #[S (R s.a.x),S (R s.a.y),S (R s.b.x),S (R s.b.y)] 155)) (.cells #[S (R t.a.x),S (R t.a.y),S (R t.b.x),S (R t.b.y)] 155);rw [Anf]at hB;obtain⟨r,FW⟩:=AmT (if x≠0 then x else y:Int);rw [←FW]
 have MJ:∀(b o:Nat) (w:World),w.cell? ⟨b,o,none⟩=some (.int .i64 x)→w.cell? ⟨b,o+1,none⟩=some (.int .i64 y)→Calls Tryz.prog 98 #[.slice (some ⟨b,o,none⟩) 2 2] w (AA r w):=by intro b o w h1 h2;rw [FW];exact WE x y b o w h1 h2
 unfold Ak at c1 c2;unfold As;clear hs ht hr hx0 Bh FW;go_enter Tryz.func109,Tryz.ntmps109
 go_upto_region 1 with fail
 generalize (w.alloc (.cells #[S (R s.a.x),S (R s.a.y),S (R s.b.x),S (R s.b.y)] 155)).alloc (.cells #[S (R t.a.x),S (R t.a.y),S (R t.b.x),S (R t.b.y)] 155)=V at *;have hs:=hE.size;obtain⟨ba,Aq⟩:=AmT w.heap.size;rw [←Aq]at hA hB ⊢;clear Aq hs
 have SO:∀w',Aa V w'→(w'.cell? ⟨ba,0,none⟩=some (S (R s.a.x))/\w'.cell? ⟨ba,1,none⟩=some (S (R s.a.y))/\w'.cell? ⟨ba,2,none⟩=some (S (R s.b.x))/\w'.cell? ⟨ba,3,none⟩=some (S (R s.b.y))/\w'.cell? ⟨ba+1,0,none⟩=some (S (R t.a.x))/\w'.cell? ⟨ba+1,1,none⟩=some (S (R t.a.y))/\w'.cell? ⟨ba+1,2,none⟩=some (S (R t.b.x))/\w'.cell? ⟨ba+1,3,none⟩=some (S (R t.b.y))):=fun w' h=>⟨h.cellS (Ab hA rfl),h.cellS (Ab hA rfl),h.cellS (Ab hA rfl),h.cellS (Ab hA rfl),h.cellS (Ab hB rfl),h.cellS (Ab hB rfl),h.cellS (Ab hB rfl),h.cellS (Ab hB rfl)⟩
 have X0:Aa V V.drew:=(Aa.refl V).drew;have hV:=hw.ext hE;clear hA hB
 go_region_held3 (fun w'=>w'.cell? ⟨ba,0,none⟩=some (S (R s.a.x))/\w'.cell? ⟨ba,1,none⟩=some (S (R s.a.y))/\w'.cell? ⟨ba,2,none⟩=some (S (R s.b.x))/\w'.cell? ⟨ba,3,none⟩=some (S (R s.b.y))/\w'.cell? ⟨ba+1,0,none⟩=some (S (R t.a.x))/\w'.cell? ⟨ba+1,1,none⟩=some (S (R t.a.y))/\w'.cell? ⟨ba+1,2,none⟩=some (S (R t.b.x))/\w'.cell? ⟨ba+1,3,none⟩=some (S (R t.b.y)))
  (first|with_reducible exact SO _ X0|with_reducible exact SO _ X5|with_reducible exact SO _ X6|with_reducible exact SO _ X7|with_reducible exact SO _ (X6.alloc _))
  (first|((with_reducible refine(c1 _ (hV.ext X0)).mono ?_);rintro e w5 ⟨rfl,Ad⟩;have X5:Aa V w5:=X0.trans Ad)|((with_reducible refine(c2 _ (hV.ext X5)).mono ?_);rintro e w6 ⟨rfl,AC⟩;have X6:Aa V w6:=X5.trans AC;have CJ:=AmW w6 (.cells #[.int .i64 x,.int .i64 y] 3);have g0:=Ab (o:=0) CJ rfl;have g1:=Ab (o:=1) CJ rfl;clear CJ)|((with_reducible refine(MJ w6.heap.size 0 _ g0 g1).mono ?_);rintro e w7 ⟨rfl,AG⟩;have X7:Aa V w7:=(X6.alloc _).trans AG))
 go_wp2;go_ret;exact⟨rfl,hE.trans X7⟩
end
section
open Go.Sort
theorem Uu(p q:Rat):AN p q<0↔p<q:=by unfold AN;grind
theorem YF(p q:Rat):AN p q=0↔p=q:=by unfold AN;grind
theorem Agd(a b:Pt):AW a b=0↔a.x=b.x/\a.y=b.y:=by
 unfold AW;have h1:=YF a.x b.x;have h2:=YF a.y b.y
 split<;>grind
theorem PN(a b:Pt):AW a b<0↔a.x<b.x∨(a.x=b.x/\a.y<b.y):=by
 unfold AW;have h1:=YF a.x b.x;have h2:=Uu a.x b.x;have h3:=Uu a.y b.y
 split<;>grind
theorem PO(s t:Sg):Fx s t<0↔s.a.x<t.a.x∨(s.a.x=t.a.x/\(s.a.y<t.a.y∨(s.a.y=t.a.y/\(s.b.x<t.b.x∨(s.b.x=t.b.x/\s.b.y<t.b.y))))):=by
 unfold Fx;have h1:=Agd s.a t.a;have h2:=PN s.a t.a;have h3:=PN s.b t.b
 split<;>grind
def QI(s:Sg):Prop:=Ei 200 s
theorem mh:QI ⟨⟨0,0⟩,⟨0,0⟩⟩:=by
 have h:Sz 200 (0:Rat):=(by constructor<;>decide +kernel);exact⟨⟨h,h⟩,⟨h,h⟩⟩
abbrev Way:={s:Sg // QI s}
instance:Inhabited Way:=⟨⟨_,mh⟩⟩
def Ha(s t:Way):Int:=Fx s.1 t.1
theorem qm(s t:Way):ltOf Ha s t=true↔s.1.a.x<t.1.a.x∨(s.1.a.x=t.1.a.x/\(s.1.a.y<t.1.a.y∨(s.1.a.y=t.1.a.y/\(s.1.b.x<t.1.b.x∨(s.1.b.x=t.1.b.x/\s.1.b.y<t.1.b.y))))):=by
 unfold ltOf Ha;rw [decide_eq_true_iff];exact PO _ _
theorem jN(s t:Way):ltOf Ha s t=false↔¬(s.1.a.x<t.1.a.x∨(s.1.a.x=t.1.a.x/\(s.1.a.y<t.1.a.y∨(s.1.a.y=t.1.a.y/\(s.1.b.x<t.1.b.x∨(s.1.b.x=t.1.b.x/\s.1.b.y<t.1.b.y)))))):=by
 rw [←qm];simp
theorem qo:SWO (ltOf Ha) where
 irrefl x:=by rw [jN];grind
 trans x y z h1 h2:=by rw [qm]at *;grind
 ntrans x y z h1 h2:=by rw [jN]at *;grind
theorem Ak5(x y:Way)(h1:ltOf Ha x y=false)(h2:ltOf Ha y x=false):x=y:=by
 rw [jN]at h1 h2;obtain⟨⟨⟨a,b⟩,⟨c,d⟩⟩,hx⟩:=x;obtain⟨⟨⟨a',b'⟩,⟨c',d'⟩⟩,hy⟩:=y;simp only [Subtype.mk.injEq,Sg.mk.injEq,Pt.mk.injEq]at *
 grind
def Gi(s:Way):List Value:=[S (R s.1.a.x),S (R s.1.a.y),S (R s.1.b.x),S (R s.1.b.y)]
theorem U4(s:Way):(Gi s).length=4:=rfl
theorem Acb(s:Way):∀v∈Gi s,v.oneCell'=true:=by
 intro v hv;simp only [Gi,List.mem_cons,Anj,or_false]at hv
 rcases hv with rfl|rfl|rfl|rfl<;>rfl
theorem Ak4{w0 w:World}(hw:An w0)(hx:Aa w0 w){blk:Nat}(hb:w0.heap.size<=blk)(off size:Nat):CmpLays Tryz.prog 109 #[] Gi 4 Ha blk off size w:=by
 refine eI fun W hg x y=>?_;have h:=Abf x.1 y.1 x.2 y.2 (by omega) (by omega) W (hw.ext (Nt hx hg hb));exact h
end
def BE(s:Sg)(x:Rat):Rat:=s.a.y+(x-s.a.x)/(s.b.x-s.a.x)*(s.b.y-s.a.y)
theorem AdR(s:Sg)(x:Rat){k:Nat}(hs:Ei k s)(hx:Sz k x)(hk:0<k)(hk2:k<=400)(h0:s.b.x≠s.a.x)(w:World)(hw:An w) :
  Calls Tryz.prog 288 #[As s,S (R x)] w (Bc (R (BE s x)) w):=by
 have s1:=GX x s.a.x (a:=k) (b:=k) ⟨hx,hs.a.x,hk,hk,by omega⟩;have s2:=GX s.b.x s.a.x (a:=k) (b:=k) ⟨hs.b.x,hs.a.x,hk,hk,by omega⟩;have dv:=Aiy (x-s.a.x) (s.b.x-s.a.x) (by grind) (a:=k+k+1) (b:=k+k+1) ⟨hx.sub hs.a.x,hs.b.x.sub hs.a.x,by omega,by omega,by omega⟩;have s3:=GX s.b.y s.a.y (a:=k) (b:=k) ⟨hs.b.y,hs.a.y,hk,hk,by omega⟩;have mu:=Qf ((x-s.a.x)/(s.b.x-s.a.x)) (s.b.y-s.a.y) (a:=k+k+1+(k+k+1)) (b:=k+k+1) ⟨(hx.sub hs.a.x).div (by omega) (hs.b.x.sub hs.a.x),hs.b.y.sub hs.a.y,by omega,by omega,by omega⟩;have ad:=iC s.a.y ((x-s.a.x)/(s.b.x-s.a.x)*(s.b.y-s.a.y)) (a:=k) (b:=k+k+1+(k+k+1)+(k+k+1)) ⟨hs.a.y,((hx.sub hs.a.x).div (by omega) (hs.b.x.sub hs.a.x)).mul (hs.b.y.sub hs.a.y),by omega,by omega,by omega⟩;have e:BE s x=s.a.y+(x-s.a.x)/(s.b.x-s.a.x)*(s.b.y-s.a.y):=rfl;rw [←e]at ad;obtain⟨r,hr⟩:=AmT (BE s x);rw [←hr]at ad ⊢;unfold As;unfold WQ at dv;clear hs hx e hr;go_enter Tryz.func288,Tryz.ntmps288
 go_upto_region 1 with fail
 have hb:=AmW w (.cells #[S (R s.a.x),S (R s.a.y),S (R s.b.x),S (R s.b.y)] 155);have hE:=(Aa.refl w).alloc (.cells #[S (R s.a.x),S (R s.a.y),S (R s.b.x),S (R s.b.y)] 155);obtain⟨W,hW⟩:=AmT (w.alloc (.cells #[S (R s.a.x),S (R s.a.y),S (R s.b.x),S (R s.b.y)] 155));rw [←hW]at hb hE ⊢;clear hW;obtain⟨ba,Aq⟩:=AmT w.heap.size;rw [←Aq]at hb ⊢;clear Aq
 have SO:∀w',Aa W w'→(w'.cell? ⟨ba,0,none⟩=some (S (R s.a.x))/\w'.cell? ⟨ba,1,none⟩=some (S (R s.a.y))/\w'.cell? ⟨ba,2,none⟩=some (S (R s.b.x))/\w'.cell? ⟨ba,3,none⟩=some (S (R s.b.y))):=fun w' h=>⟨h.cellS (Ab hb rfl),h.cellS (Ab hb rfl),h.cellS (Ab hb rfl),h.cellS (Ab hb rfl)⟩
 have CB:=hw.ext hE;have X:Aa W W:=Aa.refl W;clear hb
 go_region_held3 (fun w'=>w'.cell? ⟨ba,0,none⟩=some (S (R s.a.x))/\w'.cell? ⟨ba,1,none⟩=some (S (R s.a.y))/\w'.cell? ⟨ba,2,none⟩=some (S (R s.b.x))/\w'.cell? ⟨ba,3,none⟩=some (S (R s.b.y)))
  (first|with_reducible exact SO _ X|with_reducible exact SO _ X.drew)
  (first|((with_reducible refine(s1 _ (CB.ext (by first|exact X|exact X.drew))).mono ?_);rintro e w1 ⟨rfl,hx1⟩;replace X:Aa W w1:=(by first|exact X.trans hx1|exact X.drew.trans hx1))|((with_reducible refine(s2 _ (CB.ext (by first|exact X|exact X.drew))).mono ?_);rintro e w1 ⟨rfl,hx1⟩;replace X:Aa W w1:=(by first|exact X.trans hx1|exact X.drew.trans hx1))|((with_reducible refine(dv _ (CB.ext (by first|exact X|exact X.drew))).mono ?_);rintro e w1 ⟨rfl,hx1⟩;replace X:Aa W w1:=(by first|exact X.trans hx1|exact X.drew.trans hx1)))
 go_upto_region 2 with fail
 go_region_held3 (fun w'=>w'.cell? ⟨ba,0,none⟩=some (S (R s.a.x))/\w'.cell? ⟨ba,1,none⟩=some (S (R s.a.y))/\w'.cell? ⟨ba,2,none⟩=some (S (R s.b.x))/\w'.cell? ⟨ba,3,none⟩=some (S (R s.b.y)))
  (first|with_reducible exact SO _ X|with_reducible exact SO _ X.drew)
  (first|((with_reducible refine(s3 _ (CB.ext (by first|exact X|exact X.drew))).mono ?_);rintro e w1 ⟨rfl,hx1⟩;replace X:Aa W w1:=(by first|exact X.trans hx1|exact X.drew.trans hx1))|((with_reducible refine(mu _ (CB.ext (by first|exact X|exact X.drew))).mono ?_);rintro e w1 ⟨rfl,hx1⟩;replace X:Aa W w1:=(by first|exact X.trans hx1|exact X.drew.trans hx1))|((with_reducible refine(ad _ (CB.ext (by first|exact X|exact X.drew))).mono ?_);rintro e w1 ⟨rfl,hx1⟩;replace X:Aa W w1:=(by first|exact X.trans hx1|exact X.drew.trans hx1)))
 go_wp2;go_ret;exact⟨rfl,hE.trans X⟩
theorem Ajg(l:List Sg):(BN l).length=l.length*4:=by
 induction l with
 | nil=>rfl
 | cons e l ih=>unfold BN at *;simp only [List.flatMap_cons,List.length_append,ih,List.length_cons,List.length_nil];omega
theorem ll:∀(l:List Sg) (j:Nat) (h:j<l.length),(BN l)[j*4]?=some (S (R l[j].a.x))/\(BN l)[j*4+1]?=some (S (R l[j].a.y))/\(BN l)[j*4+2]?=some (S (R l[j].b.x))/\(BN l)[j*4+3]?=some (S (R l[j].b.y))
 | e::l,0,_=>⟨rfl,rfl,rfl,rfl⟩
 | e::l,j+1,h=>by
  have ih:=ll l j (by simpa using h);have e0:BN (e::l)=S (R e.a.x)::S (R e.a.y)::S (R e.b.x)::S (R e.b.y)::BN l:=rfl;rw [e0];have e1:(j+1)*4=j*4+1+1+1+1:=(by omega);rw [e1]
  simpa using ih
theorem MO{w:World}{A:Option Addr}{l:List Sg}(hr:Ae w A (BN l)){j:Nat}(h:j<l.length):∃b o,A=some ⟨b,o,none⟩/\w.cell? ⟨b,o+j*4,none⟩=some (S (R l[j].a.x))/\w.cell? ⟨b,o+j*4+1,none⟩=some (S (R l[j].a.y))/\w.cell? ⟨b,o+j*4+2,none⟩=some (S (R l[j].b.x))/\w.cell? ⟨b,o+j*4+3,none⟩=some (S (R l[j].b.y)):=by
 have hl:=Ajg l;obtain⟨b,o,e,hcs⟩:=hr.ad (by omega);obtain⟨f1,f2,f3,f4⟩:=ll l j h;have g1:=hcs (j*4) (by omega);have g2:=hcs (j*4+1) (by omega);have g3:=hcs (j*4+2) (by omega);have g4:=hcs (j*4+3) (by omega);rw [Anc (by omega),Anb]at f1 f2 f3 f4;rw [f1]at g1;rw [f2,←Nat.add_assoc]at g2;rw [f3,←Nat.add_assoc]at g3;rw [f4,←Nat.add_assoc]at g4;exact⟨b,o,e,g1,g2,g3,g4⟩
def Fo(p:Pt)(l:List Sg):Rat:=l.foldl (fun s e=>s+Al p e.a e.b) 0
def LL:List Sg→Rat
 | []=>0
 | e::l=>Fo e.a (e::l)
theorem Aaa(p:Pt)(l:List Sg)(e:Sg):Fo p (l ++ [e])=Fo p l+Al p e.a e.b:=by simp [Fo]
theorem mP(p:Pt)(l:List Sg){j:Nat}(h:j<l.length):Fo p (l.take (j+1))=Fo p (l.take j)+Al p l[j].a l[j].b:=by
 rw [Ana h,Aaa]
theorem Aab(l:List Sg)(h:0<l.length):LL l=Fo l[0].a l:=by
 cases l with
 | nil=>simp at h
 | cons e l=>rfl
theorem Aac(l:List Sg)(A:Option Addr)(c:Nat){k K:Nat}(hl:∀e∈l,Ei k e)(hk:0<k)(hk2:k<=400)(hK:0<K)(hK2:K<=2000)(h0:0<l.length)
  (hS:∀j,j<=l.length→Sz K (Fo l[0].a (l.take j))) (hA:∀j (h:j<l.length),Sz (K-100) (Al l[0].a l[j].a l[j].b)) (hc:l.length<=c) (hcm:c<=9223372036854775807) (hK3:100<K) (w:World) (hw:An w) (hr:Ae w A (BN l)) :
  Calls Tryz.prog 234 #[.slice A l.length c] w (Bc (R (LL l)) w):=by
 obtain⟨b,o,rfl,q1,q2,-,-⟩:=MO hr h0;rw [Aab l h0];obtain⟨r,hr0⟩:=AmT (Fo l[0].a l);rw [←hr0];obtain⟨p,hp⟩:=AmT (l[0].a);have Mz:Ar k p:=(by rw [hp];exact(hl _ (AmY h0)).a);rw [←hp]at hr0 hS hA q1 q2;have HR:=AmU hr0;clear hr0 hp;rw [Nat.zero_mul,Nat.add_zero]at q1 q2;go_enter Tryz.func234,Tryz.ntmps234
 go_upto_region 3 with fail
 go_loopw [3,8] (fun s i wr=>∃j:Nat,i=.int .i64 (j:Nat)/\s=S (R (Fo p (l.take j)))/\j<=l.length/\Aa w wr) (fun _ i _=>l.length-(intOf i).toNat)
 case atStart=>exact⟨0,rfl,by rw [List.take_zero];show _=S (R 0);rw [Ki],by omega,Aa.refl _⟩
 case round=>
  obtain⟨j,rfl,rfl,hj,Ac⟩:=hrel;by_cases hlt:j<l.length
  ·obtain⟨b',o',K7,g1,g2,g3,g4⟩:=MO (hr.ext Ac) hlt;simp only [Anb,Addr.mk.injEq,and_true]at K7;obtain⟨rfl,rfl⟩:=K7;have p1:=Ac.cellS q1;have p2:=Ac.cellS q2;have ez:=hl _ (AmY hlt);have ar:=jd p l[j].a l[j].b Mz ez.a ez.b hk hk2;have ad:=iC (Fo p (l.take j)) (Al p l[j].a l[j].b) (a:=K) (b:=K-100) ⟨hS j hj,hA j hlt,hK,by omega,by omega⟩;rw [←mP p l hlt]at ad;obtain⟨e,he⟩:=AmT (l[j]);rw [←he]at g1 g2 g3 g4 ar ad;have hj0:(0:Int)<=(j:Int):=(by omega);have hl0:(0:Int)<(l.length:Int):=(by omega);have AV:(j:Int)<(l.length:Int):=(by omega);clear ez he;obtain⟨s,hs⟩:=AmT (Fo p (l.take j));obtain⟨s',hs'⟩:=AmT (Fo p (l.take (j+1)));rw [←hs,←hs']at ad;rw [←hs];have wl:=AmU hs';clear hs hs' hS hA hl q1 q2;unfold Ak at ar
   go_upto_region 5 with fail
   have hb:=AmW wr (.cells #[S (R e.a.x),S (R e.a.y),S (R e.b.x),S (R e.b.y)] 155);have hE:=(Aa.refl wr).alloc (.cells #[S (R e.a.x),S (R e.a.y),S (R e.b.x),S (R e.b.y)] 155);unfold S at hb hE;generalize (wr.alloc (.cells #[.string ⟨(R e.a.x).toArray⟩,.string ⟨(R e.a.y).toArray⟩,.string ⟨(R e.b.x).toArray⟩,.string ⟨(R e.b.y).toArray⟩] 155))=W at *;obtain⟨be,CZ⟩:=AmT wr.heap.size;rw [←CZ]at hb ⊢;clear CZ
   have SO:∀w',Aa W w'→(w'.cell? ⟨b,o,none⟩=some (S (R p.x))/\w'.cell? ⟨b,o+1,none⟩=some (S (R p.y))/\w'.cell? ⟨be,0,none⟩=some (S (R e.a.x))/\w'.cell? ⟨be,1,none⟩=some (S (R e.a.y))/\w'.cell? ⟨be,2,none⟩=some (S (R e.b.x))/\w'.cell? ⟨be,3,none⟩=some (S (R e.b.y))):=fun w' h=>⟨h.cellS (hE.cellS p1),h.cellS (hE.cellS p2),h.cellS (Ab hb rfl),h.cellS (Ab hb rfl),h.cellS (Ab hb rfl),h.cellS (Ab hb rfl)⟩
   have CB:=(hw.ext Ac).ext hE;have hx0:=Ac.trans hE;have X:Aa W W:=Aa.refl W;clear hb p1 p2 g1 g2 g3 g4
   go_region_held3 (fun w'=>w'.cell? ⟨b,o,none⟩=some (S (R p.x))/\w'.cell? ⟨b,o+1,none⟩=some (S (R p.y))/\w'.cell? ⟨be,0,none⟩=some (S (R e.a.x))/\w'.cell? ⟨be,1,none⟩=some (S (R e.a.y))/\w'.cell? ⟨be,2,none⟩=some (S (R e.b.x))/\w'.cell? ⟨be,3,none⟩=some (S (R e.b.y)))
    (first|with_reducible exact SO _ X|with_reducible exact SO _ X.drew)
    (first|((with_reducible refine(ar _ (CB.ext (by first|exact X|exact X.drew))).mono ?_);rintro e w1 ⟨rfl,hx1⟩;replace X:Aa W w1:=(by first|exact X.trans hx1|exact X.drew.trans hx1))|((with_reducible refine(ad _ (CB.ext (by first|exact X|exact X.drew))).mono ?_);rintro e w1 ⟨rfl,hx1⟩;replace X:Aa W w1:=(by first|exact X.trans hx1|exact X.drew.trans hx1)))
   go_wp2;go_roundw
   case rel=>exact⟨j+1,by go_num,by rw [wl.out],hlt,hx0.trans X⟩
   case measure=>simp [intOf];omega
  ·have hjn:j=l.length:=(by omega);have e:Fo p (l.take j)=r:=(by rw [HR.out,hjn,List.take_length]);rw [e];have hle:(l.length:Int)<=(j:Int):=(by omega);go_wp2;go_ret;exact⟨rfl,Ac⟩
theorem Du.look{E:List (Pt×Value×Nat)}{R0:List (Pt×List Pt)}{B:Nat}{W:World}{b2:Nat}(h:Du B W b2 E R0)(p:Pt){e:Pt×List Pt}(hf:R0.find? (fun e=>Ap p e.1)=some e) :
  ∃A c,Fb Ap (.slice none 0 0) p E=.slice A e.2.length c/\Ae W A (flat (Ao e.2))/\e.2.length<=c/\c<=9223372036854775807:=by
 have Da:=YY h.len (fun i h1 h2=>(h.row i h1 h2).1) p;obtain⟨h3,j,hj',h4,h5⟩:=List.find?_eq_some_iff_getElem.1 hf
 have hfj:R0.findIdx? (fun e=>Ap p e.1)=some j:=by rw [List.findIdx?_eq_some_iff_getElem];exact⟨hj',by rw [h4];exact h3,fun i hi=>by have:=h5 i hi;simpa using this⟩
 rw [hfj,List.findIdx?_eq_some_iff_getElem]at Da;obtain⟨hj,h1,h2⟩:=Da
 have e1:E.find? (fun e=>Ap p e.1)=some E[j]:=by rw [List.find?_eq_some_iff_getElem];exact⟨h1,j,hj,rfl,fun i hi=>by have:=h2 i hi;simpa using this⟩
 have ho:=(h.row j hj hj').2.2;rw [h4]at ho;obtain⟨A,c,hv,hr,g1,g2⟩:=Ae.of_own' (by omega) ho;refine⟨A,c,?_,hr,g1,g2⟩;unfold Fb;rw [e1];exact hv
theorem AgZ{j n:Nat}(h:j<n):∃m:Nat,m<n/\m=(j+n-1)%n/\Int.tmod ((j:Int)+n-1) n=(m:Int):=by
 refine⟨(j+n-1)%n,Nat.mod_lt _ (by omega),rfl,?_⟩;have e:(j:Int)+n-1=((j+n-1:Nat):Int):=(by omega);rw [e];exact(Int.ofNat_tmod _ _).symm
theorem AgY{B:Nat}{w:World}{r b1 b2:Nat}{L:List (Sg×Int)}{E:List (Pt×Value×Nat)}{R0:List (Pt×List Pt)}(h:Bo B w r b1 b2 L E R0)(s:Sg){e:Pt×List Pt}(hf:R0.find? (fun e=>Ap s.b e.1)=some e){j m:Nat}(hj:j<e.2.length)(hi:G1 e.2 s.a=(j:Int))(hm:m<e.2.length)(Sv:m=(j+e.2.length-1)%e.2.length)(hn:e.2.length<100000) :
  Calls Tryz.prog 232 #[.pointer (some ⟨r,0,none⟩),As s] w (CU (As ⟨s.b,e.2[m]⟩) w):=by
 obtain⟨A,c,hv,AO,hc1,hc2⟩:=h.ar.look s.b hf;obtain⟨m',hm',hme,htm⟩:=AgZ hj;rw [←Sv]at hme;subst hme;clear hm' Sv;obtain⟨p,hp⟩:=AmT (e.2[m']);rw [←hp];have ix:=fun W (hE:Aa w W)=>zY e.2 s.a A c W (AO.ext hE) hc1 hc2;rw [hi]at ix;have hE:=((Aa.refl w).alloc (.cells #[S (R s.a.x),S (R s.a.y),S (R s.b.x),S (R s.b.y)] 155)).alloc (.cells #[S [],S [],S [],S []] 155);have hb1:=(Below.heap_alloc (w.alloc (.cells #[S (R s.a.x),S (R s.a.y),S (R s.b.x),S (R s.b.y)] 155)) (.cells #[S [],S [],S [],S []] 155) w.heap.size (by simp)).trans (AmW w (.cells #[S (R s.a.x),S (R s.a.y),S (R s.b.x),S (R s.b.y)] 155));have hb2:=AmW (w.alloc (.cells #[S (R s.a.x),S (R s.a.y),S (R s.b.x),S (R s.b.y)] 155)) (.cells #[S [],S [],S [],S []] 155);rw [Anf]at hb2;obtain⟨b',o',hA,g1,g2⟩:=Cy AO hm;have hlt:=World.block_lt_of_cell? w _ g1;simp only at hlt;replace g1:=hE.cellS g1;replace g2:=hE.cellS g2;have hN:=h.ext hE;rw [←hp]at g1 g2;obtain⟨n,IP⟩:=AmT e.2.length;rw [←IP]at hj htm hv hn hc1 ix hm;clear hp hf IP AO;unfold As;go_enter Tryz.func232,Tryz.ntmps232
 go_upto_region 1 with fail
 rw [show (⟨#[]⟩:ByteArray)=⟨([]:Bs).toArray⟩from rfl];generalize (w.alloc (.cells #[S (R s.a.x),S (R s.a.y),S (R s.b.x),S (R s.b.y)] 155)).alloc (.cells #[S [],S [],S [],S []] 155)=V at *;obtain⟨bb,Bl⟩:=AmT w.heap.size;have hle:w.heap.size<=bb+1:=(by omega);rw [←Bl]at hb1 hb2 hlt ⊢;have bT:¬(b'=bb+1):=(by omega);have EY:¬(bb+1=b'):=(by omega);clear Bl;have q2:∀q:Af V,q.w.cell? ⟨r,1,none⟩=some (.map (some b2)):=Af.cell (Ab hN.cell rfl);have q3:∀q:Af V,q.w.cell? ⟨bb,2,none⟩=some (S (R s.b.x)):=Af.cell (Ab hb1 rfl);have q4:∀q:Af V,q.w.cell? ⟨bb,3,none⟩=some (S (R s.b.y)):=Af.cell (Ab hb1 rfl)
 have q5:∀q:Af V,(Instr.lookup 132 (.map (some b2)) (Ak s.b) false).run Tryz.prog q.w=.ok (.slice A n c) q.w:=fun q=>by rw [Qj PK s.b E (W:=q.w) ((q.h.block b2 hN.ar.lt).trans hN.ar.blk),hv]
 unfold Ak at q5 ix;refine F3 (by kernel_rfl) (by kernel_rfl) ?_
 repeat (go_big_quiet_step (fail))
 refine wpQuiet_nil ?_;rintro _ ⟨q,rfl⟩;obtain⟨W1,hx1⟩:=q;have k1:=hx1.cellS (Ab (o:=0) hb1 rfl);have k2:=hx1.cellS (Ab (o:=1) hb1 rfl);have eB:=ix W1 (hE.trans hx1);rw [hA]at eB hv;simp only;clear ix;(go_wp2_with fail);(with_reducible refine eB.mono ?_);rintro e w2 ⟨rfl,hx2⟩;replace hx2:=hx1.trans hx2;have AQ:=(hx2.block _ (AmV hb1)).trans hb1;have Bp:=(hx2.block _ (AmV hb2)).trans hb2;have f1:=hx2.cellS g1;have f2:=hx2.cellS g2;have e1:=Ab (o:=2) AQ rfl;have e2:=Ab (o:=3) AQ rfl;have y0:=AU (o:=0) Bp;have y1:=AU (o:=1) Bp;have y2:=AU (o:=2) Bp;have y3:=AU (o:=3) Bp;have z0:=Ab (o:=0) Bp rfl;have z1:=Ab (o:=1) Bp rfl;have z2:=Ab (o:=2) Bp rfl;have z3:=Ab (o:=3) Bp rfl;clear k1 k2 q2 q3 q4 q5 hN h g1 g2 eB;have Gw:(n:Int)≠0:=(by omega);have P1:¬n=0:=(by omega);have a1:IntKind.i64.wrap ((j:Int)+n)=(j:Int)+n:=Ane _ (by omega);have a2:IntKind.i64.wrap ((j:Int)+n-1)=(j:Int)+n-1:=Ane _ (by omega);have a3:IntKind.i64.wrap (m':Int)=(m':Int):=Ane _ (by omega);have a4:(0:Int)<=(m':Int):=(by omega);have a5:(m':Int)<(n:Int):=by omega
 go_upto_region 3 with fail
 go_region_held3 (fun w'=>w'.cell? ⟨bb,2,none⟩=some (S (R s.b.x))/\w'.cell? ⟨bb,3,none⟩=some (S (R s.b.y))/\w'.cell? ⟨b',o'+m'*2,none⟩=some (S (R p.x))/\w'.cell? ⟨b',o'+m'*2+1,none⟩=some (S (R p.y)))
  (first|go_keep|(simp [World.cell?_setCell,bT,EY];go_keep)) (fail)
 have hq:=OG (S (R s.b.x)) (S (R s.b.y)) (S (R p.x)) (S (R p.y)) Bp;have q0:=(Aa.refl _).drew.cellS (Ab (o:=0) hq rfl);have q1:=(Aa.refl _).drew.cellS (Ab (o:=1) hq rfl);have q2:=(Aa.refl _).drew.cellS (Ab (o:=2) hq rfl);have q3:=(Aa.refl _).drew.cellS (Ab (o:=3) hq rfl);clear hq;go_wp2;refine bodyPost_ret (v:=.agg #[S (R s.b.x),S (R s.b.y),S (R p.x),S (R p.y)]) (by simp [results,Tryz.results232,go_sem,q0,q1,q2,q3]) rfl ?_;have ES:=hE.trans hx2;exact⟨rfl,((((ES.setCell (p:=⟨bb+1,0,none⟩) hle _).setCell (p:=⟨bb+1,1,none⟩) hle _).setCell (p:=⟨bb+1,2,none⟩) hle _).setCell (p:=⟨bb+1,3,none⟩) hle _).drew⟩
end Go.Proofs.YtbejphgbbpplbaaGreatDoor
