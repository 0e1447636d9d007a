/- J25: M5 M6 M7 M8 M9 M10. -/
import Derived.Maps.AppendAt
import Derived.Test.YtnddllipjippnaaGreatDoorJ21
set_option maxRecDepth 100000
set_option maxHeartbeats 8000000
namespace Go.Proofs.YtnddllipjippnaaGreatDoor
open Go.RowKit Kl
open Go.ChangeMaps (setBlock)
def Gl(R:List (Pt×List Pt))(p:Pt):Nat:=(R.findIdx? (fun e=>Ax p e.1)).getD R.length
def GE(R:List (Pt×List Pt))(p:Pt):List (Pt×List Pt):=match R.findIdx? (fun e=>Ax p e.1)with|some _=>R|none=>R ++ [(p,[])]
def Dl(R:List (Pt×List Pt))(p q:Pt):List (Pt×List Pt):=(GE R p).modify (Gl R p) (fun e=>(e.1,e.2 ++ [q]))
structure DO(B:Nat)(W:World)(b2:Nat)(E:List (Pt×Value×Nat))(R:List (Pt×List Pt)):Prop where
 blk:W.heap[b2]?=some (.map (AN Ak E).toArray E.length)
 len:E.length=R.length
 row:∀i (h:i<E.length) (h':i<R.length),E[i].1=R[i].1/\E[i].2.2=i/\W.ownsRow B 24 2 E[i].2.1 R[i].2.length (flat (Aq R[i].2))
 apart:∀i j (hi:i<E.length) (hj:j<E.length),i≠j→E[i].2.1.ownBlock=none∨E[i].2.1.ownBlock≠E[j].2.1.ownBlock
 own:B<=b2
theorem DO.lt{B:Nat}{W:World}{b2:Nat}{E:List (Pt×Value×Nat)}{R:List (Pt×List Pt)}(h:DO B W b2 E R):b2<W.heap.size:=(Array.getElem?_eq_some_iff.1 h.blk).1
theorem DO.keep{B:Nat}{W W':World}{b2:Nat}{E:List (Pt×Value×Nat)}{R:List (Pt×List Pt)}(h:DO B W b2 E R)(hg:W.grownBy W' none):DO B W' b2 E R:=
 ⟨(hg.block b2 h.lt (by simp)).trans h.blk,h.len,fun i hi hi'=>⟨(h.row i hi hi').1,(h.row i hi hi').2.1,(h.row i hi hi').2.2.kept hg (by
  rcases hv:E[i].2.1.ownBlock with _|g
  ·exact .inl rfl
  ·exact .inr (by simp))⟩,h.apart,h.own⟩
theorem aG{E:List (Pt×Value×Nat)}{R:List (Pt×List Pt)}(hl:E.length=R.length)(he:∀i (h:i<E.length) (h':i<R.length),E[i].1=R[i].1)(p:Pt):E.findIdx? (fun e=>Ax p e.1)=R.findIdx? (fun e=>Ax p e.1):=by
 have h1:E.map (·.1)=R.map (·.1):=by
  apply List.ext_getElem
  ·simp [hl]
  ·intro i h1 h2;simp at h1 h2 ⊢;exact he i h1 h2
 have f:∀{β:Type} (l:List (Pt×β)),l.findIdx? (fun e=>Ax p e.1)=(l.map (·.1)).findIdx? (Ax p):=by
  intro β l;rw [List.findIdx?_map]
  rfl
 rw [f E,f R,h1]
theorem Ll{w:World}{b:Nat}{o o':Obj}(_:w.heap[b]?=some o'):w.grownBy (setBlock w b o) (some b):=
 ⟨rfl,rfl,rfl,by simp [setBlock],fun k _ hk=>UA (fun e=>hk (by rw [e]))⟩
theorem DO.entry{B:Nat}{W:World}{b2:Nat}{E:List (Pt×Value×Nat)}{R:List (Pt×List Pt)}(h:DO B W b2 E R)(p:Pt) :
  ∃W1 E1,DO B W1 b2 E1 (GE R p)/\W.grownBy W1 (some b2)/\W1.heap.size=W.heap.size/\∃hj:Gl R p<E1.length,∃hj':Gl R p<(GE R p).length,((GE R p)[Gl R p]).1=p/\
   (∀V,V.heap[b2]?=W.heap[b2]?→(Instr.mapEntry 96 (.map (some b2)) (Ak p)).run Tryz.prog V=.ok (.tuple #[E1[Gl R p].2.1,.int .i64 (Gl R p:Nat)]) (setBlock V b2 (.map (AN Ak E1).toArray E1.length)))/\W1=setBlock W b2 (.map (AN Ak E1).toArray E1.length):=by
 have DI:=aG h.len (fun i h1 h2=>(h.row i h1 h2).1) p
 cases hf:R.findIdx? (fun e=>Ax p e.1)with
 | none=>
  have e1:Gl R p=R.length:=(by unfold Gl;rw [hf];rfl);have e2:GE R p=R ++ [(p,[])]:=(by unfold GE;rw [hf]);rw [hf]at DI;have hno:∀e∈E,Ax p e.1=false:=(by rw [List.findIdx?_eq_none_iff]at DI;exact DI);have hnew:=lF QE p E hno (W:=W) h.blk;rw [e2];refine⟨_,E ++ [(p,.slice none 0 0,E.length)],⟨?_,?_,?_,?_,h.own⟩,Ll h.blk,?_,?_,?_,?_,?_,rfl⟩
  ·rw [Mi h.blk]
  ·simp [h.len]
  ·intro i hi hi';by_cases hlt:i<E.length
   ·have Qq:i<R.length:=(by rw [←h.len];exact hlt);rw [List.getElem_append_left hlt,List.getElem_append_left Qq];obtain⟨r1,r2,r3⟩:=h.row i hlt Qq;refine⟨r1,r2,r3.kept (Ll h.blk) ?_⟩
    rcases r3.2 with⟨hn,_⟩|⟨g,cap,cur,hv,hb,hg,_⟩
    ·left;rw [hn];rfl
    ·right
     rw [hv];simp only [Value.ownBlock,ne_eq,AoB];intro e;rw [e,h.blk]at hg
     cases hg
   ·have L8:i=E.length:=(by simp at hi;omega);subst L8;rw [List.getElem_append_right (by omega),List.getElem_append_right (by rw [h.len];omega)];simp only [Nat.sub_self,List.getElem_cons_zero,h.len];exact⟨by trivial,by trivial,⟨rfl,.inl ⟨rfl,rfl⟩⟩⟩
  ·intro i j hi hj Bu;by_cases Nq:i<E.length
   ·rw [List.getElem_append_left Nq];by_cases Bc:j<E.length
    ·rw [List.getElem_append_left Bc];exact h.apart i j Nq Bc Bu
    ·rw [List.getElem_append_right (by omega)];have Ns:j=E.length:=(by simp at hj;omega);subst Ns;simp only [Nat.sub_self,List.getElem_cons_zero]
     cases E[i].2.1.ownBlock with
     | none=>left;rfl
     | some g=>right;simp [Value.ownBlock]
   ·rw [List.getElem_append_right (by omega)];have L8:i=E.length:=(by simp at hi;omega);subst L8
    left
    simp [Value.ownBlock]
  ·simp [setBlock]
  ·rw [e1,←h.len];simp
  ·rw [e1];simp
  ·simp only [e1];rw [List.getElem_append_right (by omega)];simp
  ·intro V hV;have hnV:=lF QE p E hno (W:=V) (hV.trans h.blk);rw [hnV];simp only [e1];rw [List.getElem_append_right (by rw [h.len];omega)];simp [h.len]
 | some j=>
  have e1:Gl R p=j:=(by unfold Gl;rw [hf];rfl);have e2:GE R p=R:=(by unfold GE;rw [hf]);rw [hf]at DI;rw [List.findIdx?_eq_some_iff_getElem]at DI;obtain⟨hj,h1,h2⟩:=DI;have hj':j<R.length:=by rw [←h.len];exact hj
  have hno:∀e∈E.take j,Ax p e.1=false:=by
   intro e he;rw [List.mem_take_iff_getElem]at he;obtain⟨i,hi,rfl⟩:=he;have:=h2 i (by omega)
   simpa using this
  have hk:E[j].1=p:=(CP.1 h1).symm;rw [e2];refine⟨W,E,h,⟨rfl,rfl,rfl,Ao7 _,fun _ _ _=>rfl⟩,rfl,by rw [e1];exact hj,by rw [e1];exact hj',?_,?_,(lI h.blk).symm⟩
  ·simp only [e1];rw [←(h.row j hj hj').1];exact hk
  ·intro V hV;have hb:=hV.trans h.blk;have:=Akg QE p E hj hno hk (W:=V) hb;rw [this,lI hb];simp only [e1,(h.row j hj hj').2.1]
theorem DO.append{B:Nat}{Y:World}{b2:Nat}{E:List (Pt×Value×Nat)}{R:List (Pt×List Pt)}(h:DO B Y b2 E R)(hB:B<=Y.heap.size){j:Nat}(hj:j<E.length)(hj':j<R.length)(hn:R[j].2.length<200000)
  (q:Pt) {g:Nat} (hg:Y.heap[g]?=some (.cells #[S (Kl.R q.x),S (Kl.R q.y)] 24)) (ty:TypeId) :
  ∃v' Z Z',(Builtin.append_ #[31,31] ty #[E[j].2.1,.slice (some ⟨g,0,none⟩) 1 1]).run Tryz.prog Y=.ok v' Z/\Y.grownBy Z E[j].2.1.ownBlock
   /\(Instr.entryStore 96 (.map (some b2)) (.int .i64 (j:Nat)) v').run Tryz.prog Z=.ok () Z'/\Z.grownBy Z' (some b2)/\DO B Z' b2 (E.set j (E[j].1,v',j)) (R.modify j (fun e=>(e.1,e.2 ++ [q]))):=by
 obtain⟨i0,hi,hz0,hz1,hz2⟩:=info_parts Tryz.infoPt;obtain⟨r1,r2,r3⟩:=h.row j hj hj'
 obtain⟨v',Z,hr,hown,hgr,_,hat⟩:=run_append_own_at (P:=Tryz.prog) Y B 31 ty 24 i0 (.agg #[S [],S []]) 2 32 Tryz.underlying31 hi hz0 hz1 hz2 rfl (by omega) E[j].2.1 R[j].2.length (flat (Aq R[j].2)) r3
  ⟨g,0,none⟩ 1 1 [S (Kl.R q.x),S (Kl.R q.y)] rfl (fun k u hu=>by
   rw [Addr.add_lit,Nat.zero_add];refine Aa hg ?_;rw [←Array.getElem?_toList]
   exact hu) (fun u hu=>by
   simp only [List.mem_cons,AoI,or_false]at hu
   rcases hu with rfl|rfl<;>rfl) (by unfold maxLen;omega) (by omega) hB
 rw [←kY]at hown
 have hb2:Z.heap[b2]?=Y.heap[b2]?:=hgr.block b2 h.lt (by
  rcases r3.2 with⟨hv,_⟩|⟨g0,cap,cur,hv,_,hg0,_⟩
  ·rw [hv];simp [Value.ownBlock]
  ·rw [hv];simp only [Value.ownBlock,ne_eq,AoB];intro e;rw [←e,h.blk]at hg0
   cases hg0)
 have WA:=hb2.trans h.blk
 have hno:∀e∈E.take j,e.2.2≠E[j].2.2:=by intro e he;rw [List.mem_take_iff_getElem]at he;obtain⟨i,hi,rfl⟩:=he;rw [(h.row i (by omega) (by rw [←h.len];omega)).2.1,r2];omega
 have hst:=rq (enc:=Ak) 96 E hj hno v' WA;rw [r2]at hst;have eK:=Ll (o:=.map (AN Ak (E.set j (E[j].1,v',j))).toArray E.length) WA;refine⟨v',Z,_,hr,hgr,hst,eK,⟨?_,?_,?_,?_,h.own⟩⟩
 ·rw [Mi WA];simp
 ·simp [h.len]
 ·intro i hi hi';have Nn:i<E.length:=(by simpa using hi);have LA:i<R.length:=(by simpa using hi');by_cases Bu:j=i
  ·subst Bu;rw [List.getElem_set_self,List.getElem_modify_eq];refine⟨r1,rfl,?_⟩;have hl:(R[j].2 ++ [q]).length=R[j].2.length+1:=(by simp);simp only [hl];refine hown.kept eK ?_
   rcases hown.2 with⟨hv,_⟩|⟨g0,cap,cur,hv,_,hg0,_⟩
   ·left;rw [hv];rfl
   ·right
    rw [hv];simp only [Value.ownBlock,ne_eq,AoB];intro e;rw [e,WA]at hg0
    cases hg0
  ·rw [List.getElem_set_ne Bu];have hm:(R.modify j (fun e=>(e.1,e.2 ++ [q])))[i]=R[i]:=(by rw [List.getElem_modify,if_neg Bu]);rw [hm];obtain⟨s1,s2,s3⟩:=h.row i Nn LA;refine⟨s1,s2,(s3.kept hgr (h.apart i j Nn hj (fun e=>Bu e.symm))).kept eK ?_⟩
   rcases s3.2 with⟨hv,_⟩|⟨g0,cap,cur,hv,_,hg0,_⟩
   ·left;rw [hv];rfl
   ·right
    rw [hv];simp only [Value.ownBlock,ne_eq,AoB];intro e;rw [e,h.blk]at hg0
    cases hg0
 ·intro i k hi hk hik;have Nn:i<E.length:=(by simpa using hi);have TA:k<E.length:=by simpa using hk
  have hlt:∀x (hx:x<E.length) (hx':x<R.length),E[x].2.1.ownBlock≠some Y.heap.size:=by
   intro x hx hx'
   rcases(h.row x hx hx').2.2.2 with⟨hv,_⟩|⟨g0,cap,cur,hv,_,hg0,_⟩
   ·rw [hv];simp [Value.ownBlock]
   ·rw [hv];have:=(Array.getElem?_eq_some_iff.1 hg0).1;simp only [Value.ownBlock,ne_eq,AoB];omega
  by_cases Bu:j=i
  ·subst Bu;rw [List.getElem_set_self,List.getElem_set_ne hik]
   rcases hat with e|e
   ·rw [e];exact h.apart j k Nn TA hik
   ·rw [e];right;exact fun e'=>hlt k TA (by rw [←h.len];exact TA) e'.symm
  ·rw [List.getElem_set_ne Bu];by_cases hjk:j=k
   ·subst hjk;rw [List.getElem_set_self]
    rcases hat with e|e
    ·rw [e];exact h.apart i j Nn TA hik
    ·rw [e];right;exact hlt i Nn (by rw [←h.len];exact Nn)
   ·rw [List.getElem_set_ne hjk];exact h.apart i k Nn TA hik
def stamp(L:List (Sg×Int)):List (Sg×Value×Nat):=L.mapIdx fun i e=>(e.1,.int .i64 e.2,i)
theorem DK(L:List (Sg×Int)):(stamp L).length=L.length:=by simp [stamp]
theorem uz(L:List (Sg×Int))(e:Sg×Int):stamp (L ++ [e])=stamp L ++ [(e.1,.int .i64 e.2,L.length)]:=by simp [stamp,List.mapIdx_append]
theorem lV{L:List (Sg×Int)}{x:Sg×Value×Nat}(h:x∈stamp L):∃e∈L,x.1=e.1:=by
 unfold stamp at h;rw [List.mem_mapIdx]at h;obtain⟨i,hi,rfl⟩:=h;exact⟨L[i],Ao8 hi,rfl⟩
theorem Ali{L:List (Sg×Int)}{x:Sg×Value×Nat}(h:x∈stamp L):x.2.2<L.length:=by
 unfold stamp at h;rw [List.mem_mapIdx]at h;obtain⟨i,hi,rfl⟩:=h;exact hi
structure BD(B:Nat)(W:World)(r b1 b2:Nat)(L:List (Sg×Int))(E:List (Pt×Value×Nat))(R:List (Pt×List Pt)):Prop where
 cell:W.heap[r]?=some (.cells #[.map (some b1),.map (some b2)] 98)
 left:W.heap[b1]?=some (.map (AN AC (stamp L)).toArray L.length)
 ar:DO B W b2 E R
 r0:B<=r
 r1:B<=b1
 ne:b1≠b2
theorem km{W:World}{b1:Nat}{L:List (Sg×Int)}(h:W.heap[b1]?=some (.map (AN AC (stamp L)).toArray L.length))(s:Sg)(hno:∀e∈L,Be s e.1=false)(z:Int) :
  ∃X,(Instr.mapEntry 95 (.map (some b1)) (AC s)).run Tryz.prog W=.ok (.tuple #[.int .i64 0,.int .i64 (L.length:Nat)]) X
   /\W.grownBy X (some b1)/\X.heap.size=W.heap.size
   /\∃Z,(Instr.entryStore 95 (.map (some b1)) (.int .i64 (L.length:Nat)) (.int .i64 z)).run Tryz.prog X=.ok () Z/\W.grownBy Z (some b1)/\Z.heap.size=W.heap.size/\Z.heap[b1]?=some (.map (AN AC (stamp (L ++ [(s,z)]))).toArray (L ++ [(s,z)]).length):=by
 have AfN:∀e∈stamp L,Be s e.1=false:=by intro e he;obtain⟨x,hx,h1⟩:=lV he;rw [h1];exact hno x hx
 have h1:=lF XB s (stamp L) AfN (W:=W) h;have hb:=Mi (o:=.map (AN AC (stamp L ++ [(s,.int .i64 0,L.length)])).toArray (L.length+1)) h;have hlt:L.length<(stamp L ++ [(s,Value.int .i64 0,L.length)]).length:=by simp [DK]
 have hge:(stamp L ++ [(s,Value.int .i64 0,L.length)])[L.length]=(s,.int .i64 0,L.length):=by rw [List.getElem_append_right (by rw [DK];omega)];simp [DK]
 have h2:=rq (enc:=AC) 95 (stamp L ++ [(s,.int .i64 0,L.length)]) hlt (by
  intro e he;rw [hge]
  have:e∈stamp L:=by rw [List.take_append_of_le_length (by rw [DK];omega),AoF (by rw [DK];omega)]at he;exact he
  have:=Ali this;show e.2.2≠L.length
  omega) (.int .i64 z) hb
 rw [hge]at h2
 have Bd:(stamp L ++ [(s,Value.int .i64 0,L.length)]).set L.length (s,.int .i64 z,L.length)=stamp (L ++ [(s,z)]):=by rw [uz,List.set_append_right _ _ (by rw [DK];omega)];simp [DK]
 rw [Bd]at h2;refine⟨_,h1,Ll h,by simp [setBlock],_,h2,?_,by simp [setBlock],?_⟩
 ·exact⟨rfl,rfl,rfl,by simp [setBlock],fun k _ hk=>by
   have hkb:k≠b1:=fun e=>hk (by rw [e])
   rw [UA hkb,UA hkb]⟩
 ·rw [Mi hb];simp
theorem PP{w w':World}{row:Option Nat}(hg:w.grownBy w' row){a:Addr}{v:Value}(h:w.cell? a=some v)(hn:some a.block≠row):w'.cell? a=some v:=by
 have hlt:a.block<w.heap.size:=by
  unfold World.cell? at h
  rcases Nat.lt_or_ge a.block w.heap.size with h'|h'
  ·exact h'
  ·simp [Array.getElem?_eq_none h']at h
 exact(World.cell?_of_block (hg.block a.block hlt hn)).trans h
theorem GK{w w':World}(h:Ab w w')(row:Option Nat):w.grownBy w' row:=⟨h.os,h.tape,h.output,h.size,fun k hk _=>h.block k hk⟩
theorem Oo{a b c:World}{row:Option Nat}(h:a.grownBy b row)(k:b.grownBy c row):a.grownBy c row:=
 ⟨k.os.trans h.os,k.tape.trans h.tape,k.output.trans h.output,AoH h.size k.size,fun i hi hr=>(k.block i (AoG hi h.size) hr).trans (h.block i hi hr)⟩
theorem below_grown{B:Nat}{w w':World}{b:Nat}(hg:w.grownBy w' (some b))(hb:B<=b)(hB:B<=w.heap.size):Below B w w':=
 ⟨hg.os,hg.tape,hg.output,hg.size,fun k hk=>hg.block k (by omega) (by intro e;cases e;omega)⟩
theorem Ah3{W:World}{b1:Nat}{L:List (Sg×Int)}(h:W.heap[b1]?=some (.map (AN AC (stamp L)).toArray L.length))(s:Sg)(h1:∀e∈L,Be s e.1=false)(h2:∀e∈L,Be (Bh s) e.1=false)(hne:Be (Bh s) s=false)(y z:Int) :
  ∃(n1:Nat) (X Z X2 Z2:World),(Instr.mapEntry 95 (.map (some b1)) (AC s)).run Tryz.prog W=.ok (.tuple #[.int .i64 0,.int .i64 (L.length:Nat)]) X
   /\(Instr.entryStore 95 (.map (some b1)) (.int .i64 (L.length:Nat)) (.int .i64 y)).run Tryz.prog X=.ok () Z
   /\(Instr.mapEntry 95 (.map (some b1)) (AC (Bh s))).run Tryz.prog Z=.ok (.tuple #[.int .i64 0,.int .i64 (n1:Nat)]) X2
   /\(Instr.entryStore 95 (.map (some b1)) (.int .i64 (n1:Nat)) (.int .i64 z)).run Tryz.prog X2=.ok () Z2
   /\W.grownBy X (some b1)/\W.grownBy Z (some b1)/\W.grownBy X2 (some b1)/\W.grownBy Z2 (some b1)/\Z2.heap.size=W.heap.size/\Z2.heap[b1]?=some (.map (AN AC (stamp (L ++ [(s,y),(Bh s,z)]))).toArray (L ++ [(s,y),(Bh s,z)]).length):=by
 obtain⟨X,e1,g1,s1,Z,e2,g2,s2,hb⟩:=km h s h1 y
 obtain⟨X2,e3,g3,s3,Z2,e4,g4,s4,hb2⟩:=km hb (Bh s) (by
  intro e he
  rcases List.mem_append.1 he with he|he
  ·exact h2 e he
  ·simp only [AoJ]at he;subst he;exact hne) z
 have hl:(L ++ [(s,y)]).length=L.length+1:=(by simp);rw [hl]at e3 e4;rw [List.append_assoc]at hb2;exact⟨L.length+1,X,Z,X2,Z2,e1,e2,e3,e4,g1,g2,Oo g2 g3,Oo g2 g4,by omega,hb2⟩
section
variable {ops : Array Oper} {o : Oper} {a : Act} {K : Act → World → Prop} {Q : Exit → Act → World → Prop} {E : Prop}
theorem vg(hgd:o.guard=none)(s x:Operand)(ho:o.op=.call {callee:=.builtin .append,args:=#[s,x],argTypes:=#[31,31]})
  {v u v':Value} {w Z:World} (hs:a.eval s=v) (hx:a.eval x=u) (hr:(Builtin.append_ #[31,31] o.type #[v,u]).run Tryz.prog w=.ok v' Z) (h:K (a.put o.dst v') Z) :
  if Region.wanted o (yielded ops a.tmps)=true then Oper.wp Tryz.prog o a w K Q else E:=by
 have hw:Region.wanted o (yielded ops a.tmps)=true:=(by simp [Region.wanted,hgd]);rw [if_pos hw];unfold Oper.wp execOp;simp only [ho,resolve,invoke,builtin,Sem.run_bind,Sem.run_pure,Result.andThen_ok,List.map_toArray,List.map_cons,List.map_nil,hs,hx,hr];exact h
end
def BU(b2:Nat)(W V:World):Prop:=W.heap.size<=V.heap.size/\∀k o,W.heap[k]?=some o→k≠b2→(∀cs,o≠.cells cs 24 (0,0))→V.heap[k]?=some o
theorem BU.trans{b2:Nat}{a b c:World}(h:BU b2 a b)(k:BU b2 b c):BU b2 a c:=
 ⟨AoH h.1 k.1,fun i o h1 h2 h3=>k.2 i o (h.2 i o h1 h2 h3) h2 h3⟩
theorem BU.of_ext{b2:Nat}{a b:World}(h:Ab a b):BU b2 a b:=⟨h.size,fun i _ h1 _ _=>(h.block i (Array.getElem?_eq_some_iff.1 h1).1).trans h1⟩
theorem BU.of_grown{b2:Nat}{a b:World}(h:a.grownBy b (some b2)):BU b2 a b:=⟨h.size,fun i _ h1 h2 _=>(h.block i (Array.getElem?_eq_some_iff.1 h1).1 (by simp;exact h2)).trans h1⟩
theorem pM{R:List (Pt×List Pt)}{p:Pt}{n:Nat}(h:∀e∈R,e.2.length<=n):∀e∈GE R p,e.2.length<=n:=by
 unfold GE
 split
 ·exact h
 ·intro e he
  rcases List.mem_append.1 he with he|he
  ·exact h e he
  ·simp only [AoJ]at he;subst he;simp
theorem Zs{R:List (Pt×List Pt)}{p q:Pt}{n:Nat}(h:∀e∈R,e.2.length<=n):∀e∈Dl R p q,e.2.length<=n+1:=by
 intro e he;unfold Dl at he;obtain⟨i,hi,rfl⟩:=List.getElem_of_mem he;rw [List.getElem_modify];have hi':i<(GE R p).length:=(by simpa using hi);have:=pM (p:=p) h _ (Ao8 hi')
 split
 ·simp;omega
 ·omega
theorem pN{B:Nat}{W:World}{b2:Nat}{E:List (Pt×Value×Nat)}{R0:List (Pt×List Pt)}(h:DO B W b2 E R0)(hB:B<=W.heap.size)(p q:Pt)(hn:∀e∈R0,e.2.length<=100000) :
  ∃(j:Nat) (v v':Value) (X Z Z':World) (E':List (Pt×Value×Nat)),
   (Instr.mapEntry 96 (.map (some b2)) (Ak p)).run Tryz.prog (W.alloc (.cells #[S (R q.x),S (R q.y)] 24)).drew=.ok (.tuple #[v,.int .i64 (j:Nat)]) X
   /\(∀ty,ty=31→(Builtin.append_ #[31,31] ty #[v,.slice (some ⟨W.heap.size,0,none⟩) 1 1]).run Tryz.prog X=.ok v' Z)
   /\(Instr.entryStore 96 (.map (some b2)) (.int .i64 (j:Nat)) v').run Tryz.prog Z=.ok () Z'
   /\BU b2 W X/\BU b2 W Z/\BU b2 W Z'/\Below B W Z'/\DO B Z' b2 E' (Dl R0 p q):=by
 have hx:=((Ab.refl W).alloc (.cells #[S (R q.x),S (R q.y)] 24)).drew;have hg0:(W.alloc (.cells #[S (R q.x),S (R q.y)] 24)).drew.heap[W.heap.size]?=_:=Ao6 W (.cells #[S (R q.x),S (R q.y)] 24);have hA:=h.keep (GK hx none);obtain⟨X,E1,hA1,g1,s1,hj,hj',hk,hrun,hX⟩:=hA.entry p;have hgX:X.heap[W.heap.size]?=some (.cells #[S (R q.x),S (R q.y)] 24):=(g1.block _ (by simp) (by have:=h.lt;simp;omega)).trans hg0;have uR:B<=X.heap.size:=by rw [s1];simp;omega
 have hlen:((GE R0 p)[Gl R0 p]).2.length<200000:=by have:=pM hn _ (Ao8 hj');omega
 obtain⟨v',Z,Z',hr,gZ,hst,uH,hA2⟩:=hA1.append uR hj hj' hlen q hgX 31;have lT:BU b2 W X:=(BU.of_ext hx).trans (BU.of_grown g1)
 have uw:BU b2 X Z:=by
  refine⟨gZ.size,fun k o h1 _ h3=>(gZ.block k (Array.getElem?_eq_some_iff.1 h1).1 ?_).trans h1⟩
  rcases(hA1.row _ hj hj').2.2.2 with⟨hv,_⟩|⟨g,cap,cur,hv,_,hg,_⟩
  ·rw [hv];simp [Value.ownBlock]
  ·rw [hv];simp only [Value.ownBlock,ne_eq,AoB];intro e;rw [e,hg]at h1;exact h3 cur (Option.some.inj h1).symm
 have bZ:Below B X Z:=⟨gZ.os,gZ.tape,gZ.output,gZ.size,fun k hkB=>gZ.block k (by omega) (by
  rcases(hA1.row _ hj hj').2.2.2 with⟨hv,_⟩|⟨g,cap,cur,hv,hb,_⟩
  ·rw [hv];simp [Value.ownBlock]
  ·rw [hv];simp only [Value.ownBlock,ne_eq,AoB];omega)⟩
 have bb:=h.own;have VY:B<=Z.heap.size:=AoH uR gZ.size;have AbR:Below B W Z':=((Below.mono hx hB).trans (below_grown g1 bb (by simp;omega))).trans (bZ.trans (below_grown uH bb VY));refine⟨Gl R0 p,E1[Gl R0 p].2.1,v',X,Z,Z',_,?_,?_,hst,lT,lT.trans uw,lT.trans (uw.trans (BU.of_grown uH)),AbR,hA2⟩
 ·rw [hX];exact hrun _ rfl
 ·intro ty gU;subst gU;exact hr
theorem Zt{B:Nat}{w:World}{r b1 b2:Nat}{L:List (Sg×Int)}{E:List (Pt×Value×Nat)}{R0:List (Pt×List Pt)}(h:BD B w r b1 b2 L E R0)(hB:B<=w.heap.size)(s:Sg)(y z:Int)
  (h1:∀e∈L,Be s e.1=false) (h2:∀e∈L,Be (Bh s) e.1=false) (hne:Be (Bh s) s=false) (hn:∀e∈R0,e.2.length<=90000) :
  Calls Tryz.prog 89 #[.pointer (some ⟨r,0,none⟩),AC s,.int .i64 y,.int .i64 z] w (fun e w'=>e=.returned (.tuple #[])/\Below B w w'/\(∀k o,w.heap[k]?=some o→k≠b1→k≠b2→(∀cs,o≠.cells cs 24 (0,0))→w'.heap[k]?=some o)/\∃E',BD B w' r b1 b2 (L ++ [(s,y),(Bh s,z)]) E' (Dl (Dl R0 s.a s.b) s.b s.a)):=by
 have hE:=(Ab.refl w).alloc (.cells #[S (R s.a.x),S (R s.a.y),S (R s.b.x),S (R s.b.y)] 140);have B7:=Ao6 w (.cells #[S (R s.a.x),S (R s.a.y),S (R s.b.x),S (R s.b.y)] 140);obtain⟨hc,hl,ha,hr0,hr1,Br⟩:=h;have hcl:=Ao5 hc;have EH:=(Array.getElem?_eq_some_iff.1 hl).1;have I9:=ha.lt;have bk:=Vz s;unfold AC at bk;unfold AC;go_enter Tryz.func89,Tryz.ntmps89
 go_upto_region 1 with fail
 replace hc:=(hE.block r hcl).trans hc;replace hl:=(hE.block b1 EH).trans hl;replace ha:=ha.keep (GK hE none);generalize hV:w.alloc (.cells #[S (R s.a.x),S (R s.a.y),S (R s.b.x),S (R s.b.y)] 140)=V at *;obtain⟨bs,Tn⟩:=Ao3 w.heap.size;rw [←Tn]at B7 ⊢;have nr:b1≠r:=(by intro e;rw [e,hc]at hl;cases hl);have ns:b1≠bs:=(by omega);have nbs:B<=bs:=(by omega);have nrs:r≠bs:=(by omega);have jK:b2≠bs:=(by omega);have nle:w.heap.size<=bs:=(by omega);have HV:=Ao4 hV;clear Tn hV
 have SO:∀w',V.grownBy w' (some b1)→(w'.cell? ⟨r,0,none⟩=some (.map (some b1))/\w'.cell? ⟨r,1,none⟩=some (.map (some b2))/\w'.cell? ⟨bs,0,none⟩=some (S (R s.a.x))/\w'.cell? ⟨bs,1,none⟩=some (S (R s.a.y))/\w'.cell? ⟨bs,2,none⟩=some (S (R s.b.x))/\w'.cell? ⟨bs,3,none⟩=some (S (R s.b.y))):=fun w' hg=>⟨PP hg (Aa hc rfl) (by simp;omega),PP hg (Aa hc rfl) (by simp;omega),PP hg (Aa B7 rfl) (by simp;omega),PP hg (Aa B7 rfl) (by simp;omega),PP hg (Aa B7 rfl) (by simp;omega),PP hg (Aa B7 rfl) (by simp;omega)⟩
 have t0:V.grownBy V.drew (some b1):=GK (Ab.refl V).drew _
 go_region_held3 (fun w'=>w'.cell? ⟨r,0,none⟩=some (.map (some b1))/\w'.cell? ⟨r,1,none⟩=some (.map (some b2))/\w'.cell? ⟨bs,0,none⟩=some (S (R s.a.x))/\w'.cell? ⟨bs,1,none⟩=some (S (R s.a.y))/\w'.cell? ⟨bs,2,none⟩=some (S (R s.b.x))/\w'.cell? ⟨bs,3,none⟩=some (S (R s.b.y)))
  (first|with_reducible exact SO _ t0|with_reducible exact SO _ t1|with_reducible exact SO _ t2|with_reducible exact SO _ t3|with_reducible exact SO _ t4|with_reducible exact SO _ t5)
  (first|((with_reducible refine(bk _).mono ?_);rintro e w1 ⟨rfl,hx1⟩;have t1:V.grownBy w1 (some b1):=Oo t0 (GK hx1 _);obtain⟨n1,X,Z,X2,Z2,e1,e2,e3,e4,u1,u2,u3,u4,u5,u6⟩:=Ah3 (((Ab.refl V).drew.trans hx1).block b1 (Ao5 hl) |>.trans hl) s h1 h2 hne y z;have t2:=Oo t1 u1;have t3:=Oo t1 u2;have t4:=Oo t1 u3;have t5:=Oo t1 u4;unfold AC at e1 e3))
 have gz:V.grownBy Z2 (some b1):=t5;have XJ:r≠b2:=(by intro e;rw [e,ha.blk]at hc;cases hc);have hc1:=(gz.block r (Ao5 hc) (by simp;omega)).trans hc;have hb1:=(gz.block bs (Ao5 B7) (by simp;omega)).trans B7;have O7:DO B V b2 E R0:=ha
 have wU:DO B Z2 b2 E R0:=by
  refine⟨(gz.block b2 O7.lt (by simp;omega)).trans O7.blk,O7.len,fun i hi hi'=>?_,O7.apart,O7.own⟩;obtain⟨s1,s2,s3⟩:=O7.row i hi hi';refine⟨s1,s2,s3.kept gz ?_⟩
  rcases s3.2 with⟨hv,_⟩|⟨g,cap,cur,hv,_,hg,_⟩
  ·left;rw [hv];rfl
  ·right
   rw [hv];simp only [Value.ownBlock,ne_eq,AoB];intro e;rw [e,hl]at hg
   cases hg
 have NT:=Ao4 u6;have GZ:=Ao4 (show ∀k o,w.heap[k]?=some o→k≠b1→Z2.heap[k]?=some o from fun k o q1 q2=>(gz.block k (AoG (Array.getElem?_eq_some_iff.1 q1).1 hE.size) (by simp;exact q2)).trans ((hE.block k (Array.getElem?_eq_some_iff.1 q1).1).trans q1));have bz:Below B w Z2:=(Below.mono hE hB).trans (below_grown gz hr1 (by have:=hE.size;omega));have BZ:=Ao4 bz;have HC:=Ao4 hc;have VY:B<=Z2.heap.size:=(by have:=gz.size;have:=hE.size;omega);clear SO t0 t1 t2 t3 t4 t5 e1 e2 e3 e4 u1 u2 u3 u4 u5 u6 ha O7 hc hl B7 hx1 bz gz;obtain⟨j1,v1,u1,X1,Y1,Q1,E1,c1,c2,c3,y1,y2,y3,y4,y5⟩:=pN wU VY s.a s.b (fun e he=>AoH (hn e he) (by omega));replace c2:=c2 _ rfl
 have P7:∀w',BU b2 Z2 w'→(w'.cell? ⟨r,0,none⟩=some (.map (some b1))/\w'.cell? ⟨r,1,none⟩=some (.map (some b2))/\w'.cell? ⟨bs,0,none⟩=some (S (R s.a.x))/\w'.cell? ⟨bs,1,none⟩=some (S (R s.a.y))/\w'.cell? ⟨bs,2,none⟩=some (S (R s.b.x))/\w'.cell? ⟨bs,3,none⟩=some (S (R s.b.y))):=fun w' hg=>
  have z1:=hg.2 r _ hc1 XJ (by intro cs e;cases e);have z2:=hg.2 bs _ hb1 (fun e=>jK e.symm) (by intro cs e;cases e)
  ⟨Aa z1 rfl,Aa z1 rfl,Aa z2 rfl,Aa z2 rfl,Aa z2 rfl,Aa z2 rfl⟩
 have t0:BU b2 Z2 Z2.drew:=BU.of_ext (Ab.refl Z2).drew;have t1:BU b2 Z2 (Z2.alloc (.cells #[S (R (s.b).x),S (R (s.b).y)] 24)).drew:=BU.of_ext ((Ab.refl _).alloc _).drew;unfold Ak at c1;(go_wp2_with fail)
 go_region_held3 (fun w'=>w'.cell? ⟨r,0,none⟩=some (.map (some b1))/\w'.cell? ⟨r,1,none⟩=some (.map (some b2))/\w'.cell? ⟨bs,0,none⟩=some (S (R s.a.x))/\w'.cell? ⟨bs,1,none⟩=some (S (R s.a.y))/\w'.cell? ⟨bs,2,none⟩=some (S (R s.b.x))/\w'.cell? ⟨bs,3,none⟩=some (S (R s.b.y)))
  (first|with_reducible exact P7 _ t0|with_reducible exact P7 _ t1|with_reducible exact P7 _ y1|with_reducible exact P7 _ y2|with_reducible exact P7 _ y3)
  (first|(refine vg (s:=.tmp 31) (x:=.tmp 34) ?hgd ?ho ?hs ?hx c2 ?h;(case hgd=>rfl);(case ho=>rfl);(case hs=>rfl);(case hx=>rfl)))
 have haQ:=y5;have hBQ:B<=Q1.heap.size:=AoH VY y3.1;have hc2:=y3.2 r _ hc1 XJ (by intro cs e;cases e);have dG:=y3.2 bs _ hb1 (fun e=>jK e.symm) (by intro cs e;cases e);have Y3:=Ao4 y3;have Y4:=Ao4 y4;clear P7 t0 t1 c1 c2 c3 y1 y2 y3 y4 y5 wU hc1 hb1;obtain⟨j2,v2,u2,X2',Y2',Q2,E2,c1,c2,c3,y1,y2,Y6,y4',y5'⟩:=pN haQ hBQ s.b s.a (fun e he=>AoH (Zs hn e he) (by omega));replace c2:=c2 _ rfl
 have RQ:∀w',BU b2 Q1 w'→(w'.cell? ⟨r,0,none⟩=some (.map (some b1))/\w'.cell? ⟨r,1,none⟩=some (.map (some b2))/\w'.cell? ⟨bs,0,none⟩=some (S (R s.a.x))/\w'.cell? ⟨bs,1,none⟩=some (S (R s.a.y))/\w'.cell? ⟨bs,2,none⟩=some (S (R s.b.x))/\w'.cell? ⟨bs,3,none⟩=some (S (R s.b.y))):=fun w' hg=>
  have z1:=hg.2 r _ hc2 XJ (by intro cs e;cases e);have z2:=hg.2 bs _ dG (fun e=>jK e.symm) (by intro cs e;cases e)
  ⟨Aa z1 rfl,Aa z1 rfl,Aa z2 rfl,Aa z2 rfl,Aa z2 rfl,Aa z2 rfl⟩
 have t0:BU b2 Q1 Q1.drew:=BU.of_ext (Ab.refl Q1).drew;have t1:BU b2 Q1 (Q1.alloc (.cells #[S (R (s.a).x),S (R (s.a).y)] 24)).drew:=BU.of_ext ((Ab.refl _).alloc _).drew;unfold Ak at c1;(go_wp2_with fail)
 go_region_held3 (fun w'=>w'.cell? ⟨r,0,none⟩=some (.map (some b1))/\w'.cell? ⟨r,1,none⟩=some (.map (some b2))/\w'.cell? ⟨bs,0,none⟩=some (S (R s.a.x))/\w'.cell? ⟨bs,1,none⟩=some (S (R s.a.y))/\w'.cell? ⟨bs,2,none⟩=some (S (R s.b.x))/\w'.cell? ⟨bs,3,none⟩=some (S (R s.b.y)))
  (first|with_reducible exact RQ _ t0|with_reducible exact RQ _ t1|with_reducible exact RQ _ y1|with_reducible exact RQ _ y2|with_reducible exact RQ _ Y6)
  (first|(refine vg (s:=.tmp 44) (x:=.tmp 47) ?hgd ?ho ?hs ?hx c2 ?h;(case hgd=>rfl);(case ho=>rfl);(case hs=>rfl);(case hx=>rfl)))
 go_wp2
 go_end0
 refine⟨rfl,(BZ.out.trans Y4.out).trans y4',fun k o q1 q2 q3 q4=>Y6.2 k o (Y3.out.2 k o (GZ.out k o q1 q2) q3 q4) q3 q4,E2,⟨Y6.2 r _ hc2 XJ (by intro cs e;cases e),Y6.2 b1 _ (Y3.out.2 b1 _ NT.out Br (by intro cs e;cases e)) Br (by intro cs e;cases e),y5',hr0,hr1,Br⟩⟩
def Bv(pts:List Pt)(e:EdZ):Sg:=⟨Ev pts e.f,Ev pts e.t⟩
def AH(pts:List Pt)(l:List EdZ):List (Sg×Int):=l.flatMap fun e=>[(Bv pts e,e.l),(Bh (Bv pts e),e.r)]
def BN(pts:List Pt)(l:List EdZ):List (Pt×List Pt):=l.foldl (fun R0 e=>Dl (Dl R0 (Bv pts e).a (Bv pts e).b) (Bv pts e).b (Bv pts e).a) []
theorem XN(pts:List Pt)(l:List EdZ)(e:EdZ):AH pts (l ++ [e])=AH pts l ++ [(Bv pts e,e.l),(Bh (Bv pts e),e.r)]:=by simp [AH]
theorem XO(pts:List Pt)(l:List EdZ)(e:EdZ):BN pts (l ++ [e])=Dl (Dl (BN pts l) (Bv pts e).a (Bv pts e).b) (Bv pts e).b (Bv pts e).a:=by simp [BN]
theorem mg(pts:List Pt):∀(l:List EdZ) (R0:List (Pt×List Pt)) (n:Nat),(∀e∈R0,e.2.length<=n)→∀e∈l.foldl (fun R0 e=>Dl (Dl R0 (Bv pts e).a (Bv pts e).b) (Bv pts e).b (Bv pts e).a) R0,e.2.length<=n+2*l.length
 | [],_,_,h=>by simpa using h
 | x::l,R0,n,h=>by intro e he;rw [List.foldl_cons]at he;have:=mg pts l _ (n+1+1) (Zs (Zs h)) e he;rw [List.length_cons];omega
theorem QL(pts:List Pt)(l:List EdZ):∀e∈BN pts l,e.2.length<=2*l.length:=by
 intro e he;have:=mg pts l [] 0 (by simp) e he;omega
theorem AjI{w:World}{b o:Nat}{cs:List Value}(h:Af w (some ⟨b,o,none⟩) cs)(hl:0<cs.length):b<w.heap.size:=by
 obtain⟨b',o',e,hc⟩:=h.ad hl;have e2:(⟨b,o,none⟩:Addr)=⟨b',o',none⟩:=Option.some.inj e;obtain rfl:b=b':=(by injection e2);have h1:=hc 0 hl;unfold World.cell? at h1
 rcases Nat.lt_or_ge b w.heap.size with h'|h'
 ·exact h'
 ·simp [Array.getElem?_eq_none h']at h1
theorem V9{B:Nat}{w w':World}(h:Below B w w'){a:Addr}{v:Value}(hb:a.block<B)(hv:w.cell? a=some v):w'.cell? a=some v:=(World.cell?_of_block (h.block _ hb)).trans hv
theorem om{w:World}{B B':Nat}{e:TypeId}{size:Nat}{v:Value}{n:Nat}{xs:List Value}(h:w.ownsRow B e size v n xs)(hB:B'<=B):w.ownsRow B' e size v n xs:=by
 refine⟨h.1,?_⟩
 rcases h.2 with h'|⟨g,cap,cur,h1,h2,h3⟩
 ·exact .inl h'
 ·exact .inr ⟨g,cap,cur,h1,AoH hB h2,h3⟩
theorem BD.ext{B:Nat}{W W':World}{r b1 b2:Nat}{L:List (Sg×Int)}{E:List (Pt×Value×Nat)}{R0:List (Pt×List Pt)}(h:BD B W r b1 b2 L E R0)(hx:Ab W W'):BD B W' r b1 b2 L E R0:=
 ⟨(hx.block _ (Ao5 h.cell)).trans h.cell,(hx.block _ (Array.getElem?_eq_some_iff.1 h.left).1).trans h.left,h.ar.keep (GK hx none),h.r0,h.r1,h.ne⟩
structure NP(pts:List Pt)(l:List EdZ):Prop where
 rng:∀e∈l,0<=e.f/\0<=e.t/\e.f<(pts.length:Int)/\e.t<(pts.length:Int)
 ne:∀e∈l,Be (Bh (Bv pts e)) (Bv pts e)=false
 dis:∀j (h:j<l.length),∀e∈l.take j,Be (Bv pts l[j]) (Bv pts e)=false/\Be (Bv pts l[j]) (Bh (Bv pts e))=false/\Be (Bh (Bv pts l[j])) (Bv pts e)=false/\Be (Bh (Bv pts l[j])) (Bh (Bv pts e))=false
theorem NP.keys{pts:List Pt}{l:List EdZ}(h:NP pts l){j:Nat}(hj:j<l.length):(∀e∈AH pts (l.take j),Be (Bv pts l[j]) e.1=false)/\(∀e∈AH pts (l.take j),Be (Bh (Bv pts l[j])) e.1=false):=by
 constructor
 all_goals
  intro e he;unfold AH at he;rw [List.mem_flatMap]at he;obtain⟨x,hx,he⟩:=he;obtain⟨d1,d2,d3,d4⟩:=h.dis j hj x hx;simp only [List.mem_cons,AoI,or_false]at he
  rcases he with rfl|rfl<;>assumption
theorem sY{w:World} : BD w.heap.size (Om w) (w.heap.size+1+1) w.heap.size (w.heap.size+1) [] [] []:=by
 unfold Om;have h0:=Ao6 w (.map #[] 0);have h1:=Ao6 (w.alloc (.map #[] 0)) (.map #[] 0);have h2:=Ao6 ((w.alloc (.map #[] 0)).alloc (.map #[] 0)) (.cells #[.map (some w.heap.size),.map (some (w.heap.size+1))] 98);simp only [AoE]at h1 h2;have x1:=((Ab.refl (w.alloc (.map #[] 0))).alloc (.map #[] 0)).alloc (.cells #[.map (some w.heap.size),.map (some (w.heap.size+1))] 98);have x2:=(Ab.refl ((w.alloc (.map #[] 0)).alloc (.map #[] 0))).alloc (.cells #[.map (some w.heap.size),.map (some (w.heap.size+1))] 98);exact⟨h2,(x1.block _ (by simp)).trans h0,⟨(x2.block _ (by simp)).trans h1,rfl,fun i hi=>by simp at hi,fun i _ hi=>by simp at hi,by omega⟩,by omega,Ao7 _,by omega⟩
theorem XW(m:MapZ)(A B F:Option Addr)(c d g:Nat)(AP:CY m c d g)(Ai:NP m.pts m.eds)(hle:m.eds.length<=1200)(w:World)(hA:Af w A (flat (Aq m.pts)))(hB:Af w B (A9 m.eds)) :
  Calls Tryz.prog 51 #[AO A B F m c d g] w (fun e w'=>∃r b1 b2 E,e=.returned (.pointer (some ⟨r,0,none⟩))/\Ab w w'/\BD w.heap.size w' r b1 b2 (AH m.pts m.eds) E (BN m.pts m.eds)):=by
 obtain⟨c1,c2,d1,d2,g1,g2⟩:=AP;have hM:=Ao6 w (.cells #[.slice A m.pts.length c,.slice B m.eds.length d,.slice F m.nf g] 35);have hE:=(Ab.refl w).alloc (.cells #[.slice A m.pts.length c,.slice B m.eds.length d,.slice F m.nf g] 35);unfold AO;go_enter Tryz.func51,Tryz.ntmps51
 go_upto_region 1 with fail
 have hA:=hA.ext hE;have hB:=hB.ext hE;generalize w.alloc (.cells #[.slice A m.pts.length c,.slice B m.eds.length d,.slice F m.nf g] 35)=V at *;obtain⟨bm,AW⟩:=Ao3 w.heap.size;have xH:bm<V.heap.size:=(by have:=Ao5 hM;omega);rw [←AW]at hM ⊢;clear AW;have em:=sZ V;have en:=@sY V
 have eb:Below V.heap.size V (Om V):=((Ab.refl V).alloc _).alloc _ |>.alloc _
 generalize Om V=V0 at *;obtain⟨r,hr⟩:=Ao3 (V.heap.size+1+1);obtain⟨b2,hb2⟩:=Ao3 (V.heap.size+1);obtain⟨b1,hb1⟩:=Ao3 V.heap.size;rw [←hr]at em en;rw [←hb2]at en;have en':BD V.heap.size V0 r b1 b2 [] [] []:=(by rw [hb1];exact en);clear hr hb2 hb1 en;have O1:∀w',Ab V w'→w'.heap[bm]?=some (.cells #[.slice A m.pts.length c,.slice B m.eds.length d,.slice F m.nf g] 35):=fun w' h=>(h.block _ xH).trans hM;have m1:=Aa (o:=1) (O1 V0 eb) rfl;(go_wp2_with fail);(with_reducible refine em.mono ?_);rintro e w1 ⟨rfl,hw1⟩;rw [hw1];clear hw1
 go_upto_region 3 with fail
 clear m1 em
 go_loopw [10] (fun i wr=>∃j:Nat,i=.int .i64 (j:Nat)/\j<=m.eds.length/\Below V.heap.size V wr/\∃E,BD V.heap.size wr r b1 b2 (AH m.pts (m.eds.take j)) E (BN m.pts (m.eds.take j))) (fun i _=>m.eds.length-(intOf i).toNat)
 case atStart=>exact⟨0,rfl,by omega,eb,[],by simpa [AH,BN]using en'⟩
 case round=>
  obtain⟨j,rfl,hj,Ck,E,hN⟩:=hrel;have Ac:Ab V wr:=Ck;by_cases hlt:j<m.eds.length
  ·have hj0:(0:Int)<=(j:Int):=(by omega);have Bc:(j:Int)<(m.eds.length:Int):=(by omega);obtain⟨b,o,rfl,hg1,hg2,hg3,hg4⟩:=Mf (hB.ext Ac) hlt;have Ep:=Ai.keys hlt;have hne:=Ai.ne _ (Ao8 hlt);have hrg:=Ai.rng _ (Ao8 hlt);have hrl:=QL m.pts (m.eds.take j);have TW:=XN m.pts (m.eds.take j) m.eds[j];have TX:=XO m.pts (m.eds.take j) m.eds[j];rw [←AoA hlt]at TW TX;obtain⟨e,he⟩:=Ao3 (m.eds[j]);rw [←he]at hg1 hg2 hg3 hg4 Ep hne hrg TW TX;clear he;obtain⟨ef,OB⟩:∃n:Nat,e.f=(n:Int):=⟨e.f.toNat,by omega⟩;obtain⟨et,OC⟩:∃n:Nat,e.t=(n:Int):=⟨e.t.toNat,by omega⟩;have Qj:ef<m.pts.length:=(by omega);have Qk:et<m.pts.length:=(by omega);rw [OB]at hg1;rw [OC]at hg2;obtain⟨ba,oa,rfl,ha1,ha2⟩:=Co (hA.ext Ac) Qj;obtain⟨b3,o3,Ke,dC,dD⟩:=Co (hA.ext Ac) Qk;have yj:=Ao4 (AjI hA (by rw [flat_length];simp [Aq];omega));obtain⟨rfl,rfl⟩:ba=b3/\oa=o3:=by simpa using Ke
   have hs:Bv m.pts e=⟨m.pts[ef],m.pts[et]⟩:=by unfold Bv Ev;rw [OB,OC];simp [Qj,Qk]
   obtain⟨pa,Gd⟩:=Ao3 (m.pts[ef]);obtain⟨pb,Qu⟩:=Ao3 (m.pts[et]);rw [←Gd]at ha1 ha2 hs;rw [←Qu]at dC dD hs;rw [hs]at Ep hne TW TX;have f0:(0:Int)<=(ef:Int):=(by omega);have f1:(ef:Int)<(m.pts.length:Int):=(by omega);have f2:(0:Int)<=(et:Int):=(by omega);have f3:(et:Int)<(m.pts.length:Int):=(by omega);have hx1:=(Ab.refl wr).alloc (.cells #[.int .i64 (ef:Nat),.int .i64 (et:Nat),.int .i64 e.l,.int .i64 e.r] 51);have AB:=Ao6 wr (.cells #[.int .i64 (ef:Nat),.int .i64 (et:Nat),.int .i64 e.l,.int .i64 e.r] 51);have IY:=Ao4 TW;have HSR:=Ao4 TX;clear TW TX hs Gd Qu Ke hrg OB OC
   go_upto_region 5 with fail
   have GM:=(hN.ext hx1).ext (Ab.refl _).drew;have EX:=O1 _ (Ac.trans hx1);have k1:=hx1.cellS ha1;have k2:=hx1.cellS ha2;have k3:=hx1.cellS dC;have k4:=hx1.cellS dD;have yT:=Ac.trans hx1;generalize wr.alloc (.cells #[.int .i64 (ef:Nat),.int .i64 (et:Nat),.int .i64 e.l,.int .i64 e.r] 51)=W1 at *;obtain⟨be,xK⟩:=Ao3 wr.heap.size;rw [←xK]at AB ⊢;clear xK ha1 ha2 dC dD hg1 hg2 hg3 hg4;have ad:=Zt GM (by have:=yT.size;show V.heap.size<=W1.heap.size;exact this) ⟨pa,pb⟩ e.l e.r Ep.1 Ep.2 hne (fun x hx=>by have:=hrl x hx;rw [List.length_take]at this;omega);unfold AC at ad
   have SO:∀w',Ab W1 w'→(w'.cell? ⟨bm,0,none⟩=some (.slice (some ⟨ba,oa,none⟩) m.pts.length c)/\w'.cell? ⟨be,0,none⟩=some (.int .i64 (ef:Nat))/\w'.cell? ⟨be,1,none⟩=some (.int .i64 (et:Nat))/\w'.cell? ⟨be,2,none⟩=some (.int .i64 e.l)/\w'.cell? ⟨be,3,none⟩=some (.int .i64 e.r)/\w'.cell? ⟨ba,oa+ef*2,none⟩=some (S (R pa.x))/\w'.cell? ⟨ba,oa+ef*2+1,none⟩=some (S (R pa.y))/\w'.cell? ⟨ba,oa+et*2,none⟩=some (S (R pb.x))/\w'.cell? ⟨ba,oa+et*2+1,none⟩=some (S (R pb.y))):=fun w' h=>⟨h.cellS (Aa EX rfl),h.cellS (Aa AB rfl),h.cellS (Aa AB rfl),h.cellS (Aa AB rfl),h.cellS (Aa AB rfl),h.cellS k1,h.cellS k2,h.cellS k3,h.cellS k4⟩
   have XL:be≠b1:=(by intro e;have q:=GM.left;rw [←e]at q;cases (show W1.heap[be]?=_ from q).symm.trans AB);have NA:be≠b2:=(by intro e;have q:=GM.ar.blk;rw [←e]at q;cases (show W1.heap[be]?=_ from q).symm.trans AB);have Av:ba<V.heap.size:=yj.out;have X:Ab W1 W1:=Ab.refl W1;have Xd:=X.drew
   go_region_held3 (fun w'=>w'.cell? ⟨bm,0,none⟩=some (.slice (some ⟨ba,oa,none⟩) m.pts.length c)/\w'.cell? ⟨be,0,none⟩=some (.int .i64 (ef:Nat))/\w'.cell? ⟨be,1,none⟩=some (.int .i64 (et:Nat))/\w'.cell? ⟨be,2,none⟩=some (.int .i64 e.l)/\w'.cell? ⟨be,3,none⟩=some (.int .i64 e.r)/\w'.cell? ⟨ba,oa+ef*2,none⟩=some (S (R pa.x))/\w'.cell? ⟨ba,oa+ef*2+1,none⟩=some (S (R pa.y))/\w'.cell? ⟨ba,oa+et*2,none⟩=some (S (R pb.x))/\w'.cell? ⟨ba,oa+et*2+1,none⟩=some (S (R pb.y)))
    (first|with_reducible exact SO _ Xd|exact S5)
    (first|((with_reducible refine ad.mono ?_);rintro _ w5 ⟨rfl,hb5,hs5,E5,O2⟩;have S5:(w5.cell? ⟨bm,0,none⟩=some (.slice (some ⟨ba,oa,none⟩) m.pts.length c)/\w5.cell? ⟨be,0,none⟩=some (.int .i64 (ef:Nat))/\w5.cell? ⟨be,1,none⟩=some (.int .i64 (et:Nat))/\w5.cell? ⟨be,2,none⟩=some (.int .i64 e.l)/\w5.cell? ⟨be,3,none⟩=some (.int .i64 e.r)/\w5.cell? ⟨ba,oa+ef*2,none⟩=some (S (R pa.x))/\w5.cell? ⟨ba,oa+ef*2+1,none⟩=some (S (R pa.y))/\w5.cell? ⟨ba,oa+et*2,none⟩=some (S (R pb.x))/\w5.cell? ⟨ba,oa+et*2+1,none⟩=some (S (R pb.y))):=⟨Aa ((hb5.block bm xH).trans EX) rfl,Aa (hs5 be _ AB XL NA (by intro cs e;cases e)) rfl,Aa (hs5 be _ AB XL NA (by intro cs e;cases e)) rfl,Aa (hs5 be _ AB XL NA (by intro cs e;cases e)) rfl,Aa (hs5 be _ AB XL NA (by intro cs e;cases e)) rfl,V9 hb5 Av k1,V9 hb5 Av k2,V9 hb5 Av k3,V9 hb5 Av k4⟩))
   have Wj:=IY.out▸HSR.out▸O2;have Bj:Below V.heap.size V w5:=Below.trans (Ab.drew yT) hb5;have yh:=Ao4 Bj;clear SO S5 X Xd ad hb5 hs5 Bj;go_wp2;go_roundw
   case rel=>exact⟨j+1,by go_num,hlt,yh.out,E5,Wj⟩
   case measure=>simp [intOf];omega
  ·have eV:(m.eds.length:Int)<=(j:Int):=(by omega);obtain rfl:j=m.eds.length:=(by omega);rw [AoF (Ao7 _)]at hN;have HN:=Ao4 hN;have HE:=Ao4 (hE.trans Ac);have HS:=Ao4 hE.size;clear hN Ac Ck;go_wp2;go_ret;have hN:=HN.out;exact⟨r,b1,b2,E,rfl,HE.out,⟨hN.cell,hN.left,⟨hN.ar.blk,hN.ar.len,fun i hi hi'=>⟨(hN.ar.row i hi hi').1,(hN.ar.row i hi hi').2.1,om (hN.ar.row i hi hi').2.2 HS.out⟩,hN.ar.apart,AoH HS.out hN.ar.own⟩,AoH HS.out hN.r0,AoH HS.out hN.r1,hN.ne⟩⟩
end Go.Proofs.YtnddllipjippnaaGreatDoor
namespace Go.Proofs.YtnddllipjippnaaGreatDoor
open Go.RowKit Kl
def JV(R0:List (Pt×List Pt))(p:Pt):Nat:=match R0.find? (fun e=>Ax p e.1)with|some e=>e.2.length|none=>0
theorem AdT{E:List (Pt×Value×Nat)}{R0:List (Pt×List Pt)}{B:Nat}{W:World}{b2:Nat}(h:DO B W b2 E R0)(p:Pt) :
  (∃A c,FI Ax (.slice none 0 0) p E=.slice A (JV R0 p) c):=by
 have DI:=aG h.len (fun i h1 h2=>(h.row i h1 h2).1) p;unfold FI JV
 cases hf:R0.findIdx? (fun e=>Ax p e.1)with
 | none=>
  rw [hf]at DI
  have e1:E.find? (fun e=>Ax p e.1)=none:=by rw [List.find?_eq_none];rw [List.findIdx?_eq_none_iff]at DI;intro x hx;rw [DI x hx];simp
  have e2:R0.find? (fun e=>Ax p e.1)=none:=by rw [List.find?_eq_none];rw [List.findIdx?_eq_none_iff]at hf;intro x hx;rw [hf x hx];simp
  rw [e1,e2];exact⟨none,0,rfl⟩
 | some j=>
  rw [hf]at DI;rw [List.findIdx?_eq_some_iff_getElem]at DI hf;obtain⟨hj,h1,h2⟩:=DI;obtain⟨hj',h3,h4⟩:=hf
  have e1:E.find? (fun e=>Ax p e.1)=some E[j]:=by rw [List.find?_eq_some_iff_getElem];exact⟨h1,j,hj,rfl,fun i hi=>by have:=h2 i hi;simpa using this⟩
  have e2:R0.find? (fun e=>Ax p e.1)=some R0[j]:=by rw [List.find?_eq_some_iff_getElem];exact⟨h3,j,hj',rfl,fun i hi=>by have:=h4 i hi;simpa using this⟩
  rw [e1,e2]
  rcases(h.row j hj hj').2.2.2 with⟨hv,hn⟩|⟨g,cap,cur,hv,_⟩
  ·simp only;rw [hv,hn];exact⟨none,0,rfl⟩
  ·simp only;rw [hv];exact⟨_,_,rfl⟩
theorem AdI{B:Nat}{w:World}{r b1 b2:Nat}{L:List (Sg×Int)}{E:List (Pt×Value×Nat)}{R0:List (Pt×List Pt)}(h:BD B w r b1 b2 L E R0)(bn:Nat)(Cx:w.cell? ⟨bn,0,none⟩=some (.pointer (some ⟨r,0,none⟩)))(p:Pt) :
  Calls Tryz.prog 52 #[Ak p,.pointer (some ⟨bn,0,none⟩)] w (BF (decide (JV R0 p<2)) w):=by
 have hE:=(Ab.refl w).alloc (.cells #[S (R p.x),S (R p.y)] 24);have hb0:=Ao6 w (.cells #[S (R p.x),S (R p.y)] 24);have hN:=h.ext hE;obtain⟨A,c,hv⟩:=AdT h.ar p;have xX:=hE.cellS Cx;obtain⟨x,hx⟩:=Ao3 (decide (JV R0 p<2));rw [←hx];have HX:=Ao4 (show x=decide ((JV R0 p:Int)<2)by rw [hx];simp;omega);unfold Ak;clear hx;go_enter Tryz.func52,Tryz.ntmps52
 go_upto_region 1 with fail
 generalize w.alloc (.cells #[S (R p.x),S (R p.y)] 24)=V at *;obtain⟨bp,Au⟩:=Ao3 w.heap.size;rw [←Au]at hb0 ⊢;clear Au;have q1:∀q:Ad V,q.w.cell? ⟨bn,0,none⟩=some (.pointer (some ⟨r,0,none⟩)):=Ad.cell xX;have q2:∀q:Ad V,q.w.cell? ⟨r,1,none⟩=some (.map (some b2)):=Ad.cell (Aa hN.cell rfl);have q3:∀q:Ad V,q.w.cell? ⟨bp,0,none⟩=some (S (R p.x)):=Ad.cell (Aa hb0 rfl);have q4:∀q:Ad V,q.w.cell? ⟨bp,1,none⟩=some (S (R p.y)):=Ad.cell (Aa hb0 rfl)
 have q5:∀q:Ad V,(Instr.lookup 96 (.map (some b2)) (Ak p) false).run Tryz.prog q.w=.ok (.slice A (JV R0 p) c) q.w:=fun q=>by rw [Rf QE p E (W:=q.w) ((q.h.block b2 hN.ar.lt).trans hN.ar.blk),hv]
 unfold Ak at q5;clear xX hb0 hN h Cx hv;refine Di (by kernel_rfl) (by kernel_rfl) ?_
 repeat (go_big_quiet_step (fail))
 refine wpQuiet_nil ?_;rintro _ ⟨q,rfl⟩;go_wp2;go_ret;exact⟨by rw [HX.out];rfl,hE.trans q.h⟩
end Go.Proofs.YtnddllipjippnaaGreatDoor
