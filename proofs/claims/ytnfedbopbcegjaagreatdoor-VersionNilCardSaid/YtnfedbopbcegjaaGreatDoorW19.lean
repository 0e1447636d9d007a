/- W19. -/
import Derived.Maps.AppendAt
import Derived.Test.YtnfedbopbcegjaaGreatDoorW16
set_option maxRecDepth 100000
set_option maxHeartbeats 8000000
namespace Go.Proofs.YtnfedbopbcegjaaGreatDoor
open Go.RowKit Kl
open Go.ChangeMaps (setBlock)
def Fb(R:List (Pt×List Pt))(p:Pt):Nat:=(R.findIdx? (fun e=>Ah p e.1)).getD R.length
def Fz(R:List (Pt×List Pt))(p:Pt):List (Pt×List Pt):=match R.findIdx? (fun e=>Ah p e.1)with|some _=>R|none=>R ++ [(p,[])]
def Du(R:List (Pt×List Pt))(p q:Pt):List (Pt×List Pt):=(Fz R p).modify (Fb R p) (fun e=>(e.1,e.2 ++ [q]))
structure Do(B:Nat)(W:World)(b2:Nat)(E:List (Pt×Value×Nat))(R:List (Pt×List Pt)):Prop where
 blk:W.heap[b2]?=some (.map (Az Ag E).toArray E.length)
 len:E.length=R.length
 row:∀i (h:i<E.length) (h':i<R.length),E[i].1=R[i].1/\E[i].2.2=i/\W.ownsRow B 28 2 E[i].2.1 R[i].2.length (flat (Aq R[i].2))
 apart:∀i j (hi:i<E.length) (hj:j<E.length),i≠j→E[i].2.1.ownBlock=none∨E[i].2.1.ownBlock≠E[j].2.1.ownBlock
 own:B<=b2
theorem Do.lt{B:Nat}{W:World}{b2:Nat}{E:List (Pt×Value×Nat)}{R:List (Pt×List Pt)}(h:Do B W b2 E R):b2<W.heap.size:=(Array.getElem?_eq_some_iff.1 h.blk).1
theorem Do.keep{B:Nat}{W W':World}{b2:Nat}{E:List (Pt×Value×Nat)}{R:List (Pt×List Pt)}(h:Do B W b2 E R)(hg:W.grownBy W' none):Do B W' b2 E R:=
 ⟨(hg.block b2 h.lt (by simp)).trans h.blk,h.len,fun i hi hi'=>⟨(h.row i hi hi').1,(h.row i hi hi').2.1,(h.row i hi hi').2.2.kept hg (by
  rcases hv:E[i].2.1.ownBlock with _|g
  ·exact .inl rfl
  ·exact .inr (by simp))⟩,h.apart,h.own⟩
theorem WF{E:List (Pt×Value×Nat)}{R:List (Pt×List Pt)}(hl:E.length=R.length)(he:∀i (h:i<E.length) (h':i<R.length),E[i].1=R[i].1)(p:Pt):E.findIdx? (fun e=>Ah p e.1)=R.findIdx? (fun e=>Ah p e.1):=by
 have h1:E.map (·.1)=R.map (·.1):=by
  apply List.ext_getElem
  ·simp [hl]
  ·intro i h1 h2;simp at h1 h2 ⊢;exact he i h1 h2
 have f:∀{β:Type} (l:List (Pt×β)),l.findIdx? (fun e=>Ah p e.1)=(l.map (·.1)).findIdx? (Ah p):=by
  intro β l;rw [List.findIdx?_map]
  rfl
 rw [f E,f R,h1]
theorem J9{w:World}{b:Nat}{o o':Obj}(_:w.heap[b]?=some o'):w.grownBy (setBlock w b o) (some b):=
 ⟨rfl,rfl,rfl,by simp [setBlock],fun k _ hk=>Rs (fun e=>hk (by rw [e]))⟩
theorem Do.entry{B:Nat}{W:World}{b2:Nat}{E:List (Pt×Value×Nat)}{R:List (Pt×List Pt)}(h:Do B W b2 E R)(p:Pt) :
  ∃W1 E1,Do B W1 b2 E1 (Fz R p)/\W.grownBy W1 (some b2)/\W1.heap.size=W.heap.size/\∃hj:Fb R p<E1.length,∃hj':Fb R p<(Fz R p).length,((Fz R p)[Fb R p]).1=p/\
   (∀V,V.heap[b2]?=W.heap[b2]?→(Instr.mapEntry 161 (.map (some b2)) (Ag p)).run Tryz.prog V=.ok (.tuple #[E1[Fb R p].2.1,.int .i64 (Fb R p:Nat)]) (setBlock V b2 (.map (Az Ag E1).toArray E1.length)))/\W1=setBlock W b2 (.map (Az Ag E1).toArray E1.length):=by
 have EQ:=WF h.len (fun i h1 h2=>(h.row i h1 h2).1) p
 cases hf:R.findIdx? (fun e=>Ah p e.1)with
 | none=>
  have e1:Fb R p=R.length:=(by unfold Fb;rw [hf];rfl);have e2:Fz R p=R ++ [(p,[])]:=(by unfold Fz;rw [hf]);rw [hf]at EQ;have hno:∀e∈E,Ah p e.1=false:=(by rw [List.findIdx?_eq_none_iff]at EQ;exact EQ);have hnew:=aK Ox p E hno (W:=W) h.blk;rw [e2];refine⟨_,E ++ [(p,.slice none 0 0,E.length)],⟨?_,?_,?_,?_,h.own⟩,J9 h.blk,?_,?_,?_,?_,?_,rfl⟩
  ·rw [Kr h.blk]
  ·simp [h.len]
  ·intro i hi hi';by_cases hlt:i<E.length
   ·have Ol:i<R.length:=(by rw [←h.len];exact hlt);rw [List.getElem_append_left hlt,List.getElem_append_left Ol];obtain⟨r1,r2,r3⟩:=h.row i hlt Ol;refine⟨r1,r2,r3.kept (J9 h.blk) ?_⟩
    rcases r3.2 with⟨hn,_⟩|⟨g,cap,cur,hv,hb,hg,_⟩
    ·left;rw [hn];rfl
    ·right
     rw [hv];simp only [Value.ownBlock,ne_eq,AjR];intro e;rw [e,h.blk]at hg
     cases hg
   ·have Qs:i=E.length:=(by simp at hi;omega);subst Qs;rw [List.getElem_append_right (by omega),List.getElem_append_right (by rw [h.len];omega)];simp only [Nat.sub_self,List.getElem_cons_zero,h.len];exact⟨by trivial,by trivial,⟨rfl,.inl ⟨rfl,rfl⟩⟩⟩
  ·intro i j hi hj AL;by_cases Ub:i<E.length
   ·rw [List.getElem_append_left Ub];by_cases Ay:j<E.length
    ·rw [List.getElem_append_left Ay];exact h.apart i j Ub Ay AL
    ·rw [List.getElem_append_right (by omega)];have Gp:j=E.length:=(by simp at hj;omega);subst Gp;simp only [Nat.sub_self,List.getElem_cons_zero]
     cases E[i].2.1.ownBlock with
     | none=>left;rfl
     | some g=>right;simp [Value.ownBlock]
   ·rw [List.getElem_append_right (by omega)];have Qs:i=E.length:=(by simp at hi;omega);subst Qs
    left
    simp [Value.ownBlock]
  ·simp [setBlock]
  ·rw [e1,←h.len];simp
  ·rw [e1];simp
  ·simp only [e1];rw [List.getElem_append_right (by omega)];simp
  ·intro V hV;have hnV:=aK Ox p E hno (W:=V) (hV.trans h.blk);rw [hnV];simp only [e1];rw [List.getElem_append_right (by rw [h.len];omega)];simp [h.len]
 | some j=>
  have e1:Fb R p=j:=(by unfold Fb;rw [hf];rfl);have e2:Fz R p=R:=(by unfold Fz;rw [hf]);rw [hf]at EQ;rw [List.findIdx?_eq_some_iff_getElem]at EQ;obtain⟨hj,h1,h2⟩:=EQ;have hj':j<R.length:=by rw [←h.len];exact hj
  have hno:∀e∈E.take j,Ah p e.1=false:=by
   intro e he;rw [List.mem_take_iff_getElem]at he;obtain⟨i,hi,rfl⟩:=he;have:=h2 i (by omega)
   simpa using this
  have hk:E[j].1=p:=(BN.1 h1).symm;rw [e2];refine⟨W,E,h,⟨rfl,rfl,rfl,AjN _,fun _ _ _=>rfl⟩,rfl,by rw [e1];exact hj,by rw [e1];exact hj',?_,?_,(aP h.blk).symm⟩
  ·simp only [e1];rw [←(h.row j hj hj').1];exact hk
  ·intro V hV;have hb:=hV.trans h.blk;have:=Agr Ox p E hj hno hk (W:=V) hb;rw [this,aP hb];simp only [e1,(h.row j hj hj').2.1]
theorem Do.append{B:Nat}{Y:World}{b2:Nat}{E:List (Pt×Value×Nat)}{R:List (Pt×List Pt)}(h:Do B Y b2 E R)(hB:B<=Y.heap.size){j:Nat}(hj:j<E.length)(hj':j<R.length)(hn:R[j].2.length<200000)
  (q:Pt) {g:Nat} (hg:Y.heap[g]?=some (.cells #[S (Kl.R q.x),S (Kl.R q.y)] 28)) (ty:TypeId) :
  ∃v' Z Z',(Builtin.append_ #[41,41] ty #[E[j].2.1,.slice (some ⟨g,0,none⟩) 1 1]).run Tryz.prog Y=.ok v' Z/\Y.grownBy Z E[j].2.1.ownBlock
   /\(Instr.entryStore 161 (.map (some b2)) (.int .i64 (j:Nat)) v').run Tryz.prog Z=.ok () Z'/\Z.grownBy Z' (some b2)/\Do B Z' b2 (E.set j (E[j].1,v',j)) (R.modify j (fun e=>(e.1,e.2 ++ [q]))):=by
 obtain⟨i0,hi,hz0,hz1,hz2⟩:=info_parts Tryz.infoPt;obtain⟨r1,r2,r3⟩:=h.row j hj hj'
 obtain⟨v',Z,hr,hown,hgr,_,hat⟩:=run_append_own_at (P:=Tryz.prog) Y B 41 ty 28 i0 (.agg #[S [],S []]) 2 32 Tryz.underlying41 hi hz0 hz1 hz2 rfl (by omega) E[j].2.1 R[j].2.length (flat (Aq R[j].2)) r3
  ⟨g,0,none⟩ 1 1 [S (Kl.R q.x),S (Kl.R q.y)] rfl (fun k u hu=>by
   rw [Addr.add_lit,Nat.zero_add];refine Ab hg ?_;rw [←Array.getElem?_toList]
   exact hu) (fun u hu=>by
   simp only [List.mem_cons,AjY,or_false]at hu
   rcases hu with rfl|rfl<;>rfl) (by unfold maxLen;omega) (by omega) hB
 rw [←aC]at hown
 have hb2:Z.heap[b2]?=Y.heap[b2]?:=hgr.block b2 h.lt (by
  rcases r3.2 with⟨hv,_⟩|⟨g0,cap,cur,hv,_,hg0,_⟩
  ·rw [hv];simp [Value.ownBlock]
  ·rw [hv];simp only [Value.ownBlock,ne_eq,AjR];intro e;rw [←e,h.blk]at hg0
   cases hg0)
 have TF:=hb2.trans h.blk
 have hno:∀e∈E.take j,e.2.2≠E[j].2.2:=by intro e he;rw [List.mem_take_iff_getElem]at he;obtain⟨i,hi,rfl⟩:=he;rw [(h.row i (by omega) (by rw [←h.len];omega)).2.1,r2];omega
 have hst:=yI (enc:=Ag) 161 E hj hno v' TF;rw [r2]at hst;have Yi:=J9 (o:=.map (Az Ag (E.set j (E[j].1,v',j))).toArray E.length) TF;refine⟨v',Z,_,hr,hgr,hst,Yi,⟨?_,?_,?_,?_,h.own⟩⟩
 ·rw [Kr TF];simp
 ·simp [h.len]
 ·intro i hi hi';have Ls:i<E.length:=(by simpa using hi);have JV:i<R.length:=(by simpa using hi');by_cases AL:j=i
  ·subst AL;rw [List.getElem_set_self,List.getElem_modify_eq];refine⟨r1,rfl,?_⟩;have hl:(R[j].2 ++ [q]).length=R[j].2.length+1:=(by simp);simp only [hl];refine hown.kept Yi ?_
   rcases hown.2 with⟨hv,_⟩|⟨g0,cap,cur,hv,_,hg0,_⟩
   ·left;rw [hv];rfl
   ·right
    rw [hv];simp only [Value.ownBlock,ne_eq,AjR];intro e;rw [e,TF]at hg0
    cases hg0
  ·rw [List.getElem_set_ne AL];have hm:(R.modify j (fun e=>(e.1,e.2 ++ [q])))[i]=R[i]:=(by rw [List.getElem_modify,if_neg AL]);rw [hm];obtain⟨s1,s2,s3⟩:=h.row i Ls JV;refine⟨s1,s2,(s3.kept hgr (h.apart i j Ls hj (fun e=>AL e.symm))).kept Yi ?_⟩
   rcases s3.2 with⟨hv,_⟩|⟨g0,cap,cur,hv,_,hg0,_⟩
   ·left;rw [hv];rfl
   ·right
    rw [hv];simp only [Value.ownBlock,ne_eq,AjR];intro e;rw [e,h.blk]at hg0
    cases hg0
 ·intro i k hi hk hik;have Ls:i<E.length:=(by simpa using hi);have Qv:k<E.length:=by simpa using hk
  have hlt:∀x (hx:x<E.length) (hx':x<R.length),E[x].2.1.ownBlock≠some Y.heap.size:=by
   intro x hx hx'
   rcases(h.row x hx hx').2.2.2 with⟨hv,_⟩|⟨g0,cap,cur,hv,_,hg0,_⟩
   ·rw [hv];simp [Value.ownBlock]
   ·rw [hv];have:=(Array.getElem?_eq_some_iff.1 hg0).1;simp only [Value.ownBlock,ne_eq,AjR];omega
  by_cases AL:j=i
  ·subst AL;rw [List.getElem_set_self,List.getElem_set_ne hik]
   rcases hat with e|e
   ·rw [e];exact h.apart j k Ls Qv hik
   ·rw [e];right;exact fun e'=>hlt k Qv (by rw [←h.len];exact Qv) e'.symm
  ·rw [List.getElem_set_ne AL];by_cases hjk:j=k
   ·subst hjk;rw [List.getElem_set_self]
    rcases hat with e|e
    ·rw [e];exact h.apart i j Ls Qv hik
    ·rw [e];right;exact hlt i Ls (by rw [←h.len];exact Ls)
   ·rw [List.getElem_set_ne hjk];exact h.apart i k Ls Qv hik
def stamp(L:List (Sg×Int)):List (Sg×Value×Nat):=L.mapIdx fun i e=>(e.1,.int .i64 e.2,i)
theorem CY(L:List (Sg×Int)):(stamp L).length=L.length:=by simp [stamp]
theorem zP(L:List (Sg×Int))(e:Sg×Int):stamp (L ++ [e])=stamp L ++ [(e.1,.int .i64 e.2,L.length)]:=by simp [stamp,List.mapIdx_append]
theorem zO{L:List (Sg×Int)}{x:Sg×Value×Nat}(h:x∈stamp L):∃e∈L,x.1=e.1:=by
 unfold stamp at h;rw [List.mem_mapIdx]at h;obtain⟨i,hi,rfl⟩:=h;exact⟨L[i],AjO hi,rfl⟩
theorem Ahd{L:List (Sg×Int)}{x:Sg×Value×Nat}(h:x∈stamp L):x.2.2<L.length:=by
 unfold stamp at h;rw [List.mem_mapIdx]at h;obtain⟨i,hi,rfl⟩:=h;exact hi
structure Bn(B:Nat)(W:World)(r b1 b2:Nat)(L:List (Sg×Int))(E:List (Pt×Value×Nat))(R:List (Pt×List Pt)):Prop where
 cell:W.heap[r]?=some (.cells #[.map (some b1),.map (some b2)] 163)
 left:W.heap[b1]?=some (.map (Az Ax (stamp L)).toArray L.length)
 ar:Do B W b2 E R
 r0:B<=r
 r1:B<=b1
 ne:b1≠b2
theorem uC{W:World}{b1:Nat}{L:List (Sg×Int)}(h:W.heap[b1]?=some (.map (Az Ax (stamp L)).toArray L.length))(s:Sg)(hno:∀e∈L,AK s e.1=false)(z:Int) :
  ∃X,(Instr.mapEntry 160 (.map (some b1)) (Ax s)).run Tryz.prog W=.ok (.tuple #[.int .i64 0,.int .i64 (L.length:Nat)]) X
   /\W.grownBy X (some b1)/\X.heap.size=W.heap.size
   /\∃Z,(Instr.entryStore 160 (.map (some b1)) (.int .i64 (L.length:Nat)) (.int .i64 z)).run Tryz.prog X=.ok () Z/\W.grownBy Z (some b1)/\Z.heap.size=W.heap.size/\Z.heap[b1]?=some (.map (Az Ax (stamp (L ++ [(s,z)]))).toArray (L ++ [(s,z)]).length):=by
 have Acw:∀e∈stamp L,AK s e.1=false:=by intro e he;obtain⟨x,hx,h1⟩:=zO he;rw [h1];exact hno x hx
 have h1:=aK Zu s (stamp L) Acw (W:=W) h;have hb:=Kr (o:=.map (Az Ax (stamp L ++ [(s,.int .i64 0,L.length)])).toArray (L.length+1)) h;have hlt:L.length<(stamp L ++ [(s,Value.int .i64 0,L.length)]).length:=by simp [CY]
 have hge:(stamp L ++ [(s,Value.int .i64 0,L.length)])[L.length]=(s,.int .i64 0,L.length):=by rw [List.getElem_append_right (by rw [CY];omega)];simp [CY]
 have h2:=yI (enc:=Ax) 160 (stamp L ++ [(s,.int .i64 0,L.length)]) hlt (by
  intro e he;rw [hge]
  have:e∈stamp L:=by rw [List.take_append_of_le_length (by rw [CY];omega),AjV (by rw [CY];omega)]at he;exact he
  have:=Ahd this;show e.2.2≠L.length
  omega) (.int .i64 z) hb
 rw [hge]at h2
 have AZ:(stamp L ++ [(s,Value.int .i64 0,L.length)]).set L.length (s,.int .i64 z,L.length)=stamp (L ++ [(s,z)]):=by rw [zP,List.set_append_right _ _ (by rw [CY];omega)];simp [CY]
 rw [AZ]at h2;refine⟨_,h1,J9 h,by simp [setBlock],_,h2,?_,by simp [setBlock],?_⟩
 ·exact⟨rfl,rfl,rfl,by simp [setBlock],fun k _ hk=>by
   have hkb:k≠b1:=fun e=>hk (by rw [e])
   rw [Rs hkb,Rs hkb]⟩
 ·rw [Kr hb];simp
theorem N8{w w':World}{row:Option Nat}(hg:w.grownBy w' row){a:Addr}{v:Value}(h:w.cell? a=some v)(hn:some a.block≠row):w'.cell? a=some v:=by
 have hlt:a.block<w.heap.size:=by
  unfold World.cell? at h
  rcases Nat.lt_or_ge a.block w.heap.size with h'|h'
  ·exact h'
  ·simp [Array.getElem?_eq_none h']at h
 exact(World.cell?_of_block (hg.block a.block hlt hn)).trans h
theorem DJ{w w':World}(h:Aa w w')(row:Option Nat):w.grownBy w' row:=⟨h.os,h.tape,h.output,h.size,fun k hk _=>h.block k hk⟩
theorem Mp{a b c:World}{row:Option Nat}(h:a.grownBy b row)(k:b.grownBy c row):a.grownBy c row:=
 ⟨k.os.trans h.os,k.tape.trans h.tape,k.output.trans h.output,AjX h.size k.size,fun i hi hr=>(k.block i (AjW hi h.size) hr).trans (h.block i hi hr)⟩
theorem below_grown{B:Nat}{w w':World}{b:Nat}(hg:w.grownBy w' (some b))(hb:B<=b)(hB:B<=w.heap.size):Below B w w':=
 ⟨hg.os,hg.tape,hg.output,hg.size,fun k hk=>hg.block k (by omega) (by intro e;cases e;omega)⟩
theorem AdI{W:World}{b1:Nat}{L:List (Sg×Int)}(h:W.heap[b1]?=some (.map (Az Ax (stamp L)).toArray L.length))(s:Sg)(h1:∀e∈L,AK s e.1=false)(h2:∀e∈L,AK (Bc s) e.1=false)(hne:AK (Bc s) s=false)(y z:Int) :
  ∃(n1:Nat) (X Z X2 Z2:World),(Instr.mapEntry 160 (.map (some b1)) (Ax s)).run Tryz.prog W=.ok (.tuple #[.int .i64 0,.int .i64 (L.length:Nat)]) X
   /\(Instr.entryStore 160 (.map (some b1)) (.int .i64 (L.length:Nat)) (.int .i64 y)).run Tryz.prog X=.ok () Z
   /\(Instr.mapEntry 160 (.map (some b1)) (Ax (Bc s))).run Tryz.prog Z=.ok (.tuple #[.int .i64 0,.int .i64 (n1:Nat)]) X2
   /\(Instr.entryStore 160 (.map (some b1)) (.int .i64 (n1:Nat)) (.int .i64 z)).run Tryz.prog X2=.ok () Z2
   /\W.grownBy X (some b1)/\W.grownBy Z (some b1)/\W.grownBy X2 (some b1)/\W.grownBy Z2 (some b1)/\Z2.heap.size=W.heap.size/\Z2.heap[b1]?=some (.map (Az Ax (stamp (L ++ [(s,y),(Bc s,z)]))).toArray (L ++ [(s,y),(Bc s,z)]).length):=by
 obtain⟨X,e1,g1,s1,Z,e2,g2,s2,hb⟩:=uC h s h1 y
 obtain⟨X2,e3,g3,s3,Z2,e4,g4,s4,hb2⟩:=uC hb (Bc s) (by
  intro e he
  rcases List.mem_append.1 he with he|he
  ·exact h2 e he
  ·simp only [AjZ]at he;subst he;exact hne) z
 have hl:(L ++ [(s,y)]).length=L.length+1:=(by simp);rw [hl]at e3 e4;rw [List.append_assoc]at hb2;exact⟨L.length+1,X,Z,X2,Z2,e1,e2,e3,e4,g1,g2,Mp g2 g3,Mp g2 g4,by omega,hb2⟩
section
variable {ops : Array Oper} {o : Oper} {a : Act} {K : Act → World → Prop} {Q : Exit → Act → World → Prop} {E : Prop}
theorem zT(hgd:o.guard=none)(s x:Operand)(ho:o.op=.call {callee:=.builtin .append,args:=#[s,x],argTypes:=#[41,41]})
  {v u v':Value} {w Z:World} (hs:a.eval s=v) (hx:a.eval x=u) (hr:(Builtin.append_ #[41,41] o.type #[v,u]).run Tryz.prog w=.ok v' Z) (h:K (a.put o.dst v') Z) :
  if Region.wanted o (yielded ops a.tmps)=true then Oper.wp Tryz.prog o a w K Q else E:=by
 have hw:Region.wanted o (yielded ops a.tmps)=true:=(by simp [Region.wanted,hgd]);rw [if_pos hw];unfold Oper.wp execOp;simp only [ho,resolve,invoke,builtin,Sem.run_bind,Sem.run_pure,Result.andThen_ok,List.map_toArray,List.map_cons,List.map_nil,hs,hx,hr];exact h
end
def B1(b2:Nat)(W V:World):Prop:=W.heap.size<=V.heap.size/\∀k o,W.heap[k]?=some o→k≠b2→(∀cs,o≠.cells cs 28 (0,0))→V.heap[k]?=some o
theorem B1.trans{b2:Nat}{a b c:World}(h:B1 b2 a b)(k:B1 b2 b c):B1 b2 a c:=
 ⟨AjX h.1 k.1,fun i o h1 h2 h3=>k.2 i o (h.2 i o h1 h2 h3) h2 h3⟩
theorem B1.of_ext{b2:Nat}{a b:World}(h:Aa a b):B1 b2 a b:=⟨h.size,fun i _ h1 _ _=>(h.block i (Array.getElem?_eq_some_iff.1 h1).1).trans h1⟩
theorem B1.of_grown{b2:Nat}{a b:World}(h:a.grownBy b (some b2)):B1 b2 a b:=⟨h.size,fun i _ h1 h2 _=>(h.block i (Array.getElem?_eq_some_iff.1 h1).1 (by simp;exact h2)).trans h1⟩
theorem fD{R:List (Pt×List Pt)}{p:Pt}{n:Nat}(h:∀e∈R,e.2.length<=n):∀e∈Fz R p,e.2.length<=n:=by
 unfold Fz
 split
 ·exact h
 ·intro e he
  rcases List.mem_append.1 he with he|he
  ·exact h e he
  ·simp only [AjZ]at he;subst he;simp
theorem VL{R:List (Pt×List Pt)}{p q:Pt}{n:Nat}(h:∀e∈R,e.2.length<=n):∀e∈Du R p q,e.2.length<=n+1:=by
 intro e he;unfold Du at he;obtain⟨i,hi,rfl⟩:=List.getElem_of_mem he;rw [List.getElem_modify];have hi':i<(Fz R p).length:=(by simpa using hi);have:=fD (p:=p) h _ (AjO hi')
 split
 ·simp;omega
 ·omega
theorem fE{B:Nat}{W:World}{b2:Nat}{E:List (Pt×Value×Nat)}{R0:List (Pt×List Pt)}(h:Do B W b2 E R0)(hB:B<=W.heap.size)(p q:Pt)(hn:∀e∈R0,e.2.length<=100000) :
  ∃(j:Nat) (v v':Value) (X Z Z':World) (E':List (Pt×Value×Nat)),
   (Instr.mapEntry 161 (.map (some b2)) (Ag p)).run Tryz.prog (W.alloc (.cells #[S (R q.x),S (R q.y)] 28)).drew=.ok (.tuple #[v,.int .i64 (j:Nat)]) X
   /\(∀ty,ty=41→(Builtin.append_ #[41,41] ty #[v,.slice (some ⟨W.heap.size,0,none⟩) 1 1]).run Tryz.prog X=.ok v' Z)
   /\(Instr.entryStore 161 (.map (some b2)) (.int .i64 (j:Nat)) v').run Tryz.prog Z=.ok () Z'
   /\B1 b2 W X/\B1 b2 W Z/\B1 b2 W Z'/\Below B W Z'/\Do B Z' b2 E' (Du R0 p q):=by
 have hx:=((Aa.refl W).alloc (.cells #[S (R q.x),S (R q.y)] 28)).drew;have hg0:(W.alloc (.cells #[S (R q.x),S (R q.y)] 28)).drew.heap[W.heap.size]?=_:=AjM W (.cells #[S (R q.x),S (R q.y)] 28);have hA:=h.keep (DJ hx none);obtain⟨X,E1,hA1,g1,s1,hj,hj',hk,hrun,hX⟩:=hA.entry p;have hgX:X.heap[W.heap.size]?=some (.cells #[S (R q.x),S (R q.y)] 28):=(g1.block _ (by simp) (by have:=h.lt;simp;omega)).trans hg0;have kD:B<=X.heap.size:=by rw [s1];simp;omega
 have hlen:((Fz R0 p)[Fb R0 p]).2.length<200000:=by have:=fD hn _ (AjO hj');omega
 obtain⟨v',Z,Z',hr,gZ,hst,jV,hA2⟩:=hA1.append kD hj hj' hlen q hgX 41;have aU:B1 b2 W X:=(B1.of_ext hx).trans (B1.of_grown g1)
 have zN:B1 b2 X Z:=by
  refine⟨gZ.size,fun k o h1 _ h3=>(gZ.block k (Array.getElem?_eq_some_iff.1 h1).1 ?_).trans h1⟩
  rcases(hA1.row _ hj hj').2.2.2 with⟨hv,_⟩|⟨g,cap,cur,hv,_,hg,_⟩
  ·rw [hv];simp [Value.ownBlock]
  ·rw [hv];simp only [Value.ownBlock,ne_eq,AjR];intro e;rw [e,hg]at h1;exact h3 cur (Option.some.inj h1).symm
 have bZ:Below B X Z:=⟨gZ.os,gZ.tape,gZ.output,gZ.size,fun k hkB=>gZ.block k (by omega) (by
  rcases(hA1.row _ hj hj').2.2.2 with⟨hv,_⟩|⟨g,cap,cur,hv,hb,_⟩
  ·rw [hv];simp [Value.ownBlock]
  ·rw [hv];simp only [Value.ownBlock,ne_eq,AjR];omega)⟩
 have bb:=h.own;have Te:B<=Z.heap.size:=AjX kD gZ.size;have ri:Below B W Z':=((Below.mono hx hB).trans (below_grown g1 bb (by simp;omega))).trans (bZ.trans (below_grown jV bb Te));refine⟨Fb R0 p,E1[Fb R0 p].2.1,v',X,Z,Z',_,?_,?_,hst,aU,aU.trans zN,aU.trans (zN.trans (B1.of_grown jV)),ri,hA2⟩
 ·rw [hX];exact hrun _ rfl
 ·intro ty CN;subst CN;exact hr
theorem od{B:Nat}{w:World}{r b1 b2:Nat}{L:List (Sg×Int)}{E:List (Pt×Value×Nat)}{R0:List (Pt×List Pt)}(h:Bn B w r b1 b2 L E R0)(hB:B<=w.heap.size)(s:Sg)(y z:Int)
  (h1:∀e∈L,AK s e.1=false) (h2:∀e∈L,AK (Bc s) e.1=false) (hne:AK (Bc s) s=false) (hn:∀e∈R0,e.2.length<=90000) :
  Calls Tryz.prog 121 #[.pointer (some ⟨r,0,none⟩),Ax s,.int .i64 y,.int .i64 z] w (fun e w'=>e=.returned (.tuple #[])/\Below B w w'/\(∀k o,w.heap[k]?=some o→k≠b1→k≠b2→(∀cs,o≠.cells cs 28 (0,0))→w'.heap[k]?=some o)/\∃E',Bn B w' r b1 b2 (L ++ [(s,y),(Bc s,z)]) E' (Du (Du R0 s.a s.b) s.b s.a)):=by
 have hE:=(Aa.refl w).alloc (.cells #[S (R s.a.x),S (R s.a.y),S (R s.b.x),S (R s.b.y)] 176);have Dp:=AjM w (.cells #[S (R s.a.x),S (R s.a.y),S (R s.b.x),S (R s.b.y)] 176);obtain⟨hc,hl,ha,hr0,hr1,BH⟩:=h;have hcl:=AjL hc;have JW:=(Array.getElem?_eq_some_iff.1 hl).1;have NQ:=ha.lt;have bk:=fL s;unfold Ax at bk;unfold Ax;go_enter Tryz.func121,Tryz.ntmps121
 go_upto_region 1 with fail
 replace hc:=(hE.block r hcl).trans hc;replace hl:=(hE.block b1 JW).trans hl;replace ha:=ha.keep (DJ hE none);generalize hV:w.alloc (.cells #[S (R s.a.x),S (R s.a.y),S (R s.b.x),S (R s.b.y)] 176)=V at *;obtain⟨bs,Qf⟩:=AjJ w.heap.size;rw [←Qf]at Dp ⊢;have nr:b1≠r:=(by intro e;rw [e,hc]at hl;cases hl);have ns:b1≠bs:=(by omega);have nbs:B<=bs:=(by omega);have nrs:r≠bs:=(by omega);have Z7:b2≠bs:=(by omega);have nle:w.heap.size<=bs:=(by omega);have HV:=AjK hV;clear Qf hV
 have SO:∀w',V.grownBy w' (some b1)→(w'.cell? ⟨r,0,none⟩=some (.map (some b1))/\w'.cell? ⟨r,1,none⟩=some (.map (some b2))/\w'.cell? ⟨bs,0,none⟩=some (S (R s.a.x))/\w'.cell? ⟨bs,1,none⟩=some (S (R s.a.y))/\w'.cell? ⟨bs,2,none⟩=some (S (R s.b.x))/\w'.cell? ⟨bs,3,none⟩=some (S (R s.b.y))):=fun w' hg=>⟨N8 hg (Ab hc rfl) (by simp;omega),N8 hg (Ab hc rfl) (by simp;omega),N8 hg (Ab Dp rfl) (by simp;omega),N8 hg (Ab Dp rfl) (by simp;omega),N8 hg (Ab Dp rfl) (by simp;omega),N8 hg (Ab Dp rfl) (by simp;omega)⟩
 have t0:V.grownBy V.drew (some b1):=DJ (Aa.refl V).drew _
 go_region_held3 (fun w'=>w'.cell? ⟨r,0,none⟩=some (.map (some b1))/\w'.cell? ⟨r,1,none⟩=some (.map (some b2))/\w'.cell? ⟨bs,0,none⟩=some (S (R s.a.x))/\w'.cell? ⟨bs,1,none⟩=some (S (R s.a.y))/\w'.cell? ⟨bs,2,none⟩=some (S (R s.b.x))/\w'.cell? ⟨bs,3,none⟩=some (S (R s.b.y)))
  (first|with_reducible exact SO _ t0|with_reducible exact SO _ t1|with_reducible exact SO _ t2|with_reducible exact SO _ t3|with_reducible exact SO _ t4|with_reducible exact SO _ t5)
  (first|((with_reducible refine(bk _).mono ?_);rintro e w1 ⟨rfl,hx1⟩;have t1:V.grownBy w1 (some b1):=Mp t0 (DJ hx1 _);obtain⟨n1,X,Z,X2,Z2,e1,e2,e3,e4,u1,u2,u3,u4,u5,u6⟩:=AdI (((Aa.refl V).drew.trans hx1).block b1 (AjL hl) |>.trans hl) s h1 h2 hne y z;have t2:=Mp t1 u1;have t3:=Mp t1 u2;have t4:=Mp t1 u3;have t5:=Mp t1 u4;unfold Ax at e1 e3))
 have gz:V.grownBy Z2 (some b1):=t5;have UC:r≠b2:=(by intro e;rw [e,ha.blk]at hc;cases hc);have hc1:=(gz.block r (AjL hc) (by simp;omega)).trans hc;have hb1:=(gz.block bs (AjL Dp) (by simp;omega)).trans Dp;have M1:Do B V b2 E R0:=ha
 have lW:Do B Z2 b2 E R0:=by
  refine⟨(gz.block b2 M1.lt (by simp;omega)).trans M1.blk,M1.len,fun i hi hi'=>?_,M1.apart,M1.own⟩;obtain⟨s1,s2,s3⟩:=M1.row i hi hi';refine⟨s1,s2,s3.kept gz ?_⟩
  rcases s3.2 with⟨hv,_⟩|⟨g,cap,cur,hv,_,hg,_⟩
  ·left;rw [hv];rfl
  ·right
   rw [hv];simp only [Value.ownBlock,ne_eq,AjR];intro e;rw [e,hl]at hg
   cases hg
 have jb:=AjK u6;have GZ:=AjK (show ∀k o,w.heap[k]?=some o→k≠b1→Z2.heap[k]?=some o from fun k o q1 q2=>(gz.block k (AjW (Array.getElem?_eq_some_iff.1 q1).1 hE.size) (by simp;exact q2)).trans ((hE.block k (Array.getElem?_eq_some_iff.1 q1).1).trans q1));have bz:Below B w Z2:=(Below.mono hE hB).trans (below_grown gz hr1 (by have:=hE.size;omega));have BZ:=AjK bz;have HC:=AjK hc;have Te:B<=Z2.heap.size:=(by have:=gz.size;have:=hE.size;omega);clear SO t0 t1 t2 t3 t4 t5 e1 e2 e3 e4 u1 u2 u3 u4 u5 u6 ha M1 hc hl Dp hx1 bz gz;obtain⟨j1,v1,u1,X1,Y1,Q1,E1,c1,c2,c3,y1,y2,y3,y4,y5⟩:=fE lW Te s.a s.b (fun e he=>AjX (hn e he) (by omega));replace c2:=c2 _ rfl
 have Nu:∀w',B1 b2 Z2 w'→(w'.cell? ⟨r,0,none⟩=some (.map (some b1))/\w'.cell? ⟨r,1,none⟩=some (.map (some b2))/\w'.cell? ⟨bs,0,none⟩=some (S (R s.a.x))/\w'.cell? ⟨bs,1,none⟩=some (S (R s.a.y))/\w'.cell? ⟨bs,2,none⟩=some (S (R s.b.x))/\w'.cell? ⟨bs,3,none⟩=some (S (R s.b.y))):=fun w' hg=>
  have z1:=hg.2 r _ hc1 UC (by intro cs e;cases e);have z2:=hg.2 bs _ hb1 (fun e=>Z7 e.symm) (by intro cs e;cases e)
  ⟨Ab z1 rfl,Ab z1 rfl,Ab z2 rfl,Ab z2 rfl,Ab z2 rfl,Ab z2 rfl⟩
 have t0:B1 b2 Z2 Z2.drew:=B1.of_ext (Aa.refl Z2).drew;have t1:B1 b2 Z2 (Z2.alloc (.cells #[S (R (s.b).x),S (R (s.b).y)] 28)).drew:=B1.of_ext ((Aa.refl _).alloc _).drew;unfold Ag at c1;(go_wp2_with fail)
 go_region_held3 (fun w'=>w'.cell? ⟨r,0,none⟩=some (.map (some b1))/\w'.cell? ⟨r,1,none⟩=some (.map (some b2))/\w'.cell? ⟨bs,0,none⟩=some (S (R s.a.x))/\w'.cell? ⟨bs,1,none⟩=some (S (R s.a.y))/\w'.cell? ⟨bs,2,none⟩=some (S (R s.b.x))/\w'.cell? ⟨bs,3,none⟩=some (S (R s.b.y)))
  (first|with_reducible exact Nu _ t0|with_reducible exact Nu _ t1|with_reducible exact Nu _ y1|with_reducible exact Nu _ y2|with_reducible exact Nu _ y3)
  (first|(refine zT (s:=.tmp 31) (x:=.tmp 34) ?hgd ?ho ?hs ?hx c2 ?h;(case hgd=>rfl);(case ho=>rfl);(case hs=>rfl);(case hx=>rfl)))
 have haQ:=y5;have hBQ:B<=Q1.heap.size:=AjX Te y3.1;have hc2:=y3.2 r _ hc1 UC (by intro cs e;cases e);have XA:=y3.2 bs _ hb1 (fun e=>Z7 e.symm) (by intro cs e;cases e);have Y3:=AjK y3;have Y4:=AjK y4;clear Nu t0 t1 c1 c2 c3 y1 y2 y3 y4 y5 lW hc1 hb1;obtain⟨j2,v2,u2,X2',Y2',Q2,E2,c1,c2,c3,y1,y2,Vj,y4',y5'⟩:=fE haQ hBQ s.b s.a (fun e he=>AjX (VL hn e he) (by omega));replace c2:=c2 _ rfl
 have Py:∀w',B1 b2 Q1 w'→(w'.cell? ⟨r,0,none⟩=some (.map (some b1))/\w'.cell? ⟨r,1,none⟩=some (.map (some b2))/\w'.cell? ⟨bs,0,none⟩=some (S (R s.a.x))/\w'.cell? ⟨bs,1,none⟩=some (S (R s.a.y))/\w'.cell? ⟨bs,2,none⟩=some (S (R s.b.x))/\w'.cell? ⟨bs,3,none⟩=some (S (R s.b.y))):=fun w' hg=>
  have z1:=hg.2 r _ hc2 UC (by intro cs e;cases e);have z2:=hg.2 bs _ XA (fun e=>Z7 e.symm) (by intro cs e;cases e)
  ⟨Ab z1 rfl,Ab z1 rfl,Ab z2 rfl,Ab z2 rfl,Ab z2 rfl,Ab z2 rfl⟩
 have t0:B1 b2 Q1 Q1.drew:=B1.of_ext (Aa.refl Q1).drew;have t1:B1 b2 Q1 (Q1.alloc (.cells #[S (R (s.a).x),S (R (s.a).y)] 28)).drew:=B1.of_ext ((Aa.refl _).alloc _).drew;unfold Ag at c1;(go_wp2_with fail)
 go_region_held3 (fun w'=>w'.cell? ⟨r,0,none⟩=some (.map (some b1))/\w'.cell? ⟨r,1,none⟩=some (.map (some b2))/\w'.cell? ⟨bs,0,none⟩=some (S (R s.a.x))/\w'.cell? ⟨bs,1,none⟩=some (S (R s.a.y))/\w'.cell? ⟨bs,2,none⟩=some (S (R s.b.x))/\w'.cell? ⟨bs,3,none⟩=some (S (R s.b.y)))
  (first|with_reducible exact Py _ t0|with_reducible exact Py _ t1|with_reducible exact Py _ y1|with_reducible exact Py _ y2|with_reducible exact Py _ Vj)
  (first|(refine zT (s:=.tmp 44) (x:=.tmp 47) ?hgd ?ho ?hs ?hx c2 ?h;(case hgd=>rfl);(case ho=>rfl);(case hs=>rfl);(case hx=>rfl)))
 go_wp2
 go_end0
 refine⟨rfl,(BZ.out.trans Y4.out).trans y4',fun k o q1 q2 q3 q4=>Vj.2 k o (Y3.out.2 k o (GZ.out k o q1 q2) q3 q4) q3 q4,E2,⟨Vj.2 r _ hc2 UC (by intro cs e;cases e),Vj.2 b1 _ (Y3.out.2 b1 _ jb.out BH (by intro cs e;cases e)) BH (by intro cs e;cases e),y5',hr0,hr1,BH⟩⟩
def Bg(pts:List Pt)(e:Au):Sg:=⟨D8 pts e.f,D8 pts e.t⟩
def AN(pts:List Pt)(l:List Au):List (Sg×Int):=l.flatMap fun e=>[(Bg pts e,e.l),(Bc (Bg pts e),e.r)]
def Cw(pts:List Pt)(l:List Au):List (Pt×List Pt):=l.foldl (fun R0 e=>Du (Du R0 (Bg pts e).a (Bg pts e).b) (Bg pts e).b (Bg pts e).a) []
theorem vC(pts:List Pt)(l:List Au)(e:Au):AN pts (l ++ [e])=AN pts l ++ [(Bg pts e,e.l),(Bc (Bg pts e),e.r)]:=by simp [AN]
theorem vF(pts:List Pt)(l:List Au)(e:Au):Cw pts (l ++ [e])=Du (Du (Cw pts l) (Bg pts e).a (Bg pts e).b) (Bg pts e).b (Bg pts e).a:=by simp [Cw]
theorem vE(pts:List Pt):∀(l:List Au) (R0:List (Pt×List Pt)) (n:Nat),(∀e∈R0,e.2.length<=n)→∀e∈l.foldl (fun R0 e=>Du (Du R0 (Bg pts e).a (Bg pts e).b) (Bg pts e).b (Bg pts e).a) R0,e.2.length<=n+2*l.length
 | [],_,_,h=>by simpa using h
 | x::l,R0,n,h=>by intro e he;rw [List.foldl_cons]at he;have:=vE pts l _ (n+1+1) (VL (VL h)) e he;rw [List.length_cons];omega
theorem vD(pts:List Pt)(l:List Au):∀e∈Cw pts l,e.2.length<=2*l.length:=by
 intro e he;have:=vE pts l [] 0 (by simp) e he;omega
theorem AfW{w:World}{b o:Nat}{cs:List Value}(h:Ad w (some ⟨b,o,none⟩) cs)(hl:0<cs.length):b<w.heap.size:=by
 obtain⟨b',o',e,hc⟩:=h.ad hl;have e2:(⟨b,o,none⟩:Addr)=⟨b',o',none⟩:=Option.some.inj e;obtain rfl:b=b':=(by injection e2);have h1:=hc 0 hl;unfold World.cell? at h1
 rcases Nat.lt_or_ge b w.heap.size with h'|h'
 ·exact h'
 ·simp [Array.getElem?_eq_none h']at h1
theorem Sw{B:Nat}{w w':World}(h:Below B w w'){a:Addr}{v:Value}(hb:a.block<B)(hv:w.cell? a=some v):w'.cell? a=some v:=(World.cell?_of_block (h.block _ hb)).trans hv
theorem vX{w:World}{B B':Nat}{e:TypeId}{size:Nat}{v:Value}{n:Nat}{xs:List Value}(h:w.ownsRow B e size v n xs)(hB:B'<=B):w.ownsRow B' e size v n xs:=by
 refine⟨h.1,?_⟩
 rcases h.2 with h'|⟨g,cap,cur,h1,h2,h3⟩
 ·exact .inl h'
 ·exact .inr ⟨g,cap,cur,h1,AjX hB h2,h3⟩
theorem Bn.ext{B:Nat}{W W':World}{r b1 b2:Nat}{L:List (Sg×Int)}{E:List (Pt×Value×Nat)}{R0:List (Pt×List Pt)}(h:Bn B W r b1 b2 L E R0)(hx:Aa W W'):Bn B W' r b1 b2 L E R0:=
 ⟨(hx.block _ (AjL h.cell)).trans h.cell,(hx.block _ (Array.getElem?_eq_some_iff.1 h.left).1).trans h.left,h.ar.keep (DJ hx none),h.r0,h.r1,h.ne⟩
structure LX(pts:List Pt)(l:List Au):Prop where
 rng:∀e∈l,0<=e.f/\0<=e.t/\e.f<(pts.length:Int)/\e.t<(pts.length:Int)
 ne:∀e∈l,AK (Bc (Bg pts e)) (Bg pts e)=false
 dis:∀j (h:j<l.length),∀e∈l.take j,AK (Bg pts l[j]) (Bg pts e)=false/\AK (Bg pts l[j]) (Bc (Bg pts e))=false/\AK (Bc (Bg pts l[j])) (Bg pts e)=false/\AK (Bc (Bg pts l[j])) (Bc (Bg pts e))=false
theorem LX.keys{pts:List Pt}{l:List Au}(h:LX pts l){j:Nat}(hj:j<l.length):(∀e∈AN pts (l.take j),AK (Bg pts l[j]) e.1=false)/\(∀e∈AN pts (l.take j),AK (Bc (Bg pts l[j])) e.1=false):=by
 constructor
 all_goals
  intro e he;unfold AN at he;rw [List.mem_flatMap]at he;obtain⟨x,hx,he⟩:=he;obtain⟨d1,d2,d3,d4⟩:=h.dis j hj x hx;simp only [List.mem_cons,AjY,or_false]at he
  rcases he with rfl|rfl<;>assumption
theorem zo{w:World} : Bn w.heap.size (PH w) (w.heap.size+1+1) w.heap.size (w.heap.size+1) [] [] []:=by
 unfold PH;have h0:=AjM w (.map #[] 0);have h1:=AjM (w.alloc (.map #[] 0)) (.map #[] 0);have h2:=AjM ((w.alloc (.map #[] 0)).alloc (.map #[] 0)) (.cells #[.map (some w.heap.size),.map (some (w.heap.size+1))] 163);simp only [AjU]at h1 h2;have x1:=((Aa.refl (w.alloc (.map #[] 0))).alloc (.map #[] 0)).alloc (.cells #[.map (some w.heap.size),.map (some (w.heap.size+1))] 163);have x2:=(Aa.refl ((w.alloc (.map #[] 0)).alloc (.map #[] 0))).alloc (.cells #[.map (some w.heap.size),.map (some (w.heap.size+1))] 163);exact⟨h2,(x1.block _ (by simp)).trans h0,⟨(x2.block _ (by simp)).trans h1,rfl,fun i hi=>by simp at hi,fun i _ hi=>by simp at hi,by omega⟩,by omega,AjN _,by omega⟩
theorem UI(m:MapZ)(A B F:Option Addr)(c d g:Nat)(A7:Cf m c d g)(Ai:LX m.pts m.eds)(hle:m.eds.length<=1200)(w:World)(hA:Ad w A (flat (Aq m.pts)))(hB:Ad w B (AA m.eds)) :
  Calls Tryz.prog 71 #[AE A B F m c d g] w (fun e w'=>∃r b1 b2 E,e=.returned (.pointer (some ⟨r,0,none⟩))/\Aa w w'/\Bn w.heap.size w' r b1 b2 (AN m.pts m.eds) E (Cw m.pts m.eds)):=by
 obtain⟨c1,c2,d1,d2,g1,g2⟩:=A7;have hM:=AjM w (.cells #[.slice A m.pts.length c,.slice B m.eds.length d,.slice F m.nf g] 44);have hE:=(Aa.refl w).alloc (.cells #[.slice A m.pts.length c,.slice B m.eds.length d,.slice F m.nf g] 44);unfold AE;go_enter Tryz.func71,Tryz.ntmps71
 go_upto_region 1 with fail
 have hA:=hA.ext hE;have hB:=hB.ext hE;generalize w.alloc (.cells #[.slice A m.pts.length c,.slice B m.eds.length d,.slice F m.nf g] 44)=V at *;obtain⟨bm,AX⟩:=AjJ w.heap.size;have mR:bm<V.heap.size:=(by have:=AjL hM;omega);rw [←AX]at hM ⊢;clear AX;have em:=zt V;have en:=@zo V
 have eb:Below V.heap.size V (PH V):=((Aa.refl V).alloc _).alloc _ |>.alloc _
 generalize PH V=V0 at *;obtain⟨r,hr⟩:=AjJ (V.heap.size+1+1);obtain⟨b2,hb2⟩:=AjJ (V.heap.size+1);obtain⟨b1,hb1⟩:=AjJ V.heap.size;rw [←hr]at em en;rw [←hb2]at en;have zu:Bn V.heap.size V0 r b1 b2 [] [] []:=(by rw [hb1];exact en);clear hr hb2 hb1 en;have kW:∀w',Aa V w'→w'.heap[bm]?=some (.cells #[.slice A m.pts.length c,.slice B m.eds.length d,.slice F m.nf g] 44):=fun w' h=>(h.block _ mR).trans hM;have m1:=Ab (o:=1) (kW V0 eb) rfl;(go_wp2_with fail);(with_reducible refine em.mono ?_);rintro e w1 ⟨rfl,hw1⟩;rw [hw1];clear hw1
 go_upto_region 3 with fail
 clear m1 em
 go_loopw [10] (fun i wr=>∃j:Nat,i=.int .i64 (j:Nat)/\j<=m.eds.length/\Below V.heap.size V wr/\∃E,Bn V.heap.size wr r b1 b2 (AN m.pts (m.eds.take j)) E (Cw m.pts (m.eds.take j))) (fun i _=>m.eds.length-(intOf i).toNat)
 case atStart=>exact⟨0,rfl,by omega,eb,[],by simpa [AN,Cw]using zu⟩
 case round=>
  obtain⟨j,rfl,hj,Qb,E,hN⟩:=hrel;have Ae:Aa V wr:=Qb;by_cases hlt:j<m.eds.length
  ·have hj0:(0:Int)<=(j:Int):=(by omega);have Ay:(j:Int)<(m.eds.length:Int):=(by omega);obtain⟨b,o,rfl,hg1,hg2,hg3,hg4⟩:=OC (hB.ext Ae) hlt;have GP:=Ai.keys hlt;have hne:=Ai.ne _ (AjO hlt);have hrg:=Ai.rng _ (AjO hlt);have hrl:=vD m.pts (m.eds.take j);have QC:=vC m.pts (m.eds.take j) m.eds[j];have QD:=vF m.pts (m.eds.take j) m.eds[j];rw [←AjQ hlt]at QC QD;obtain⟨e,he⟩:=AjJ (m.eds[j]);rw [←he]at hg1 hg2 hg3 hg4 GP hne hrg QC QD;clear he;obtain⟨ef,M9⟩:∃n:Nat,e.f=(n:Int):=⟨e.f.toNat,by omega⟩;obtain⟨et,MA⟩:∃n:Nat,e.t=(n:Int):=⟨e.t.toNat,by omega⟩;have NY:ef<m.pts.length:=(by omega);have NZ:et<m.pts.length:=(by omega);rw [M9]at hg1;rw [MA]at hg2;obtain⟨ba,oa,rfl,ha1,ha2⟩:=CX (hA.ext Ae) NY;obtain⟨b3,o3,IU,Xx,Xy⟩:=CX (hA.ext Ae) NZ;have gj:=AjK (AfW hA (by rw [flat_length];simp [Aq];omega));obtain⟨rfl,rfl⟩:ba=b3/\oa=o3:=by simpa using IU
   have hs:Bg m.pts e=⟨m.pts[ef],m.pts[et]⟩:=by unfold Bg D8;rw [M9,MA];simp [NY,NZ]
   obtain⟨pa,FO⟩:=AjJ (m.pts[ef]);obtain⟨pb,L6⟩:=AjJ (m.pts[et]);rw [←FO]at ha1 ha2 hs;rw [←L6]at Xx Xy hs;rw [hs]at GP hne QC QD;have f0:(0:Int)<=(ef:Int):=(by omega);have f1:(ef:Int)<(m.pts.length:Int):=(by omega);have f2:(0:Int)<=(et:Int):=(by omega);have f3:(et:Int)<(m.pts.length:Int):=(by omega);have hx1:=(Aa.refl wr).alloc (.cells #[.int .i64 (ef:Nat),.int .i64 (et:Nat),.int .i64 e.l,.int .i64 e.r] 119);have Di:=AjM wr (.cells #[.int .i64 (ef:Nat),.int .i64 (et:Nat),.int .i64 e.l,.int .i64 e.r] 119);have Jv:=AjK QC;have ko:=AjK QD;clear QC QD hs FO L6 IU hrg M9 MA
   go_upto_region 5 with fail
   have JF:=(hN.ext hx1).ext (Aa.refl _).drew;have FB:=kW _ (Ae.trans hx1);have k1:=hx1.cellS ha1;have k2:=hx1.cellS ha2;have k3:=hx1.cellS Xx;have k4:=hx1.cellS Xy;have IV:=Ae.trans hx1;generalize wr.alloc (.cells #[.int .i64 (ef:Nat),.int .i64 (et:Nat),.int .i64 e.l,.int .i64 e.r] 119)=W1 at *;obtain⟨be,mT⟩:=AjJ wr.heap.size;rw [←mT]at Di ⊢;clear mT ha1 ha2 Xx Xy hg1 hg2 hg3 hg4;have ad:=od JF (by have:=IV.size;show V.heap.size<=W1.heap.size;exact this) ⟨pa,pb⟩ e.l e.r GP.1 GP.2 hne (fun x hx=>by have:=hrl x hx;rw [List.length_take]at this;omega);unfold Ax at ad
   have SO:∀w',Aa W1 w'→(w'.cell? ⟨bm,0,none⟩=some (.slice (some ⟨ba,oa,none⟩) m.pts.length c)/\w'.cell? ⟨be,0,none⟩=some (.int .i64 (ef:Nat))/\w'.cell? ⟨be,1,none⟩=some (.int .i64 (et:Nat))/\w'.cell? ⟨be,2,none⟩=some (.int .i64 e.l)/\w'.cell? ⟨be,3,none⟩=some (.int .i64 e.r)/\w'.cell? ⟨ba,oa+ef*2,none⟩=some (S (R pa.x))/\w'.cell? ⟨ba,oa+ef*2+1,none⟩=some (S (R pa.y))/\w'.cell? ⟨ba,oa+et*2,none⟩=some (S (R pb.x))/\w'.cell? ⟨ba,oa+et*2+1,none⟩=some (S (R pb.y))):=fun w' h=>⟨h.cellS (Ab FB rfl),h.cellS (Ab Di rfl),h.cellS (Ab Di rfl),h.cellS (Ab Di rfl),h.cellS (Ab Di rfl),h.cellS k1,h.cellS k2,h.cellS k3,h.cellS k4⟩
   have UE:be≠b1:=(by intro e;have q:=JF.left;rw [←e]at q;cases (show W1.heap[be]?=_ from q).symm.trans Di);have LH:be≠b2:=(by intro e;have q:=JF.ar.blk;rw [←e]at q;cases (show W1.heap[be]?=_ from q).symm.trans Di);have AP:ba<V.heap.size:=gj.out;have X:Aa W1 W1:=Aa.refl W1;have Xd:=X.drew
   go_region_held3 (fun w'=>w'.cell? ⟨bm,0,none⟩=some (.slice (some ⟨ba,oa,none⟩) m.pts.length c)/\w'.cell? ⟨be,0,none⟩=some (.int .i64 (ef:Nat))/\w'.cell? ⟨be,1,none⟩=some (.int .i64 (et:Nat))/\w'.cell? ⟨be,2,none⟩=some (.int .i64 e.l)/\w'.cell? ⟨be,3,none⟩=some (.int .i64 e.r)/\w'.cell? ⟨ba,oa+ef*2,none⟩=some (S (R pa.x))/\w'.cell? ⟨ba,oa+ef*2+1,none⟩=some (S (R pa.y))/\w'.cell? ⟨ba,oa+et*2,none⟩=some (S (R pb.x))/\w'.cell? ⟨ba,oa+et*2+1,none⟩=some (S (R pb.y)))
    (first|with_reducible exact SO _ Xd|exact S5)
    (first|((with_reducible refine ad.mono ?_);rintro _ w5 ⟨rfl,hb5,hs5,E5,hN5⟩;have S5:(w5.cell? ⟨bm,0,none⟩=some (.slice (some ⟨ba,oa,none⟩) m.pts.length c)/\w5.cell? ⟨be,0,none⟩=some (.int .i64 (ef:Nat))/\w5.cell? ⟨be,1,none⟩=some (.int .i64 (et:Nat))/\w5.cell? ⟨be,2,none⟩=some (.int .i64 e.l)/\w5.cell? ⟨be,3,none⟩=some (.int .i64 e.r)/\w5.cell? ⟨ba,oa+ef*2,none⟩=some (S (R pa.x))/\w5.cell? ⟨ba,oa+ef*2+1,none⟩=some (S (R pa.y))/\w5.cell? ⟨ba,oa+et*2,none⟩=some (S (R pb.x))/\w5.cell? ⟨ba,oa+et*2+1,none⟩=some (S (R pb.y))):=⟨Ab ((hb5.block bm mR).trans FB) rfl,Ab (hs5 be _ Di UE LH (by intro cs e;cases e)) rfl,Ab (hs5 be _ Di UE LH (by intro cs e;cases e)) rfl,Ab (hs5 be _ Di UE LH (by intro cs e;cases e)) rfl,Ab (hs5 be _ Di UE LH (by intro cs e;cases e)) rfl,Sw hb5 AP k1,Sw hb5 AP k2,Sw hb5 AP k3,Sw hb5 AP k4⟩))
   have hN6:=Jv.out▸ko.out▸hN5;have Dx:Below V.heap.size V w5:=Below.trans (Aa.drew IV) hb5;have gh:=AjK Dx;clear SO S5 X Xd ad hb5 hs5 Dx;go_wp2;go_roundw
   case rel=>exact⟨j+1,by go_num,hlt,gh.out,E5,hN6⟩
   case measure=>simp [intOf];omega
  ·have Uh:(m.eds.length:Int)<=(j:Int):=(by omega);obtain rfl:j=m.eds.length:=(by omega);rw [AjV (AjN _)]at hN;have HN:=AjK hN;have HE:=AjK (hE.trans Ae);have HS:=AjK hE.size;clear hN Ae Qb;go_wp2;go_ret;have hN:=HN.out;exact⟨r,b1,b2,E,rfl,HE.out,⟨hN.cell,hN.left,⟨hN.ar.blk,hN.ar.len,fun i hi hi'=>⟨(hN.ar.row i hi hi').1,(hN.ar.row i hi hi').2.1,vX (hN.ar.row i hi hi').2.2 HS.out⟩,hN.ar.apart,AjX HS.out hN.ar.own⟩,AjX HS.out hN.r0,AjX HS.out hN.r1,hN.ne⟩⟩
end Go.Proofs.YtnfedbopbcegjaaGreatDoor
namespace Go.Proofs.YtnfedbopbcegjaaGreatDoor
open Go.RowKit Kl
def IG(R0:List (Pt×List Pt))(p:Pt):Nat:=match R0.find? (fun e=>Ah p e.1)with|some e=>e.2.length|none=>0
theorem Aa0{E:List (Pt×Value×Nat)}{R0:List (Pt×List Pt)}{B:Nat}{W:World}{b2:Nat}(h:Do B W b2 E R0)(p:Pt) :
  (∃A c,Fp Ah (.slice none 0 0) p E=.slice A (IG R0 p) c):=by
 have EQ:=WF h.len (fun i h1 h2=>(h.row i h1 h2).1) p;unfold Fp IG
 cases hf:R0.findIdx? (fun e=>Ah p e.1)with
 | none=>
  rw [hf]at EQ
  have e1:E.find? (fun e=>Ah p e.1)=none:=by rw [List.find?_eq_none];rw [List.findIdx?_eq_none_iff]at EQ;intro x hx;rw [EQ x hx];simp
  have e2:R0.find? (fun e=>Ah p e.1)=none:=by rw [List.find?_eq_none];rw [List.findIdx?_eq_none_iff]at hf;intro x hx;rw [hf x hx];simp
  rw [e1,e2];exact⟨none,0,rfl⟩
 | some j=>
  rw [hf]at EQ;rw [List.findIdx?_eq_some_iff_getElem]at EQ hf;obtain⟨hj,h1,h2⟩:=EQ;obtain⟨hj',h3,h4⟩:=hf
  have e1:E.find? (fun e=>Ah p e.1)=some E[j]:=by rw [List.find?_eq_some_iff_getElem];exact⟨h1,j,hj,rfl,fun i hi=>by have:=h2 i hi;simpa using this⟩
  have e2:R0.find? (fun e=>Ah p e.1)=some R0[j]:=by rw [List.find?_eq_some_iff_getElem];exact⟨h3,j,hj',rfl,fun i hi=>by have:=h4 i hi;simpa using this⟩
  rw [e1,e2]
  rcases(h.row j hj hj').2.2.2 with⟨hv,hn⟩|⟨g,cap,cur,hv,_⟩
  ·simp only;rw [hv,hn];exact⟨none,0,rfl⟩
  ·simp only;rw [hv];exact⟨_,_,rfl⟩
theorem Aaw{B:Nat}{w:World}{r b1 b2:Nat}{L:List (Sg×Int)}{E:List (Pt×Value×Nat)}{R0:List (Pt×List Pt)}(h:Bn B w r b1 b2 L E R0)(bn:Nat)(BP:w.cell? ⟨bn,0,none⟩=some (.pointer (some ⟨r,0,none⟩)))(p:Pt) :
  Calls Tryz.prog 85 #[Ag p,.pointer (some ⟨bn,0,none⟩)] w (BE (decide (IG R0 p<2)) w):=by
 have hE:=(Aa.refl w).alloc (.cells #[S (R p.x),S (R p.y)] 28);have hb0:=AjM w (.cells #[S (R p.x),S (R p.y)] 28);have hN:=h.ext hE;obtain⟨A,c,hv⟩:=Aa0 h.ar p;have nG:=hE.cellS BP;obtain⟨x,hx⟩:=AjJ (decide (IG R0 p<2));rw [←hx];have HX:=AjK (show x=decide ((IG R0 p:Int)<2)by rw [hx];simp;omega);unfold Ag;clear hx;go_enter Tryz.func85,Tryz.ntmps85
 go_upto_region 1 with fail
 generalize w.alloc (.cells #[S (R p.x),S (R p.y)] 28)=V at *;obtain⟨bp,Aw⟩:=AjJ w.heap.size;rw [←Aw]at hb0 ⊢;clear Aw;have q1:∀q:Ac V,q.w.cell? ⟨bn,0,none⟩=some (.pointer (some ⟨r,0,none⟩)):=Ac.cell nG;have q2:∀q:Ac V,q.w.cell? ⟨r,1,none⟩=some (.map (some b2)):=Ac.cell (Ab hN.cell rfl);have q3:∀q:Ac V,q.w.cell? ⟨bp,0,none⟩=some (S (R p.x)):=Ac.cell (Ab hb0 rfl);have q4:∀q:Ac V,q.w.cell? ⟨bp,1,none⟩=some (S (R p.y)):=Ac.cell (Ab hb0 rfl)
 have q5:∀q:Ac V,(Instr.lookup 161 (.map (some b2)) (Ag p) false).run Tryz.prog q.w=.ok (.slice A (IG R0 p) c) q.w:=fun q=>by rw [OG Ox p E (W:=q.w) ((q.h.block b2 hN.ar.lt).trans hN.ar.blk),hv]
 unfold Ag at q5;clear nG hb0 hN h BP hv;refine Bh (by kernel_rfl) (by kernel_rfl) ?_
 repeat (go_big_quiet_step (fail))
 refine wpQuiet_nil ?_;rintro _ ⟨q,rfl⟩;go_wp2;go_ret;exact⟨by rw [HX.out];rfl,hE.trans q.h⟩
end Go.Proofs.YtnfedbopbcegjaaGreatDoor
