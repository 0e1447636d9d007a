/- Z28: M6 M7 M8 M9 M10. -/
import Derived.Test.YtdaefncphfeaeaaGreatDoorZ26
import Derived.Test.YtdaefncphfeaeaaGreatDoorZ25
set_option maxRecDepth 100000
set_option maxHeartbeats 8000000
namespace Go.Proofs.YtdaefncphfeaeaaGreatDoor
open Go.RowKit Kl
open Go.ChangeMaps (setBlock)
theorem Fh.append{B:Nat}{Y:World}{b2:Nat}{E:List (Pt×Value×Nat)}{R:List (Pt×List Pt)}(h:Fh B Y b2 E R)(hB:B<=Y.heap.size){j:Nat}(hj:j<E.length)(hj':j<R.length)(hn:R[j].2.length<200000)
  (q:Pt) {g:Nat} (hg:Y.heap[g]?=some (.cells #[S (Kl.R q.x),S (Kl.R q.y)] 35)) (ty:TypeId) :
  ∃v' Z Z',(Builtin.append_ #[39,39] ty #[E[j].2.1,.slice (some ⟨g,0,none⟩) 1 1]).run Tryz.prog Y=.ok v' Z/\Y.grownBy Z E[j].2.1.ownBlock
   /\(Instr.entryStore 109 (.map (some b2)) (.int .i64 (j:Nat)) v').run Tryz.prog Z=.ok () Z'/\Z.grownBy Z' (some b2)/\Fh B Z' b2 (E.set j (E[j].1,v',j)) (R.modify j (fun e=>(e.1,e.2 ++ [q]))):=by
 obtain⟨i0,hi,hz0,hz1,hz2⟩:=info_parts Tryz.infoPt;obtain⟨r1,r2,r3⟩:=h.row j hj hj'
 obtain⟨v',Z,hr,hown,hgr,_,hat⟩:=run_append_own_at (P:=Tryz.prog) Y B 39 ty 35 i0 (.agg #[S [],S []]) 2 32 Tryz.underlying39 hi hz0 hz1 hz2 rfl (by omega) E[j].2.1 R[j].2.length (flat (AI R[j].2)) r3
  ⟨g,0,none⟩ 1 1 [S (Kl.R q.x),S (Kl.R q.y)] rfl (fun k u hu=>by
   rw [Addr.add_lit,Nat.zero_add];refine Ab hg ?_;rw [←Array.getElem?_toList]
   exact hu) (fun u hu=>by
   simp only [List.mem_cons,Asr,or_false]at hu
   rcases hu with rfl|rfl<;>rfl) (by unfold maxLen;omega) (by omega) hB
 rw [←Aaq]at hown
 have hb2:Z.heap[b2]?=Y.heap[b2]?:=hgr.block b2 h.lt (by
  rcases r3.2 with⟨hv,_⟩|⟨g0,cap,cur,hv,_,hg0,_⟩
  ·rw [hv];simp [Value.ownBlock]
  ·rw [hv];simp only [Value.ownBlock,ne_eq,Asj];intro e;rw [←e,h.blk]at hg0
   cases hg0)
 have XT:=hb2.trans h.blk
 have hno:∀e∈E.take j,e.2.2≠E[j].2.2:=by intro e he;rw [List.mem_take_iff_getElem]at he;obtain⟨i,hi,rfl⟩:=he;rw [(h.row i (by omega) (by rw [←h.len];omega)).2.1,r2];omega
 have hst:=AaO (enc:=Ak) 109 E hj hno v' XT;rw [r2]at hst;have jK:=Nh (o:=.map (AK Ak (E.set j (E[j].1,v',j))).toArray E.length) XT;refine⟨v',Z,_,hr,hgr,hst,jK,⟨?_,?_,?_,?_,h.own⟩⟩
 ·rw [On XT];simp
 ·simp [h.len]
 ·intro i hi hi';have NA:i<E.length:=(by simpa using hi);have Mb:i<R.length:=(by simpa using hi');by_cases BM:j=i
  ·subst BM;rw [List.getElem_set_self,List.getElem_modify_eq];refine⟨r1,rfl,?_⟩;have hl:(R[j].2 ++ [q]).length=R[j].2.length+1:=(by simp);simp only [hl];refine hown.kept jK ?_
   rcases hown.2 with⟨hv,_⟩|⟨g0,cap,cur,hv,_,hg0,_⟩
   ·left;rw [hv];rfl
   ·right
    rw [hv];simp only [Value.ownBlock,ne_eq,Asj];intro e;rw [e,XT]at hg0
    cases hg0
  ·rw [List.getElem_set_ne BM];have hm:(R.modify j (fun e=>(e.1,e.2 ++ [q])))[i]=R[i]:=(by rw [List.getElem_modify,if_neg BM]);rw [hm];obtain⟨s1,s2,s3⟩:=h.row i NA Mb;refine⟨s1,s2,(s3.kept hgr (h.apart i j NA hj (fun e=>BM e.symm))).kept jK ?_⟩
   rcases s3.2 with⟨hv,_⟩|⟨g0,cap,cur,hv,_,hg0,_⟩
   ·left;rw [hv];rfl
   ·right
    rw [hv];simp only [Value.ownBlock,ne_eq,Asj];intro e;rw [e,h.blk]at hg0
    cases hg0
 ·intro i k hi hk hik;have NA:i<E.length:=(by simpa using hi);have Uj:k<E.length:=by simpa using hk
  have hlt:∀x (hx:x<E.length) (hx':x<R.length),E[x].2.1.ownBlock≠some Y.heap.size:=by
   intro x hx hx'
   rcases(h.row x hx hx').2.2.2 with⟨hv,_⟩|⟨g0,cap,cur,hv,_,hg0,_⟩
   ·rw [hv];simp [Value.ownBlock]
   ·rw [hv];have:=(Array.getElem?_eq_some_iff.1 hg0).1;simp only [Value.ownBlock,ne_eq,Asj];omega
  by_cases BM:j=i
  ·subst BM;rw [List.getElem_set_self,List.getElem_set_ne hik]
   rcases hat with e|e
   ·rw [e];exact h.apart j k NA Uj hik
   ·rw [e];right;exact fun e'=>hlt k Uj (by rw [←h.len];exact Uj) e'.symm
  ·rw [List.getElem_set_ne BM];by_cases hjk:j=k
   ·subst hjk;rw [List.getElem_set_self]
    rcases hat with e|e
    ·rw [e];exact h.apart i j NA Uj hik
    ·rw [e];right;exact hlt i NA (by rw [←h.len];exact NA)
   ·rw [List.getElem_set_ne hjk];exact h.apart i k NA Uj hik
def stamp(L:List (Sg×Int)):List (Sg×Value×Nat):=L.mapIdx fun i e=>(e.1,.int .i64 e.2,i)
theorem G0(L:List (Sg×Int)):(stamp L).length=L.length:=by simp [stamp]
theorem Abm(L:List (Sg×Int))(e:Sg×Int):stamp (L ++ [e])=stamp L ++ [(e.1,.int .i64 e.2,L.length)]:=by simp [stamp,List.mapIdx_append]
theorem Abk{L:List (Sg×Int)}{x:Sg×Value×Nat}(h:x∈stamp L):∃e∈L,x.1=e.1:=by
 unfold stamp at h;rw [List.mem_mapIdx]at h;obtain⟨i,hi,rfl⟩:=h;exact⟨L[i],Asg hi,rfl⟩
theorem Aou{L:List (Sg×Int)}{x:Sg×Value×Nat}(h:x∈stamp L):x.2.2<L.length:=by
 unfold stamp at h;rw [List.mem_mapIdx]at h;obtain⟨i,hi,rfl⟩:=h;exact hi
structure Cl(B:Nat)(W:World)(r b1 b2:Nat)(L:List (Sg×Int))(E:List (Pt×Value×Nat))(R:List (Pt×List Pt)):Prop where
 cell:W.heap[r]?=some (.cells #[.map (some b1),.map (some b2)] 111)
 left:W.heap[b1]?=some (.map (AK Ax (stamp L)).toArray L.length)
 ar:Fh B W b2 E R
 r0:B<=r
 r1:B<=b1
 ne:b1≠b2
theorem vw{W:World}{b1:Nat}{L:List (Sg×Int)}(h:W.heap[b1]?=some (.map (AK Ax (stamp L)).toArray L.length))(s:Sg)(hno:∀e∈L,Bc s e.1=false)(z:Int) :
  ∃X,(Instr.mapEntry 108 (.map (some b1)) (Ax s)).run Tryz.prog W=.ok (.tuple #[.int .i64 0,.int .i64 (L.length:Nat)]) X
   /\W.grownBy X (some b1)/\X.heap.size=W.heap.size
   /\∃Z,(Instr.entryStore 108 (.map (some b1)) (.int .i64 (L.length:Nat)) (.int .i64 z)).run Tryz.prog X=.ok () Z/\W.grownBy Z (some b1)/\Z.heap.size=W.heap.size/\Z.heap[b1]?=some (.map (AK Ax (stamp (L ++ [(s,z)]))).toArray (L ++ [(s,z)]).length):=by
 have AiZ:∀e∈stamp L,Bc s e.1=false:=by intro e he;obtain⟨x,hx,h1⟩:=Abk he;rw [h1];exact hno x hx
 have h1:=oN mJ s (stamp L) AiZ (W:=W) h;have hb:=On (o:=.map (AK Ax (stamp L ++ [(s,.int .i64 0,L.length)])).toArray (L.length+1)) h;have hlt:L.length<(stamp L ++ [(s,Value.int .i64 0,L.length)]).length:=by simp [G0]
 have hge:(stamp L ++ [(s,Value.int .i64 0,L.length)])[L.length]=(s,.int .i64 0,L.length):=by rw [List.getElem_append_right (by rw [G0];omega)];simp [G0]
 have h2:=AaO (enc:=Ax) 108 (stamp L ++ [(s,.int .i64 0,L.length)]) hlt (by
  intro e he;rw [hge]
  have:e∈stamp L:=by rw [List.take_append_of_le_length (by rw [G0];omega),Aso (by rw [G0];omega)]at he;exact he
  have:=Aou this;show e.2.2≠L.length
  omega) (.int .i64 z) hb
 rw [hge]at h2
 have GM:(stamp L ++ [(s,Value.int .i64 0,L.length)]).set L.length (s,.int .i64 z,L.length)=stamp (L ++ [(s,z)]):=by rw [Abm,List.set_append_right _ _ (by rw [G0];omega)];simp [G0]
 rw [GM]at h2;refine⟨_,h1,Nh h,by simp [setBlock],_,h2,?_,by simp [setBlock],?_⟩
 ·exact⟨rfl,rfl,rfl,by simp [setBlock],fun k _ hk=>by
   have hkb:k≠b1:=fun e=>hk (by rw [e])
   rw [V4 hkb,V4 hkb]⟩
 ·rw [On hb];simp
theorem Qz{w w':World}{row:Option Nat}(hg:w.grownBy w' row){a:Addr}{v:Value}(h:w.cell? a=some v)(hn:some a.block≠row):w'.cell? a=some v:=by
 have hlt:a.block<w.heap.size:=by
  unfold World.cell? at h
  rcases Nat.lt_or_ge a.block w.heap.size with h'|h'
  ·exact h'
  ·simp [Array.getElem?_eq_none h']at h
 exact(World.cell?_of_block (hg.block a.block hlt hn)).trans h
theorem JK{w w':World}(h:Aa w w')(row:Option Nat):w.grownBy w' row:=⟨h.os,h.tape,h.output,h.size,fun k hk _=>h.block k hk⟩
theorem OI{a b c:World}{row:Option Nat}(h:a.grownBy b row)(k:b.grownBy c row):a.grownBy c row:=
 ⟨k.os.trans h.os,k.tape.trans h.tape,k.output.trans h.output,Asq h.size k.size,fun i hi hr=>(k.block i (Asp hi h.size) hr).trans (h.block i hi hr)⟩
theorem below_grown{B:Nat}{w w':World}{b:Nat}(hg:w.grownBy w' (some b))(hb:B<=b)(hB:B<=w.heap.size):Below B w w':=
 ⟨hg.os,hg.tape,hg.output,hg.size,fun k hk=>hg.block k (by omega) (by intro e;cases e;omega)⟩
theorem Ak2{W:World}{b1:Nat}{L:List (Sg×Int)}(h:W.heap[b1]?=some (.map (AK Ax (stamp L)).toArray L.length))(s:Sg)(h1:∀e∈L,Bc s e.1=false)(h2:∀e∈L,Bc (CM s) e.1=false)(hne:Bc (CM s) s=false)(y z:Int) :
  ∃(n1:Nat) (X Z X2 Z2:World),(Instr.mapEntry 108 (.map (some b1)) (Ax s)).run Tryz.prog W=.ok (.tuple #[.int .i64 0,.int .i64 (L.length:Nat)]) X
   /\(Instr.entryStore 108 (.map (some b1)) (.int .i64 (L.length:Nat)) (.int .i64 y)).run Tryz.prog X=.ok () Z
   /\(Instr.mapEntry 108 (.map (some b1)) (Ax (CM s))).run Tryz.prog Z=.ok (.tuple #[.int .i64 0,.int .i64 (n1:Nat)]) X2
   /\(Instr.entryStore 108 (.map (some b1)) (.int .i64 (n1:Nat)) (.int .i64 z)).run Tryz.prog X2=.ok () Z2
   /\W.grownBy X (some b1)/\W.grownBy Z (some b1)/\W.grownBy X2 (some b1)/\W.grownBy Z2 (some b1)/\Z2.heap.size=W.heap.size/\Z2.heap[b1]?=some (.map (AK Ax (stamp (L ++ [(s,y),(CM s,z)]))).toArray (L ++ [(s,y),(CM s,z)]).length):=by
 obtain⟨X,e1,g1,s1,Z,e2,g2,s2,hb⟩:=vw h s h1 y
 obtain⟨X2,e3,g3,s3,Z2,e4,g4,s4,hb2⟩:=vw hb (CM s) (by
  intro e he
  rcases List.mem_append.1 he with he|he
  ·exact h2 e he
  ·simp only [Ass]at he;subst he;exact hne) z
 have hl:(L ++ [(s,y)]).length=L.length+1:=(by simp);rw [hl]at e3 e4;rw [List.append_assoc]at hb2;exact⟨L.length+1,X,Z,X2,Z2,e1,e2,e3,e4,g1,g2,OI g2 g3,OI g2 g4,by omega,hb2⟩
section
variable {ops : Array Oper} {o : Oper} {a : Act} {K : Act → World → Prop} {Q : Exit → Act → World → Prop} {E : Prop}
theorem Abp(hgd:o.guard=none)(s x:Operand)(ho:o.op=.call {callee:=.builtin .append,args:=#[s,x],argTypes:=#[39,39]})
  {v u v':Value} {w Z:World} (hs:a.eval s=v) (hx:a.eval x=u) (hr:(Builtin.append_ #[39,39] o.type #[v,u]).run Tryz.prog w=.ok v' Z) (h:K (a.put o.dst v') Z) :
  if Region.wanted o (yielded ops a.tmps)=true then Oper.wp Tryz.prog o a w K Q else E:=by
 have hw:Region.wanted o (yielded ops a.tmps)=true:=(by simp [Region.wanted,hgd]);rw [if_pos hw];unfold Oper.wp execOp;simp only [ho,resolve,invoke,builtin,Sem.run_bind,Sem.run_pure,Result.andThen_ok,List.map_toArray,List.map_cons,List.map_nil,hs,hx,hr];exact h
end
def BU(b2:Nat)(W V:World):Prop:=W.heap.size<=V.heap.size/\∀k o,W.heap[k]?=some o→k≠b2→(∀cs,o≠.cells cs 35 (0,0))→V.heap[k]?=some o
theorem BU.trans{b2:Nat}{a b c:World}(h:BU b2 a b)(k:BU b2 b c):BU b2 a c:=
 ⟨Asq h.1 k.1,fun i o h1 h2 h3=>k.2 i o (h.2 i o h1 h2 h3) h2 h3⟩
theorem BU.of_ext{b2:Nat}{a b:World}(h:Aa a b):BU b2 a b:=⟨h.size,fun i _ h1 _ _=>(h.block i (Array.getElem?_eq_some_iff.1 h1).1).trans h1⟩
theorem BU.of_grown{b2:Nat}{a b:World}(h:a.grownBy b (some b2)):BU b2 a b:=⟨h.size,fun i _ h1 h2 _=>(h.block i (Array.getElem?_eq_some_iff.1 h1).1 (by simp;exact h2)).trans h1⟩
theorem sT{R:List (Pt×List Pt)}{p:Pt}{n:Nat}(h:∀e∈R,e.2.length<=n):∀e∈Hx R p,e.2.length<=n:=by
 unfold Hx
 split
 ·exact h
 ·intro e he
  rcases List.mem_append.1 he with he|he
  ·exact h e he
  ·simp only [Ass]at he;subst he;simp
theorem cZ{R:List (Pt×List Pt)}{p q:Pt}{n:Nat}(h:∀e∈R,e.2.length<=n):∀e∈EM R p q,e.2.length<=n+1:=by
 intro e he;unfold EM at he;obtain⟨i,hi,rfl⟩:=List.getElem_of_mem he;rw [List.getElem_modify];have hi':i<(Hx R p).length:=(by simpa using hi);have:=sT (p:=p) h _ (Asg hi')
 split
 ·simp;omega
 ·omega
theorem sU{B:Nat}{W:World}{b2:Nat}{E:List (Pt×Value×Nat)}{R0:List (Pt×List Pt)}(h:Fh B W b2 E R0)(hB:B<=W.heap.size)(p q:Pt)(hn:∀e∈R0,e.2.length<=100000) :
  ∃(j:Nat) (v v':Value) (X Z Z':World) (E':List (Pt×Value×Nat)),
   (Instr.mapEntry 109 (.map (some b2)) (Ak p)).run Tryz.prog (W.alloc (.cells #[S (R q.x),S (R q.y)] 35)).drew=.ok (.tuple #[v,.int .i64 (j:Nat)]) X
   /\(∀ty,ty=39→(Builtin.append_ #[39,39] ty #[v,.slice (some ⟨W.heap.size,0,none⟩) 1 1]).run Tryz.prog X=.ok v' Z)
   /\(Instr.entryStore 109 (.map (some b2)) (.int .i64 (j:Nat)) v').run Tryz.prog Z=.ok () Z'
   /\BU b2 W X/\BU b2 W Z/\BU b2 W Z'/\Below B W Z'/\Fh B Z' b2 E' (EM R0 p q):=by
 have hx:=((Aa.refl W).alloc (.cells #[S (R q.x),S (R q.y)] 35)).drew;have hg0:(W.alloc (.cells #[S (R q.x),S (R q.y)] 35)).drew.heap[W.heap.size]?=_:=Ase W (.cells #[S (R q.x),S (R q.y)] 35);have hA:=h.keep (JK hx none);obtain⟨X,E1,hA1,g1,s1,hj,hj',hk,hrun,hX⟩:=hA.entry p;have hgX:X.heap[W.heap.size]?=some (.cells #[S (R q.x),S (R q.y)] 35):=(g1.block _ (by simp) (by have:=h.lt;simp;omega)).trans hg0;have xB:B<=X.heap.size:=by rw [s1];simp;omega
 have hlen:((Hx R0 p)[Ha R0 p]).2.length<200000:=by have:=sT hn _ (Asg hj');omega
 obtain⟨v',Z,Z',hr,gZ,hst,wT,hA2⟩:=hA1.append xB hj hj' hlen q hgX 39;have oZ:BU b2 W X:=(BU.of_ext hx).trans (BU.of_grown g1)
 have stZ:BU b2 X Z:=by
  refine⟨gZ.size,fun k o h1 _ h3=>(gZ.block k (Array.getElem?_eq_some_iff.1 h1).1 ?_).trans h1⟩
  rcases(hA1.row _ hj hj').2.2.2 with⟨hv,_⟩|⟨g,cap,cur,hv,_,hg,_⟩
  ·rw [hv];simp [Value.ownBlock]
  ·rw [hv];simp only [Value.ownBlock,ne_eq,Asj];intro e;rw [e,hg]at h1;exact h3 cur (Option.some.inj h1).symm
 have bZ:Below B X Z:=⟨gZ.os,gZ.tape,gZ.output,gZ.size,fun k hkB=>gZ.block k (by omega) (by
  rcases(hA1.row _ hj hj').2.2.2 with⟨hv,_⟩|⟨g,cap,cur,hv,hb,_⟩
  ·rw [hv];simp [Value.ownBlock]
  ·rw [hv];simp only [Value.ownBlock,ne_eq,Asj];omega)⟩
 have bb:=h.own;have Xu:B<=Z.heap.size:=Asq xB gZ.size;have Ae4:Below B W Z':=((Below.mono hx hB).trans (below_grown g1 bb (by simp;omega))).trans (bZ.trans (below_grown wT bb Xu));refine⟨Ha R0 p,E1[Ha R0 p].2.1,v',X,Z,Z',_,?_,?_,hst,oZ,oZ.trans stZ,oZ.trans (stZ.trans (BU.of_grown wT)),Ae4,hA2⟩
 ·rw [hX];exact hrun _ rfl
 ·intro ty Mm;subst Mm;exact hr
theorem Aea{B:Nat}{w:World}{r b1 b2:Nat}{L:List (Sg×Int)}{E:List (Pt×Value×Nat)}{R0:List (Pt×List Pt)}(h:Cl B w r b1 b2 L E R0)(hB:B<=w.heap.size)(s:Sg)(y z:Int)
  (h1:∀e∈L,Bc s e.1=false) (h2:∀e∈L,Bc (CM s) e.1=false) (hne:Bc (CM s) s=false) (hn:∀e∈R0,e.2.length<=90000) :
  Calls Tryz.prog 121 #[.pointer (some ⟨r,0,none⟩),Ax s,.int .i64 y,.int .i64 z] w (fun e w'=>e=.returned (.tuple #[])/\Below B w w'/\(∀k o,w.heap[k]?=some o→k≠b1→k≠b2→(∀cs,o≠.cells cs 35 (0,0))→w'.heap[k]?=some o)/\∃E',Cl B w' r b1 b2 (L ++ [(s,y),(CM s,z)]) E' (EM (EM R0 s.a s.b) s.b s.a)):=by
 have hE:=(Aa.refl w).alloc (.cells #[S (R s.a.x),S (R s.a.y),S (R s.b.x),S (R s.b.y)] 183);have Em:=Ase w (.cells #[S (R s.a.x),S (R s.a.y),S (R s.b.x),S (R s.b.y)] 183);obtain⟨hc,hl,ha,hr0,hr1,BA⟩:=h;have hcl:=Asd hc;have EX:=(Array.getElem?_eq_some_iff.1 hl).1;have He:=ha.lt;have bk:=AeA s;unfold Ax at bk;unfold Ax;go_enter Tryz.func121,Tryz.ntmps121
 go_upto_region 1 with fail
 replace hc:=(hE.block r hcl).trans hc;replace hl:=(hE.block b1 EX).trans hl;replace ha:=ha.keep (JK hE none);generalize hV:w.alloc (.cells #[S (R s.a.x),S (R s.a.y),S (R s.b.x),S (R s.b.y)] 183)=V at *;obtain⟨bs,TL⟩:=AcG w.heap.size;rw [←TL]at Em ⊢;have nr:b1≠r:=(by intro e;rw [e,hc]at hl;cases hl);have ns:b1≠bs:=(by omega);have nbs:B<=bs:=(by omega);have nrs:r≠bs:=(by omega);have mS:b2≠bs:=(by omega);have nle:w.heap.size<=bs:=(by omega);have HV:=Asb hV;clear TL hV
 have SO:∀w',V.grownBy w' (some b1)→(w'.cell? ⟨r,0,none⟩=some (.map (some b1))/\w'.cell? ⟨r,1,none⟩=some (.map (some b2))/\w'.cell? ⟨bs,0,none⟩=some (S (R s.a.x))/\w'.cell? ⟨bs,1,none⟩=some (S (R s.a.y))/\w'.cell? ⟨bs,2,none⟩=some (S (R s.b.x))/\w'.cell? ⟨bs,3,none⟩=some (S (R s.b.y))):=fun w' hg=>⟨Qz hg (Ab hc rfl) (by simp;omega),Qz hg (Ab hc rfl) (by simp;omega),Qz hg (Ab Em rfl) (by simp;omega),Qz hg (Ab Em rfl) (by simp;omega),Qz hg (Ab Em rfl) (by simp;omega),Qz hg (Ab Em rfl) (by simp;omega)⟩
 have t0:V.grownBy V.drew (some b1):=JK (Aa.refl V).drew _
 go_region_held3 (fun w'=>w'.cell? ⟨r,0,none⟩=some (.map (some b1))/\w'.cell? ⟨r,1,none⟩=some (.map (some b2))/\w'.cell? ⟨bs,0,none⟩=some (S (R s.a.x))/\w'.cell? ⟨bs,1,none⟩=some (S (R s.a.y))/\w'.cell? ⟨bs,2,none⟩=some (S (R s.b.x))/\w'.cell? ⟨bs,3,none⟩=some (S (R s.b.y)))
  (first|with_reducible exact SO _ t0|with_reducible exact SO _ t1|with_reducible exact SO _ t2|with_reducible exact SO _ t3|with_reducible exact SO _ t4|with_reducible exact SO _ t5)
  (first|((with_reducible refine(bk _).mono ?_);rintro e w1 ⟨rfl,hx1⟩;have t1:V.grownBy w1 (some b1):=OI t0 (JK hx1 _);obtain⟨n1,X,Z,X2,Z2,e1,e2,e3,e4,u1,u2,u3,u4,u5,u6⟩:=Ak2 (((Aa.refl V).drew.trans hx1).block b1 (Asd hl) |>.trans hl) s h1 h2 hne y z;have t2:=OI t1 u1;have t3:=OI t1 u2;have t4:=OI t1 u3;have t5:=OI t1 u4;unfold Ax at e1 e3))
 have gz:V.grownBy Z2 (some b1):=t5;have Zn:r≠b2:=(by intro e;rw [e,ha.blk]at hc;cases hc);have hc1:=(gz.block r (Asd hc) (by simp;omega)).trans hc;have hb1:=(gz.block bs (Asd Em) (by simp;omega)).trans Em;have OW:Fh B V b2 E R0:=ha
 have zE:Fh B Z2 b2 E R0:=by
  refine⟨(gz.block b2 OW.lt (by simp;omega)).trans OW.blk,OW.len,fun i hi hi'=>?_,OW.apart,OW.own⟩;obtain⟨s1,s2,s3⟩:=OW.row i hi hi';refine⟨s1,s2,s3.kept gz ?_⟩
  rcases s3.2 with⟨hv,_⟩|⟨g,cap,cur,hv,_,hg,_⟩
  ·left;rw [hv];rfl
  ·right
   rw [hv];simp only [Value.ownBlock,ne_eq,Asj];intro e;rw [e,hl]at hg
   cases hg
 have HL2:=Asb u6;have GZ:=Asb (show ∀k o,w.heap[k]?=some o→k≠b1→Z2.heap[k]?=some o from fun k o q1 q2=>(gz.block k (Asp (Array.getElem?_eq_some_iff.1 q1).1 hE.size) (by simp;exact q2)).trans ((hE.block k (Array.getElem?_eq_some_iff.1 q1).1).trans q1));have bz:Below B w Z2:=(Below.mono hE hB).trans (below_grown gz hr1 (by have:=hE.size;omega));have BZ:=Asb bz;have HC:=Asb hc;have Xu:B<=Z2.heap.size:=(by have:=gz.size;have:=hE.size;omega);clear SO t0 t1 t2 t3 t4 t5 e1 e2 e3 e4 u1 u2 u3 u4 u5 u6 ha OW hc hl Em hx1 bz gz;obtain⟨j1,v1,u1,X1,Y1,Q1,E1,c1,c2,c3,y1,y2,y3,y4,y5⟩:=sU zE Xu s.a s.b (fun e he=>Asq (hn e he) (by omega));replace c2:=c2 _ rfl
 have Qh:∀w',BU b2 Z2 w'→(w'.cell? ⟨r,0,none⟩=some (.map (some b1))/\w'.cell? ⟨r,1,none⟩=some (.map (some b2))/\w'.cell? ⟨bs,0,none⟩=some (S (R s.a.x))/\w'.cell? ⟨bs,1,none⟩=some (S (R s.a.y))/\w'.cell? ⟨bs,2,none⟩=some (S (R s.b.x))/\w'.cell? ⟨bs,3,none⟩=some (S (R s.b.y))):=fun w' hg=>
  have z1:=hg.2 r _ hc1 Zn (by intro cs e;cases e);have z2:=hg.2 bs _ hb1 (fun e=>mS e.symm) (by intro cs e;cases e)
  ⟨Ab z1 rfl,Ab z1 rfl,Ab z2 rfl,Ab z2 rfl,Ab z2 rfl,Ab z2 rfl⟩
 have t0:BU b2 Z2 Z2.drew:=BU.of_ext (Aa.refl Z2).drew;have t1:BU b2 Z2 (Z2.alloc (.cells #[S (R (s.b).x),S (R (s.b).y)] 35)).drew:=BU.of_ext ((Aa.refl _).alloc _).drew;unfold Ak at c1;(go_wp2_with fail)
 go_region_held3 (fun w'=>w'.cell? ⟨r,0,none⟩=some (.map (some b1))/\w'.cell? ⟨r,1,none⟩=some (.map (some b2))/\w'.cell? ⟨bs,0,none⟩=some (S (R s.a.x))/\w'.cell? ⟨bs,1,none⟩=some (S (R s.a.y))/\w'.cell? ⟨bs,2,none⟩=some (S (R s.b.x))/\w'.cell? ⟨bs,3,none⟩=some (S (R s.b.y)))
  (first|with_reducible exact Qh _ t0|with_reducible exact Qh _ t1|with_reducible exact Qh _ y1|with_reducible exact Qh _ y2|with_reducible exact Qh _ y3)
  (first|(refine Abp (s:=.tmp 31) (x:=.tmp 34) ?hgd ?ho ?hs ?hx c2 ?h;(case hgd=>rfl);(case ho=>rfl);(case hs=>rfl);(case hx=>rfl)))
 have haQ:=y5;have hBQ:B<=Q1.heap.size:=Asq Xu y3.1;have hc2:=y3.2 r _ hc1 Zn (by intro cs e;cases e);have gI:=y3.2 bs _ hb1 (fun e=>mS e.symm) (by intro cs e;cases e);have Y3:=Asb y3;have Y4:=Asb y4;clear Qh t0 t1 c1 c2 c3 y1 y2 y3 y4 y5 zE hc1 hb1;obtain⟨j2,v2,u2,X2',Y2',Q2,E2,c1,c2,c3,y1,y2,aL,y4',y5'⟩:=sU haQ hBQ s.b s.a (fun e he=>Asq (cZ hn e he) (by omega));replace c2:=c2 _ rfl
 have S8:∀w',BU b2 Q1 w'→(w'.cell? ⟨r,0,none⟩=some (.map (some b1))/\w'.cell? ⟨r,1,none⟩=some (.map (some b2))/\w'.cell? ⟨bs,0,none⟩=some (S (R s.a.x))/\w'.cell? ⟨bs,1,none⟩=some (S (R s.a.y))/\w'.cell? ⟨bs,2,none⟩=some (S (R s.b.x))/\w'.cell? ⟨bs,3,none⟩=some (S (R s.b.y))):=fun w' hg=>
  have z1:=hg.2 r _ hc2 Zn (by intro cs e;cases e);have z2:=hg.2 bs _ gI (fun e=>mS e.symm) (by intro cs e;cases e)
  ⟨Ab z1 rfl,Ab z1 rfl,Ab z2 rfl,Ab z2 rfl,Ab z2 rfl,Ab z2 rfl⟩
 have t0:BU b2 Q1 Q1.drew:=BU.of_ext (Aa.refl Q1).drew;have t1:BU b2 Q1 (Q1.alloc (.cells #[S (R (s.a).x),S (R (s.a).y)] 35)).drew:=BU.of_ext ((Aa.refl _).alloc _).drew;unfold Ak at c1;(go_wp2_with fail)
 go_region_held3 (fun w'=>w'.cell? ⟨r,0,none⟩=some (.map (some b1))/\w'.cell? ⟨r,1,none⟩=some (.map (some b2))/\w'.cell? ⟨bs,0,none⟩=some (S (R s.a.x))/\w'.cell? ⟨bs,1,none⟩=some (S (R s.a.y))/\w'.cell? ⟨bs,2,none⟩=some (S (R s.b.x))/\w'.cell? ⟨bs,3,none⟩=some (S (R s.b.y)))
  (first|with_reducible exact S8 _ t0|with_reducible exact S8 _ t1|with_reducible exact S8 _ y1|with_reducible exact S8 _ y2|with_reducible exact S8 _ aL)
  (first|(refine Abp (s:=.tmp 44) (x:=.tmp 47) ?hgd ?ho ?hs ?hx c2 ?h;(case hgd=>rfl);(case ho=>rfl);(case hs=>rfl);(case hx=>rfl)))
 go_wp2
 go_end0
 refine⟨rfl,(BZ.out.trans Y4.out).trans y4',fun k o q1 q2 q3 q4=>aL.2 k o (Y3.out.2 k o (GZ.out k o q1 q2) q3 q4) q3 q4,E2,⟨aL.2 r _ hc2 Zn (by intro cs e;cases e),aL.2 b1 _ (Y3.out.2 b1 _ HL2.out BA (by intro cs e;cases e)) BA (by intro cs e;cases e),y5',hr0,hr1,BA⟩⟩
def B6(pts:List Pt)(e:AO):Sg:=⟨AA pts e.f,AA pts e.t⟩
def CV(pts:List Pt)(l:List AO):List (Sg×Int):=l.flatMap fun e=>[(B6 pts e,e.l),(CM (B6 pts e),e.r)]
def GO(pts:List Pt)(l:List AO):List (Pt×List Pt):=l.foldl (fun R0 e=>EM (EM R0 (B6 pts e).a (B6 pts e).b) (B6 pts e).b (B6 pts e).a) []
theorem yb(pts:List Pt)(l:List AO)(e:AO):CV pts (l ++ [e])=CV pts l ++ [(B6 pts e,e.l),(CM (B6 pts e),e.r)]:=by simp [CV]
theorem yg(pts:List Pt)(l:List AO)(e:AO):GO pts (l ++ [e])=EM (EM (GO pts l) (B6 pts e).a (B6 pts e).b) (B6 pts e).b (B6 pts e).a:=by simp [GO]
theorem yf(pts:List Pt):∀(l:List AO) (R0:List (Pt×List Pt)) (n:Nat),(∀e∈R0,e.2.length<=n)→∀e∈l.foldl (fun R0 e=>EM (EM R0 (B6 pts e).a (B6 pts e).b) (B6 pts e).b (B6 pts e).a) R0,e.2.length<=n+2*l.length
 | [],_,_,h=>by simpa using h
 | x::l,R0,n,h=>by intro e he;rw [List.foldl_cons]at he;have:=yf pts l _ (n+1+1) (cZ (cZ h)) e he;rw [List.length_cons];omega
theorem ye(pts:List Pt)(l:List AO):∀e∈GO pts l,e.2.length<=2*l.length:=by
 intro e he;have:=yf pts l [] 0 (by simp) e he;omega
theorem AmL{w:World}{b o:Nat}{cs:List Value}(h:Am w (some ⟨b,o,none⟩) cs)(hl:0<cs.length):b<w.heap.size:=by
 obtain⟨b',o',e,hc⟩:=h.ad hl;have e2:(⟨b,o,none⟩:Addr)=⟨b',o',none⟩:=Option.some.inj e;obtain rfl:b=b':=(by injection e2);have h1:=hc 0 hl;unfold World.cell? at h1
 rcases Nat.lt_or_ge b w.heap.size with h'|h'
 ·exact h'
 ·simp [Array.getElem?_eq_none h']at h1
theorem WG{B:Nat}{w w':World}(h:Below B w w'){a:Addr}{v:Value}(hb:a.block<B)(hv:w.cell? a=some v):w'.cell? a=some v:=(World.cell?_of_block (h.block _ hb)).trans hv
theorem zh{w:World}{B B':Nat}{e:TypeId}{size:Nat}{v:Value}{n:Nat}{xs:List Value}(h:w.ownsRow B e size v n xs)(hB:B'<=B):w.ownsRow B' e size v n xs:=by
 refine⟨h.1,?_⟩
 rcases h.2 with h'|⟨g,cap,cur,h1,h2,h3⟩
 ·exact .inl h'
 ·exact .inr ⟨g,cap,cur,h1,Asq hB h2,h3⟩
theorem Cl.ext{B:Nat}{W W':World}{r b1 b2:Nat}{L:List (Sg×Int)}{E:List (Pt×Value×Nat)}{R0:List (Pt×List Pt)}(h:Cl B W r b1 b2 L E R0)(hx:Aa W W'):Cl B W' r b1 b2 L E R0:=
 ⟨(hx.block _ (Asd h.cell)).trans h.cell,(hx.block _ (Array.getElem?_eq_some_iff.1 h.left).1).trans h.left,h.ar.keep (JK hx none),h.r0,h.r1,h.ne⟩
structure PV(pts:List Pt)(l:List AO):Prop where
 rng:∀e∈l,0<=e.f/\0<=e.t/\e.f<(pts.length:Int)/\e.t<(pts.length:Int)
 ne:∀e∈l,Bc (CM (B6 pts e)) (B6 pts e)=false
 dis:∀j (h:j<l.length),∀e∈l.take j,Bc (B6 pts l[j]) (B6 pts e)=false/\Bc (B6 pts l[j]) (CM (B6 pts e))=false/\Bc (CM (B6 pts l[j])) (B6 pts e)=false/\Bc (CM (B6 pts l[j])) (CM (B6 pts e))=false
theorem PV.keys{pts:List Pt}{l:List AO}(h:PV pts l){j:Nat}(hj:j<l.length):(∀e∈CV pts (l.take j),Bc (B6 pts l[j]) e.1=false)/\(∀e∈CV pts (l.take j),Bc (CM (B6 pts l[j])) e.1=false):=by
 constructor
 all_goals
  intro e he;unfold CV at he;rw [List.mem_flatMap]at he;obtain⟨x,hx,he⟩:=he;obtain⟨d1,d2,d3,d4⟩:=h.dis j hj x hx;simp only [List.mem_cons,Asr,or_false]at he
  rcases he with rfl|rfl<;>assumption
theorem Ago{w:World} : Cl w.heap.size (Tb w) (w.heap.size+1+1) w.heap.size (w.heap.size+1) [] [] []:=by
 unfold Tb;have h0:=Ase w (.map #[] 0);have h1:=Ase (w.alloc (.map #[] 0)) (.map #[] 0);have h2:=Ase ((w.alloc (.map #[] 0)).alloc (.map #[] 0)) (.cells #[.map (some w.heap.size),.map (some (w.heap.size+1))] 111);simp only [Asn]at h1 h2;have x1:=((Aa.refl (w.alloc (.map #[] 0))).alloc (.map #[] 0)).alloc (.cells #[.map (some w.heap.size),.map (some (w.heap.size+1))] 111);have x2:=(Aa.refl ((w.alloc (.map #[] 0)).alloc (.map #[] 0))).alloc (.cells #[.map (some w.heap.size),.map (some (w.heap.size+1))] 111);exact⟨h2,(x1.block _ (by simp)).trans h0,⟨(x2.block _ (by simp)).trans h1,rfl,fun i hi=>by simp at hi,fun i _ hi=>by simp at hi,by omega⟩,by omega,Asf _,by omega⟩
theorem Als(m:B7)(A B F:Option Addr)(c d g:Nat)(BF:IW m c d g)(Au:PV m.pts m.eds)(hle:m.eds.length<=1200)(w:World)(hA:Am w A (flat (AI m.pts)))(hB:Am w B (Ce m.eds)) :
  Calls Tryz.prog 53 #[Dh A B F m c d g] w (fun e w'=>∃r b1 b2 E,e=.returned (.pointer (some ⟨r,0,none⟩))/\Aa w w'/\Cl w.heap.size w' r b1 b2 (CV m.pts m.eds) E (GO m.pts m.eds)):=by
 obtain⟨c1,c2,d1,d2,g1,g2⟩:=BF;have hM:=Ase w (.cells #[.slice A m.pts.length c,.slice B m.eds.length d,.slice F m.nf g] 43);have hE:=(Aa.refl w).alloc (.cells #[.slice A m.pts.length c,.slice B m.eds.length d,.slice F m.nf g] 43);unfold Dh;go_enter Tryz.func53,Tryz.ntmps53
 go_upto_region 1 with fail
 have hA:=hA.ext hE;have hB:=hB.ext hE;generalize w.alloc (.cells #[.slice A m.pts.length c,.slice B m.eds.length d,.slice F m.nf g] 43)=V at *;obtain⟨bm,Cj⟩:=AcG w.heap.size;have ac:bm<V.heap.size:=(by have:=Asd hM;omega);rw [←Cj]at hM ⊢;clear Cj;have em:=Agp V;have en:=@Ago V
 have eb:Below V.heap.size V (Tb V):=((Aa.refl V).alloc _).alloc _ |>.alloc _
 generalize Tb V=V0 at *;obtain⟨r,hr⟩:=AcG (V.heap.size+1+1);obtain⟨b2,hb2⟩:=AcG (V.heap.size+1);obtain⟨b1,hb1⟩:=AcG V.heap.size;rw [←hr]at em en;rw [←hb2]at en;have en':Cl V.heap.size V0 r b1 b2 [] [] []:=(by rw [hb1];exact en);clear hr hb2 hb1 en;have xY:∀w',Aa V w'→w'.heap[bm]?=some (.cells #[.slice A m.pts.length c,.slice B m.eds.length d,.slice F m.nf g] 43):=fun w' h=>(h.block _ ac).trans hM;have m1:=Ab (o:=1) (xY V0 eb) rfl;(go_wp2_with fail);(with_reducible refine em.mono ?_);rintro e w1 ⟨rfl,hw1⟩;rw [hw1];clear hw1
 go_upto_region 3 with fail
 clear m1 em
 go_loopw [10] (fun i wr=>∃j:Nat,i=.int .i64 (j:Nat)/\j<=m.eds.length/\Below V.heap.size V wr/\∃E,Cl V.heap.size wr r b1 b2 (CV m.pts (m.eds.take j)) E (GO m.pts (m.eds.take j))) (fun i _=>m.eds.length-(intOf i).toNat)
 case atStart=>exact⟨0,rfl,by omega,eb,[],by simpa [CV,GO]using en'⟩
 case round=>
  obtain⟨j,rfl,hj,Bw,E,hN⟩:=hrel;have Ac:Aa V wr:=Bw;by_cases hlt:j<m.eds.length
  ·have hj0:(0:Int)<=(j:Int):=(by omega);have AG:(j:Int)<(m.eds.length:Int):=(by omega);obtain⟨b,o,rfl,hg1,hg2,hg3,hg4⟩:=Lq (hB.ext Ac) hlt;have Yo:=Au.keys hlt;have hne:=Au.ne _ (Asg hlt);have hrg:=Au.rng _ (Asg hlt);have hrl:=ye m.pts (m.eds.take j);have U2:=yb m.pts (m.eds.take j) m.eds[j];have U3:=yg m.pts (m.eds.take j) m.eds[j];rw [←Asi hlt]at U2 U3;obtain⟨e,he⟩:=AcG (m.eds[j]);rw [←he]at hg1 hg2 hg3 hg4 Yo hne hrg U2 U3;clear he;obtain⟨ef,CZ⟩:∃n:Nat,e.f=(n:Int):=⟨e.f.toNat,by omega⟩;obtain⟨et,Da⟩:∃n:Nat,e.t=(n:Int):=⟨e.t.toNat,by omega⟩;have ED:ef<m.pts.length:=(by omega);have EE:et<m.pts.length:=(by omega);rw [CZ]at hg1;rw [Da]at hg2;obtain⟨ba,oa,rfl,ha1,ha2⟩:=BO (hA.ext Ac) ED;obtain⟨b3,o3,FN,Ct,Cu⟩:=BO (hA.ext Ac) EE;have HBA:=Asb (AmL hA (by rw [flat_length];simp [AI];omega));obtain⟨rfl,rfl⟩:ba=b3/\oa=o3:=by simpa using FN
   have hs:B6 m.pts e=⟨m.pts[ef],m.pts[et]⟩:=by unfold B6 AA;rw [CZ,Da];simp [ED,EE]
   obtain⟨pa,FU⟩:=AcG (m.pts[ef]);obtain⟨pb,NJ⟩:=AcG (m.pts[et]);rw [←FU]at ha1 ha2 hs;rw [←NJ]at Ct Cu hs;rw [hs]at Yo hne U2 U3;have f0:(0:Int)<=(ef:Int):=(by omega);have f1:(ef:Int)<(m.pts.length:Int):=(by omega);have f2:(0:Int)<=(et:Int):=(by omega);have f3:(et:Int)<(m.pts.length:Int):=(by omega);have hx1:=(Aa.refl wr).alloc (.cells #[.int .i64 (ef:Nat),.int .i64 (et:Nat),.int .i64 e.l,.int .i64 e.r] 59);have Bu:=Ase wr (.cells #[.int .i64 (ef:Nat),.int .i64 (et:Nat),.int .i64 e.l,.int .i64 e.r] 59);have L6:=Asb U2;have HSR:=Asb U3;clear U2 U3 hs FU NJ FN hrg CZ Da
   go_upto_region 5 with fail
   have LP:=(hN.ext hx1).ext (Aa.refl _).drew;have Ej:=xY _ (Ac.trans hx1);have k1:=hx1.cellS ha1;have k2:=hx1.cellS ha2;have k3:=hx1.cellS Ct;have k4:=hx1.cellS Cu;have KP:=Ac.trans hx1;generalize wr.alloc (.cells #[.int .i64 (ef:Nat),.int .i64 (et:Nat),.int .i64 e.l,.int .i64 e.r] 59)=W1 at *;obtain⟨be,Nx⟩:=AcG wr.heap.size;rw [←Nx]at Bu ⊢;clear Nx ha1 ha2 Ct Cu hg1 hg2 hg3 hg4;have ad:=Aea LP (by have:=KP.size;show V.heap.size<=W1.heap.size;exact this) ⟨pa,pb⟩ e.l e.r Yo.1 Yo.2 hne (fun x hx=>by have:=hrl x hx;rw [List.length_take]at this;omega);unfold Ax at ad
   have SO:∀w',Aa W1 w'→(w'.cell? ⟨bm,0,none⟩=some (.slice (some ⟨ba,oa,none⟩) m.pts.length c)/\w'.cell? ⟨be,0,none⟩=some (.int .i64 (ef:Nat))/\w'.cell? ⟨be,1,none⟩=some (.int .i64 (et:Nat))/\w'.cell? ⟨be,2,none⟩=some (.int .i64 e.l)/\w'.cell? ⟨be,3,none⟩=some (.int .i64 e.r)/\w'.cell? ⟨ba,oa+ef*2,none⟩=some (S (R pa.x))/\w'.cell? ⟨ba,oa+ef*2+1,none⟩=some (S (R pa.y))/\w'.cell? ⟨ba,oa+et*2,none⟩=some (S (R pb.x))/\w'.cell? ⟨ba,oa+et*2+1,none⟩=some (S (R pb.y))):=fun w' h=>⟨h.cellS (Ab Ej rfl),h.cellS (Ab Bu rfl),h.cellS (Ab Bu rfl),h.cellS (Ab Bu rfl),h.cellS (Ab Bu rfl),h.cellS k1,h.cellS k2,h.cellS k3,h.cellS k4⟩
   have Zo:be≠b1:=(by intro e;have q:=LP.left;rw [←e]at q;cases (show W1.heap[be]?=_ from q).symm.trans Bu);have NW:be≠b2:=(by intro e;have q:=LP.ar.blk;rw [←e]at q;cases (show W1.heap[be]?=_ from q).symm.trans Bu);have Bj:ba<V.heap.size:=HBA.out;have X:Aa W1 W1:=Aa.refl W1;have Xd:=X.drew
   go_region_held3 (fun w'=>w'.cell? ⟨bm,0,none⟩=some (.slice (some ⟨ba,oa,none⟩) m.pts.length c)/\w'.cell? ⟨be,0,none⟩=some (.int .i64 (ef:Nat))/\w'.cell? ⟨be,1,none⟩=some (.int .i64 (et:Nat))/\w'.cell? ⟨be,2,none⟩=some (.int .i64 e.l)/\w'.cell? ⟨be,3,none⟩=some (.int .i64 e.r)/\w'.cell? ⟨ba,oa+ef*2,none⟩=some (S (R pa.x))/\w'.cell? ⟨ba,oa+ef*2+1,none⟩=some (S (R pa.y))/\w'.cell? ⟨ba,oa+et*2,none⟩=some (S (R pb.x))/\w'.cell? ⟨ba,oa+et*2+1,none⟩=some (S (R pb.y)))
    (first|with_reducible exact SO _ Xd|exact S5)
    (first|((with_reducible refine ad.mono ?_);rintro _ w5 ⟨rfl,hb5,hs5,E5,hN5⟩;have S5:(w5.cell? ⟨bm,0,none⟩=some (.slice (some ⟨ba,oa,none⟩) m.pts.length c)/\w5.cell? ⟨be,0,none⟩=some (.int .i64 (ef:Nat))/\w5.cell? ⟨be,1,none⟩=some (.int .i64 (et:Nat))/\w5.cell? ⟨be,2,none⟩=some (.int .i64 e.l)/\w5.cell? ⟨be,3,none⟩=some (.int .i64 e.r)/\w5.cell? ⟨ba,oa+ef*2,none⟩=some (S (R pa.x))/\w5.cell? ⟨ba,oa+ef*2+1,none⟩=some (S (R pa.y))/\w5.cell? ⟨ba,oa+et*2,none⟩=some (S (R pb.x))/\w5.cell? ⟨ba,oa+et*2+1,none⟩=some (S (R pb.y))):=⟨Ab ((hb5.block bm ac).trans Ej) rfl,Ab (hs5 be _ Bu Zo NW (by intro cs e;cases e)) rfl,Ab (hs5 be _ Bu Zo NW (by intro cs e;cases e)) rfl,Ab (hs5 be _ Bu Zo NW (by intro cs e;cases e)) rfl,Ab (hs5 be _ Bu Zo NW (by intro cs e;cases e)) rfl,WG hb5 Bj k1,WG hb5 Bj k2,WG hb5 Bj k3,WG hb5 Bj k4⟩))
   have hN6:=L6.out▸HSR.out▸hN5;have Jl:Below V.heap.size V w5:=Below.trans (Aa.drew KP) hb5;have HB6:=Asb Jl;clear SO S5 X Xd ad hb5 hs5 Jl;go_wp2;go_roundw
   case rel=>exact⟨j+1,by go_num,hlt,HB6.out,E5,hN6⟩
   case measure=>simp [intOf];omega
  ·have Yr:(m.eds.length:Int)<=(j:Int):=(by omega);obtain rfl:j=m.eds.length:=(by omega);rw [Aso (Asf _)]at hN;have HN:=Asb hN;have HE:=Asb (hE.trans Ac);have HS:=Asb hE.size;clear hN Ac Bw;go_wp2;go_ret;have hN:=HN.out;exact⟨r,b1,b2,E,rfl,HE.out,⟨hN.cell,hN.left,⟨hN.ar.blk,hN.ar.len,fun i hi hi'=>⟨(hN.ar.row i hi hi').1,(hN.ar.row i hi hi').2.1,zh (hN.ar.row i hi hi').2.2 HS.out⟩,hN.ar.apart,Asq HS.out hN.ar.own⟩,Asq HS.out hN.r0,Asq HS.out hN.r1,hN.ne⟩⟩
end Go.Proofs.YtdaefncphfeaeaaGreatDoor
namespace Go.Proofs.YtdaefncphfeaeaaGreatDoor
open Go.RowKit Kl
def KA(R0:List (Pt×List Pt))(p:Pt):Nat:=match R0.find? (fun e=>Ar p e.1)with|some e=>e.2.length|none=>0
theorem AgE{E:List (Pt×Value×Nat)}{R0:List (Pt×List Pt)}{B:Nat}{W:World}{b2:Nat}(h:Fh B W b2 E R0)(p:Pt) :
  (∃A c,Le Ar (.slice none 0 0) p E=.slice A (KA R0 p) c):=by
 have Gs:=eH h.len (fun i h1 h2=>(h.row i h1 h2).1) p;unfold Le KA
 cases hf:R0.findIdx? (fun e=>Ar p e.1)with
 | none=>
  rw [hf]at Gs
  have e1:E.find? (fun e=>Ar p e.1)=none:=by rw [List.find?_eq_none];rw [List.findIdx?_eq_none_iff]at Gs;intro x hx;rw [Gs x hx];simp
  have e2:R0.find? (fun e=>Ar p e.1)=none:=by rw [List.find?_eq_none];rw [List.findIdx?_eq_none_iff]at hf;intro x hx;rw [hf x hx];simp
  rw [e1,e2];exact⟨none,0,rfl⟩
 | some j=>
  rw [hf]at Gs;rw [List.findIdx?_eq_some_iff_getElem]at Gs hf;obtain⟨hj,h1,h2⟩:=Gs;obtain⟨hj',h3,h4⟩:=hf
  have e1:E.find? (fun e=>Ar p e.1)=some E[j]:=by rw [List.find?_eq_some_iff_getElem];exact⟨h1,j,hj,rfl,fun i hi=>by have:=h2 i hi;simpa using this⟩
  have e2:R0.find? (fun e=>Ar p e.1)=some R0[j]:=by rw [List.find?_eq_some_iff_getElem];exact⟨h3,j,hj',rfl,fun i hi=>by have:=h4 i hi;simpa using this⟩
  rw [e1,e2]
  rcases(h.row j hj hj').2.2.2 with⟨hv,hn⟩|⟨g,cap,cur,hv,_⟩
  ·simp only;rw [hv,hn];exact⟨none,0,rfl⟩
  ·simp only;rw [hv];exact⟨_,_,rfl⟩
theorem Ag7{B:Nat}{w:World}{r b1 b2:Nat}{L:List (Sg×Int)}{E:List (Pt×Value×Nat)}{R0:List (Pt×List Pt)}(h:Cl B w r b1 b2 L E R0)(bn:Nat)(BJ:w.cell? ⟨bn,0,none⟩=some (.pointer (some ⟨r,0,none⟩)))(p:Pt) :
  Calls Tryz.prog 55 #[Ak p,.pointer (some ⟨bn,0,none⟩)] w (Dq (decide (KA R0 p<2)) w):=by
 have hE:=(Aa.refl w).alloc (.cells #[S (R p.x),S (R p.y)] 35);have hb0:=Ase w (.cells #[S (R p.x),S (R p.y)] 35);have hN:=h.ext hE;obtain⟨A,c,hv⟩:=AgE h.ar p;have JU:=hE.cellS BJ;obtain⟨x,hx⟩:=AcG (decide (KA R0 p<2));rw [←hx];have HX:=Asb (show x=decide ((KA R0 p:Int)<2)by rw [hx];simp;omega);unfold Ak;clear hx;go_enter Tryz.func55,Tryz.ntmps55
 go_upto_region 1 with fail
 generalize w.alloc (.cells #[S (R p.x),S (R p.y)] 35)=V at *;obtain⟨bp,AS⟩:=AcG w.heap.size;rw [←AS]at hb0 ⊢;clear AS;have q1:∀q:Ad V,q.w.cell? ⟨bn,0,none⟩=some (.pointer (some ⟨r,0,none⟩)):=Ad.cell JU;have q2:∀q:Ad V,q.w.cell? ⟨r,1,none⟩=some (.map (some b2)):=Ad.cell (Ab hN.cell rfl);have q3:∀q:Ad V,q.w.cell? ⟨bp,0,none⟩=some (S (R p.x)):=Ad.cell (Ab hb0 rfl);have q4:∀q:Ad V,q.w.cell? ⟨bp,1,none⟩=some (S (R p.y)):=Ad.cell (Ab hb0 rfl)
 have q5:∀q:Ad V,(Instr.lookup 109 (.map (some b2)) (Ak p) false).run Tryz.prog q.w=.ok (.slice A (KA R0 p) c) q.w:=fun q=>by rw [ZQ UP p E (W:=q.w) ((q.h.block b2 hN.ar.lt).trans hN.ar.blk),hv]
 unfold Ak at q5;clear JU hb0 hN h BJ hv;refine Bi (by kernel_rfl) (by kernel_rfl) ?_
 repeat (go_big_quiet_step (fail))
 refine wpQuiet_nil ?_;rintro _ ⟨q,rfl⟩;go_wp2;go_ret;exact⟨by rw [HX.out];rfl,hE.trans q.h⟩
end Go.Proofs.YtdaefncphfeaeaaGreatDoor
