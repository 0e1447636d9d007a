/- V25: M18 M19 M20. -/
import Derived.Test.YtbejphgbbpplbaaGreatDoorV23
set_option maxRecDepth 100000
set_option maxHeartbeats 8000000
namespace Go.Proofs.YtbejphgbbpplbaaGreatDoor
open Go.RowKit Kl
open Go.ChangeMaps (setBlock)
section
variable {α : Type} (enc : α → Value)
structure C5(W:World)(r b:Nat)(E:List (α×Value×Nat))(seen:List Nat):Prop where
 it:W.heap[r]?=some (.mapIter (some b) E.length seen.toArray E.length)
 nd:seen.Nodup
 lt:∀i∈seen,i<E.length
theorem C5.range{W:World}{b:Nat}{E:List (α×Value×Nat)}{t k e:TypeId}(ht:Tryz.prog.underlying t=some (.map k e))(hb:W.heap[b]?=some (.map (Aw enc E).toArray E.length)) :
  (Instr.range t (.map (some b))).run Tryz.prog W=.ok (.pointer (some ⟨W.heap.size,0,none⟩)) (W.alloc (.mapIter (some b) E.length #[] E.length))/\C5 (W.alloc (.mapIter (some b) E.length #[] E.length)) W.heap.size b E []:=
 ⟨run_range_map W t k e b _ _ ht hb,AmW _ _,List.nodup_nil,by simp⟩
theorem C5.keep{W W':World}{r b:Nat}{E:List (α×Value×Nat)}{seen:List Nat}(h:C5 W r b E seen)(hk:W'.heap[r]?=W.heap[r]?):C5 W' r b E seen:=⟨hk.trans h.it,h.nd,h.lt⟩
theorem Acr{E:List (α×Value×Nat)}(hst:∀i (h:i<E.length),E[i].2.2=i):(Aw enc E).map (·.born)=List.range E.length:=by
 apply List.ext_getElem
 ·simp [Aw]
 ·intro i h1 h2;simp [Aw]at h1 ⊢;exact hst i h1
theorem C5.next{W:World}{r b:Nat}{E:List (α×Value×Nat)}{seen:List Nat}(h:C5 W r b E seen)(hb:W.heap[b]?=some (.map (Aw enc E).toArray E.length))(hst:∀i (h:i<E.length),E[i].2.2=i)(hne:r≠b)(ty:TypeId) :
  (seen.length=E.length/\(Instr.next (.pointer (some ⟨r,0,none⟩)) false ty).run Tryz.prog W=.ok (.tuple #[.bool false]) W)∨
  ∃i,∃hi:i<E.length,i∉seen/\∃W',C5 W' r b E (seen ++ [i])/\W.grownBy W' (some r)/\W'.heap.size=W.heap.size/\
   (Instr.next (.pointer (some ⟨r,0,none⟩)) false ty).run Tryz.prog W=.ok (.tuple #[.bool true,enc E[i].1,E[i].2.1]) W'/\
   (∀V,V.heap[r]?=W'.heap[r]?→V.heap[b]?=W'.heap[b]?→(Instr.entry (.pointer (some ⟨r,0,none⟩))).run Tryz.prog V=.ok (.tuple #[enc E[i].1,E[i].2.1]) V):=by
 have BR:=Acr enc hst
 have hold:∀x∈(Aw enc E).toArray.toList,x.born<E.length:=by
  intro x hx;have:x.born∈(Aw enc E).map (·.born):=List.mem_map_of_mem hx;rw [BR]at this
  simpa using this
 have Cj:((Aw enc E).toArray.toList.map (·.born)).Nodup:=by show ((Aw enc E).map (·.born)).Nodup;rw [BR];exact List.nodup_range
 rcases run_next_at (P:=Tryz.prog) W ty r b E.length E.length seen.toArray (Aw enc E).toArray E.length h.it hb hold (AmX _)with⟨h0,hrun⟩|⟨x,hx,w1,hw1,hrun⟩
 ·left
  refine⟨?_,hrun⟩;have hall:=all_seen _ _ h0
  have AeQ:List.range E.length ⊆ seen:=by
   intro i hi;rw [←BR]at hi;obtain⟨x,hx,rfl⟩:=List.mem_map.1 hi;have:=hall x hx
   simpa using this
  have h1:E.length<=seen.length:=by
   have:=(List.nodup_range (n:=E.length)).length_le_of_subset AeQ
   simpa using this
  have h2:seen.length<=E.length:=by
   have hs:seen ⊆ List.range E.length:=fun i hi=>(by simpa using h.lt i hi);have:=h.nd.length_le_of_subset hs
   simpa using this
  omega
 ·right
  obtain⟨zH,Ig⟩:=mem_left hx;obtain⟨i,hi,MA⟩:=List.getElem_of_mem zH;have hi':i<E.length:=(by simpa [Aw]using hi);have P9:x=⟨enc E[i].1,E[i].2.1,E[i].2.2⟩:=(by rw [←MA];simp [Aw]);have hb0:x.born=i:=(by rw [P9];exact hst i hi');have hkey:x.key=enc E[i].1:=(by rw [P9]);have hval:x.val=E[i].2.1:=(by rw [P9]);have Gx:i∉seen:=by rw [hb0]at Ig;simpa using Ig
  have hr1:w1.heap[r]?=W.heap[r]?:=by rcases hw1 with rfl|rfl<;>rfl
  have hb1:w1.heap[b]?=W.heap[b]?:=by rcases hw1 with rfl|rfl<;>rfl
  have hG:W.grownBy (setBlock w1 r (.mapIter (some b) E.length (seen.toArray.push x.born) E.length)) (some r):=by
   rcases hw1 with rfl|rfl
   ·exact Kw h.it
   ·exact⟨rfl,rfl,rfl,by simp [setBlock],fun k _ hk=>Ts (fun e=>hk (by rw [e]))⟩
  have hit:=Ls (o:=.mapIter (some b) E.length (seen.toArray.push x.born) E.length) (hr1.trans h.it);refine⟨i,hi',Gx,_,⟨?_,?_,?_⟩,hG,?_,?_,?_⟩
  ·rw [hit,hb0];simp
  ·rw [List.nodup_append];refine⟨h.nd,by simp,?_⟩;intro a ha c hc;simp only [Ank]at hc;subst hc;intro e;rw [e]at ha;exact Gx ha
  ·intro k hk
   rcases List.mem_append.1 hk with hk|hk
   ·exact h.lt k hk
   ·simp only [Ank]at hk;omega
  ·rcases hw1 with rfl|rfl<;>simp [setBlock]
  ·rw [hrun,hkey,hval]
  ·intro V hVr UU;rw [←hkey,←hval];exact run_entry_at V r b E.length seen.toArray (Aw enc E).toArray E.length x (hVr.trans hit) (UU.trans ((Ts (Ne.symm hne)).trans (hb1.trans hb))) zH Cj
end
end Go.Proofs.YtbejphgbbpplbaaGreatDoor
namespace Go.Proofs.YtbejphgbbpplbaaGreatDoor
open Go.RowKit Kl
theorem ox{s:Sg}{x:Rat}{k:Nat}(hs:Ei k s)(hx:Sz k x):Sz (7*k+5) (BE s x):=
 (hs.a.y.add (((hx.sub hs.a.x).div (by omega) (hs.b.x.sub hs.a.x)).mul (hs.b.y.sub hs.a.y))).mono (by omega)
def Hp(p:Pt)(st:Option (Sg×Rat))(s:Sg):Option (Sg×Rat):=
 if 0<=AN s.a.x p.x then st else if AN s.b.x p.x<0 then st else if 0<=AN (BE s p.x) p.y then st else
 match st with
 | none=>some (s,BE s p.x)
 | some (b,h)=>
  if AN (BE s p.x) h=0 then (if 0<AD (Al s.b s.a b.a)then some (s,BE s p.x)else st)
  else if 0<AN (BE s p.x) h then some (s,BE s p.x)else st
def bF:Option (Sg×Rat)→Value
 | none=>S []
 | some (_,h)=>S (R h)
def Y2:Option (Sg×Rat)→Array Value
 | none=>#[S [],S [],S [],S []]
 | some (s,_)=>#[S (R s.a.x),S (R s.a.y),S (R s.b.x),S (R s.b.y)]
def Uq(st:Option (Sg×Rat)):Value:=.agg (Y2 st)
def Df(p:Pt)(l:List Sg):Option (Sg×Rat):=l.foldl (Hp p) none
theorem mV(p:Pt)(l:List Sg)(s:Sg):Df p (l ++ [s])=Hp p (Df p l) s:=by simp [Df]
theorem Ey{α:Type}{W:World}{r b:Nat}{E:List (α×Value×Nat)}{seen:List Nat}(h:C5 W r b E seen):(W.iterSeen r).size=seen.length:=by
 unfold World.iterSeen;rw [h.it];simp
structure Qs(w wr:World)(b1 bb r:Nat)(L:List (Sg×Int))(p:Pt)(seen:List Nat)(st:Option (Sg×Rat)):Prop where
 ext:Aa w wr
 box:wr.heap[bb]?=some (.cells #[S (R p.x),S (R p.y)] 94)
 best:wr.heap[bb+1]?=some (.cells (Y2 st) 155)
 iter:C5 wr r b1 (stamp L) seen
def Ul(p:Pt)(st:Option (Sg×Rat))(s:Sg):Option (Sg×Rat):=
 match st with
 | none=>some (s,BE s p.x)
 | some (b,h)=>if AN (BE s p.x) h=0 then (if 0 < AD (Al s.b s.a b.a)then some (s,BE s p.x)else some (b,h))else if 0 < AN (BE s p.x) h then some (s,BE s p.x)else some (b,h)
theorem Aas(p:Pt)(st:Option (Sg×Rat))(s:Sg):Hp p st s=if 0<=AN s.a.x p.x then st else if AN s.b.x p.x<0 then st else if 0<=AN (BE s p.x) p.y then st else Ul p st s:=by
 cases st<;>rfl
theorem Y5(st:Option (Sg×Rat)):∃c0 c1 c2 c3:Bs,Y2 st=#[S c0,S c1,S c2,S c3]:=by
 cases st with
 | none=>exact⟨_,_,_,_,rfl⟩
 | some x=>exact⟨_,_,_,_,rfl⟩
theorem jE(L:List (Sg×Int)):∀i (h:i<(stamp L).length),(stamp L)[i].2.2=i:=by
 intro i h;simp [stamp]
theorem Xa(L:List (Sg×Int)){i:Nat}(h:i<(stamp L).length):(stamp L)[i].1=(L[i]'(by rw [Dp]at h;exact h)).1:=by simp [stamp]
theorem jG(L:List (Sg×Int)){i:Nat}(h:i<(stamp L).length):(stamp L)[i].2.1=.int .i64 (L[i]'(by rw [Dp]at h;exact h)).2:=by simp [stamp]
theorem kf{β:Type}(L:List β):(List.range L.length).filterMap (fun i=>L[i]?)=L:=by
 have h:∀n,n<=L.length→(List.range n).filterMap (fun i=>L[i]?)=L.take n:=by
  intro n
  induction n with
  | zero=>intro _;simp
  | succ n ih=>intro hn;rw [List.range_succ,List.filterMap_append,ih (by omega),Ana (by omega)];simp [Anc (show n<L.length by omega)]
 rw [h _ (AmX _),List.take_length]
theorem lw(L:List (Sg×Int)){seen:List Nat}(Cj:seen.Nodup)(hlt:∀i∈seen,i<(stamp L).length)(hlen:seen.length=(stamp L).length):(seen.filterMap (fun i=>L[i]?.map (·.1))).Perm (L.map (·.1)):=by
 rw [Dp]at hlt hlen
 have hmem:∀i,i<L.length→i∈seen:=by
  intro i hi;refine Classical.byContradiction fun hn=>?_;have h1:(i::seen).Nodup:=List.nodup_cons.2 ⟨hn,Cj⟩
  have h2:(i::seen) ⊆ List.range L.length:=by
   intro j hj
   rcases List.mem_cons.1 hj with rfl|hj
   ·simpa using hi
   ·simpa using hlt j hj
  have:=h1.length_le_of_subset h2;simp at this;omega
 have hp:seen.Perm (List.range L.length):=by
  rw [List.perm_iff_count];intro i;rw [Cj.count,(List.nodup_range).count];by_cases hi:i<L.length
  ·rw [if_pos (hmem i hi),if_pos (by simpa using hi)]
  ·rw [if_neg (fun h=>hi (hlt i h)),if_neg (by simpa using hi)]
 refine(hp.filterMap _).trans ?_
 have e:(List.range L.length).filterMap (fun i=>L[i]?.map (·.1))=L.map (·.1):=by
  have e1:(List.range L.length).filterMap (fun i=>L[i]?.map (·.1))=((List.range L.length).filterMap (fun i=>L[i]?)).map (·.1):=(by rw [List.map_filterMap]);rw [e1]
  congr 1
  exact kf L
 rw [e]
theorem Qs.put{w w':World}{b1 bb:Nat}{L:List (Sg×Int)}{p:Pt}{seen:List Nat}{st:Option (Sg×Rat)}(hB:Qs w w' b1 bb (bb+2) L p seen st)(hle:w.heap.size<=bb)(s:Sg)(y:Rat) :
  Qs w ((((w'.setCell ⟨bb+1,0,none⟩ (S (R s.a.x))).setCell ⟨bb+1,1,none⟩ (S (R s.a.y))).setCell ⟨bb+1,2,none⟩ (S (R s.b.x))).setCell ⟨bb+1,3,none⟩ (S (R s.b.y))) b1 bb (bb+2) L p seen (some (s,y)):=by
 obtain⟨c0,c1,c2,c3,hc⟩:=Y5 st;have hb:=hB.best;rw [hc]at hb
 have far:∀(X:World) (o:Nat) (v:Value) (q:Nat),q≠bb+1→(X.setCell ⟨bb+1,o,none⟩ v).heap[q]?=X.heap[q]?:=by intro X o v q hq;simp only [World.setCell,Array.getElem?_modify];rw [if_neg (by omega)]
 refine⟨(((hB.ext.setCell (p:=⟨bb+1,0,none⟩) (by simp;omega) _).setCell (p:=⟨bb+1,1,none⟩) (by simp;omega) _).setCell (p:=⟨bb+1,2,none⟩) (by simp;omega) _).setCell (p:=⟨bb+1,3,none⟩) (by simp;omega) _,?_,OG _ _ _ _ hb,hB.iter.keep ?_⟩
 ·rw [far _ _ _ _ (by omega),far _ _ _ _ (by omega),far _ _ _ _ (by omega),far _ _ _ _ (by omega)];exact hB.box
 ·rw [far _ _ _ _ (by omega),far _ _ _ _ (by omega),far _ _ _ _ (by omega),far _ _ _ _ (by omega)]
theorem Aat{B:Nat}{w:World}{rn b1 b2:Nat}{L:List (Sg×Int)}{E:List (Pt×Value×Nat)}{R0:List (Pt×List Pt)}(h:Bo B w rn b1 b2 L E R0)(p:Pt){k:Nat}(hL:∀e∈L,Ei k e.1)(hp:Ar k p)(hk:0<k)(hk2:k<=200)(hw:An w) :
  Calls Tryz.prog 235 #[.pointer (some ⟨rn,0,none⟩),Ak p] w fun e w'=>∃l:List Sg,l.Perm (L.map (·.1))/\e=.returned (.tuple #[Uq (Df p l),.bool (Df p l).isSome])/\Aa w w':=by
 have hE:=((Aa.refl w).alloc (.cells #[S (R p.x),S (R p.y)] 94)).alloc (.cells #[S [],S [],S [],S []] 155);have hb1:=(Below.heap_alloc (w.alloc (.cells #[S (R p.x),S (R p.y)] 94)) (.cells #[S [],S [],S [],S []] 155) w.heap.size (by simp)).trans (AmW w (.cells #[S (R p.x),S (R p.y)] 94));have hb2:=AmW (w.alloc (.cells #[S (R p.x),S (R p.y)] 94)) (.cells #[S [],S [],S [],S []] 155);rw [Anf]at hb2;have hN:=h.ext hE;unfold Ak;go_enter Tryz.func235,Tryz.ntmps235
 go_upto_region 2 with fail
 rw [show (⟨#[]⟩:ByteArray)=⟨([]:Bs).toArray⟩from rfl];have hsz:((w.alloc (.cells #[S (R p.x),S (R p.y)] 94)).alloc (.cells #[S [],S [],S [],S []] 155)).heap.size=w.heap.size+2:=(by simp);generalize (w.alloc (.cells #[S (R p.x),S (R p.y)] 94)).alloc (.cells #[S [],S [],S [],S []] 155)=V at *;obtain⟨bb,Bl⟩:=AmT w.heap.size;have hle:w.heap.size<=bb:=(by omega);have FU:bb<=w.heap.size:=(by omega);rw [←Bl]at hb1 hb2 hsz ⊢;clear Bl;have n1:=Ab (o:=0) hN.cell rfl;have hrg:=C5.range (enc:=As) (E:=stamp L) (t:=131) Tryz.underlying131 (W:=V) (b:=b1) (by rw [Dp];exact hN.left);obtain⟨hr1,hr2⟩:=hrg;rw [hsz]at hr1 hr2;have hEI:=hE.alloc (.mapIter (some b1) (stamp L).length #[] (stamp L).length);have RJ:=(Below.heap_alloc V (.mapIter (some b1) (stamp L).length #[] (stamp L).length) bb (by omega)).trans hb1;have ZU:=(Below.heap_alloc V (.mapIter (some b1) (stamp L).length #[] (stamp L).length) (bb+1) (by omega)).trans hb2;clear hb1 hb2
 go_upto_region 3 with fail
 generalize V.alloc (.mapIter (some b1) (stamp L).length #[] (stamp L).length)=V2 at *
 go_loopw [5,6] (fun f hi wr=>∃(seen:List Nat) (st:Option (Sg×Rat)),f=.bool st.isSome/\hi=bF st/\Qs w wr b1 bb (bb+2) L p seen st/\st=Df p (seen.filterMap (fun i=>L[i]?.map (·.1)))/\(∀x,st=some x→Ei k x.1/\x.2=BE x.1 p.x)) (fun _ _ wr=>L.length-(wr.iterSeen (bb+2)).size)
 case atStart=>exact⟨[],none,rfl,rfl,⟨hEI,RJ,ZU,hr2⟩,rfl,by simp⟩
 case round=>
  obtain⟨seen,st,rfl,rfl,hB,hst,IV⟩:=hrel;have hb0:=(hB.ext.block b1 (AmV h.left)).trans h.left;rw [←Dp]at hb0;have Gu:=AmV h.left;obtain⟨c0,c1,c2,c3,hc⟩:=Y5 st;have Hz:=hB.best;rw [hc]at Hz
  rcases C5.next As hB.iter hb0 (jE L) (by omega) 0 with⟨hlen,hrun⟩|⟨i,hi,Gx,W1,FI,hG1,hs1,hrun,hen⟩
  ·have y0:=AU (o:=0) Hz;have y1:=AU (o:=1) Hz;have y2:=AU (o:=2) Hz;have y3:=AU (o:=3) Hz;have z0:=Ab (o:=0) Hz rfl;have z1:=Ab (o:=1) Hz rfl;have z2:=Ab (o:=2) Hz rfl;have z3:=Ab (o:=3) Hz rfl;have hq:=OG (S c0) (S c1) (S c2) (S c3) Hz;have q0:=Ab (o:=0) hq rfl;have q1:=Ab (o:=1) hq rfl;have q2:=Ab (o:=2) hq rfl;have q3:=Ab (o:=3) hq rfl;have hP:=lw L hB.iter.nd hB.iter.lt hlen;have hX:=hB.ext;rw [hst]at hc;have hV:Uq (Df p (seen.filterMap (fun i=>L[i]?.map (·.1))))=.agg #[S c0,S c1,S c2,S c3]:=(by unfold Uq;rw [hc]);obtain⟨fb,hfb⟩:=AmT st.isSome;have aO:=hfb;rw [hst]at aO;rw [←hfb];clear hq Hz hB hc hfb IV hst;go_wp2;refine bodyPost_ret (v:=.tuple #[.agg #[S c0,S c1,S c2,S c3],.bool fb]) (by simp [results,Tryz.results235,go_sem,q0,q1,q2,q3,aO])  rfl ?_;exact⟨_,hP,by rw [hV,aO],(((hX.setCell (p:=⟨bb+1,0,none⟩) (by simp;omega) _).setCell (p:=⟨bb+1,1,none⟩) (by simp;omega) _).setCell (p:=⟨bb+1,2,none⟩) (by simp;omega) _).setCell (p:=⟨bb+1,3,none⟩) (by simp;omega) _⟩
  ·have KJ:i<L.length:=(by rw [Dp]at hi;exact hi);rw [Xa,jG]at hrun hen;have hsk:Ei k (L[i]).1:=hL _ (AmY KJ)
   have hstep:Df p ((seen ++ [i]).filterMap (fun i=>L[i]?.map (·.1)))=Hp p st (L[i]).1:=by rw [List.filterMap_append,hst];simp only [List.filterMap_cons,List.filterMap_nil,Anc KJ,Option.map_some];rw [mV]
   have hlen':seen.length<L.length:=by
    have h2:(i::seen) ⊆ List.range L.length:=by
     intro j hj
     rcases List.mem_cons.1 hj with rfl|hj
     ·simpa using KJ
     ·have:=hB.iter.lt j hj;rw [Dp]at this;simpa using this
    have:=(List.nodup_cons.2 ⟨Gx,hB.iter.nd⟩).length_le_of_subset h2;simp at this;omega
   have Dn:=Ey hB.iter;have X1:Aa w W1:=Nt hB.ext hG1 (by omega);have nE:=(hG1.block bb (AmV hB.box) (by simp)).trans hB.box;have mW:=(hG1.block (bb+1) (AmV hB.best) (by simp)).trans hB.best;have Gs:=hen W1 rfl rfl;obtain⟨s,hs⟩:=AmT ((L[i]).1);obtain⟨z,hz⟩:=AmT ((L[i]).2);rw [←hs,←hz]at Gs hrun;rw [←hs]at hsk hstep;have Er:=AmW W1 (.cells #[S (R s.a.x),S (R s.a.y),S (R s.b.x),S (R s.b.y)] 155);have E3:=(Aa.refl W1).alloc (.cells #[S (R s.a.x),S (R s.a.y),S (R s.b.x),S (R s.b.y)] 155)
   have KEEP:∀w',Aa (W1.alloc (.cells #[S (R s.a.x),S (R s.a.y),S (R s.b.x),S (R s.b.y)] 155)) w'→Qs w w' b1 bb (bb+2) L p (seen ++ [i]) st:=fun w' hx=>
    have hy:=E3.trans hx
    ⟨X1.trans hy,(hy.block _ (AmV nE)).trans nE,(hy.block _ (AmV mW)).trans mW,FI.keep (hy.block _ (AmV FI.it))⟩
   clear hen hs hz Hz hb0 hG1 hr1 hr2 hB hN;unfold As at Gs hrun
   go_upto_region 5 with fail
   unfold S at Er E3 KEEP;rw [hs1]at Er;generalize (W1.alloc (.cells #[.string ⟨(R s.a.x).toArray⟩,.string ⟨(R s.a.y).toArray⟩,.string ⟨(R s.b.x).toArray⟩,.string ⟨(R s.b.y).toArray⟩] 155))=V3 at *;obtain⟨bs,FM⟩:=AmT wr.heap.size;rw [←FM]at Er ⊢;clear hrun Gs FM hs1 hst;have okV:=hw.ext (X1.trans E3);have B0:=(KEEP V3 (Aa.refl _)).box
   have F:∀w',Aa V3 w'→(w'.cell? ⟨bb,0,none⟩=some (S (R p.x))/\w'.cell? ⟨bb,1,none⟩=some (S (R p.y))/\w'.cell? ⟨bs,0,none⟩=some (S (R s.a.x))/\w'.cell? ⟨bs,1,none⟩=some (S (R s.a.y))/\w'.cell? ⟨bs,2,none⟩=some (S (R s.b.x))/\w'.cell? ⟨bs,3,none⟩=some (S (R s.b.y))):=fun w' h=>⟨h.cellS (Ab B0 rfl),h.cellS (Ab B0 rfl),h.cellS (Ab Er rfl),h.cellS (Ab Er rfl),h.cellS (Ab Er rfl),h.cellS (Ab Er rfl)⟩
   clear B0 Er;have cA:=Jd s.a.x p.x (a:=k) (b:=k) ⟨hsk.a.x,hp.x,hk,hk,by omega⟩;have cB:=Jd s.b.x p.x (a:=k) (b:=k) ⟨hsk.b.x,hp.x,hk,hk,by omega⟩
   have Ce:Hp p st s=if 0<=AN s.a.x p.x then st else if AN s.b.x p.x<0 then st else if 0<=AN (BE s p.x) p.y then st else Ul p st s:=Aas p st s
   obtain⟨xa,Az⟩:=AmT (AN s.a.x p.x);obtain⟨xb,hxb⟩:=AmT (AN s.b.x p.x);rw [←Az]at cA Ce;rw [←hxb]at cB Ce;obtain⟨f1,f2,f3,f4,f5,f6⟩:=F V3 (Aa.refl _);(go_wp2_with fail);(with_reducible refine(cA _ okV).mono ?_);rintro e w1 ⟨rfl,hx1⟩;clear f1 f2 f3 f4 f5 f6 cA;obtain⟨f1,f2,f3,f4,f5,f6⟩:=F w1 hx1;by_cases a1:0<=xa
   ·have d1:decide (0<=xa)=true:=decide_eq_true a1;have hb1:Hp p st s=st:=(by rw [Ce,if_pos a1]);clear Ce cB F;go_wp2;go_roundw
    case rel=>exact⟨seen ++ [i],st,rfl,rfl,KEEP _ hx1,by rw [hstep];exact(hb1).symm,IV⟩
    case measure=>rw [Dn,Ey (KEEP _ hx1).iter,List.length_append,List.length_singleton];omega
   have d1:decide (0<=xa)=false:=decide_eq_false a1;rw [if_neg a1]at Ce;(go_wp2_with fail);(with_reducible refine(cB _ (okV.ext hx1)).mono ?_);rintro e w2 ⟨rfl,hx2⟩;replace hx2:=hx1.trans hx2;clear f1 f2 f3 f4 f5 f6 cB hx1;obtain⟨f1,f2,f3,f4,f5,f6⟩:=F w2 hx2;by_cases a2:xb<0
   ·have d2:decide (xb<0)=true:=decide_eq_true a2;have hb1:Hp p st s=st:=(by rw [Ce,if_pos a2]);clear Ce F;go_wp2;go_roundw
    case rel=>exact⟨seen ++ [i],st,rfl,rfl,KEEP _ hx2,by rw [hstep];exact(hb1).symm,IV⟩
    case measure=>rw [Dn,Ey (KEEP _ hx2).iter,List.length_append,List.length_singleton];omega
   have d2:decide (xb<0)=false:=decide_eq_false a2;rw [if_neg a2]at Ce
   have h0:s.b.x≠s.a.x:=by have q1:=Uu s.a.x p.x;have q2:=Uu s.b.x p.x;rw [←Az]at q1;rw [←hxb]at q2;have q3:s.a.x<p.x:=q1.1 (by omega);have q4:¬s.b.x<p.x:=fun h=>a2 (q2.2 h);intro e;rw [e]at q4;exact q4 q3
   have ch:=AdR s p.x hsk hp.x hk (by omega) h0;unfold As at ch;have dT:=ox hsk hp.x;obtain⟨y,hy⟩:=AmT (BE s p.x);rw [←hy]at ch dT Ce;have cC:=Jd y p.y (a:=7*k+5) (b:=k) ⟨dT,hp.y,by omega,hk,by omega⟩;obtain⟨xc,M9⟩:=AmT (AN y p.y);rw [←M9]at cC Ce;have HY:=AmU hy;clear Az hxb M9 h0 hy;(go_wp2_with fail);(with_reducible refine(ch _ (okV.ext hx2)).mono ?_);rintro e w3 ⟨rfl,hx3⟩;replace hx3:=hx2.trans hx3;clear f1 f2 f3 f4 f5 f6 ch hx2;obtain⟨f1,f2,f3,f4,f5,f6⟩:=F w3 hx3;(go_wp2_with fail);(with_reducible refine(cC _ (okV.ext hx3)).mono ?_);rintro e w4 ⟨rfl,Ai⟩;replace Ai:=hx3.trans Ai;clear f1 f2 f3 f4 f5 f6 cC hx3;obtain⟨f1,f2,f3,f4,f5,f6⟩:=F w4 Ai;by_cases a3:0<=xc
   ·have d3:decide (0<=xc)=true:=decide_eq_true a3;have hb1:Hp p st s=st:=(by rw [Ce,if_pos a3]);clear Ce F;go_wp2;go_roundw
    case rel=>exact⟨seen ++ [i],st,rfl,rfl,KEEP _ Ai,by rw [hstep];exact hb1.symm,IV⟩
    case measure=>rw [Dn,Ey (KEEP _ Ai).iter,List.length_append,List.length_singleton];omega
   have d3:decide (0<=xc)=false:=decide_eq_false a3;rw [if_neg a3]at Ce;have K4:=KEEP w4 Ai
   cases st with
   | none=>
    have KU:Ul p none s=some (s,y):=(by rw [HY.out];rfl);rw [KU]at Ce;have y0:=AU (o:=0) K4.best;have y1:=AU (o:=1) K4.best;have y2:=AU (o:=2) K4.best;have y3:=AU (o:=3) K4.best;have z0:=Ab (o:=0) K4.best rfl;have z1:=Ab (o:=1) K4.best rfl;have z2:=Ab (o:=2) K4.best rfl;have z3:=Ab (o:=3) K4.best rfl;have K5:=K4.put hle s y;unfold bF;clear K4 F KEEP KU;go_wp2;go_roundw
    case rel=>exact⟨seen ++ [i],some (s,y),rfl,rfl,K5,by rw [hstep];exact Ce.symm,by rintro x hx;simp only [Anb]at hx;rw [←hx];exact⟨hsk,HY.out⟩⟩
    case measure=>rw [Dn,Ey K5.iter,List.length_append,List.length_singleton];omega
   | some bh=>
    obtain⟨b,hh⟩:=bh;obtain⟨aC,bE⟩:=IV _ rfl;simp only at aC bE;have wG:Sz (7*k+5) hh:=(by rw [bE];exact ox aC hp.x);have cD:=Jd y hh (a:=7*k+5) (b:=7*k+5) ⟨dT,wG,by omega,by omega,by omega⟩
    have KU:Ul p (some (b,hh)) s=if AN y hh=0 then (if 0<AD (Al s.b s.a b.a)then some (s,y)else some (b,hh))else if 0<AN y hh then some (s,y)else some (b,hh):=by rw [HY.out];rfl
    rw [KU]at Ce;obtain⟨xd,KY⟩:=AmT (AN y hh);rw [←KY]at cD Ce;clear KY KU bE wG hc;clear K4;unfold bF;(go_wp2_with fail);(with_reducible refine(cD _ (okV.ext Ai)).mono ?_);rintro e w5 ⟨rfl,Ad⟩;replace Ad:=Ai.trans Ad;clear f1 f2 f3 f4 f5 f6 cD Ai;obtain⟨f1,f2,f3,f4,f5,f6⟩:=F w5 Ad;have K5:=KEEP w5 Ad;by_cases a4:xd=0
    ·subst a4;rw [if_pos rfl]at Ce;have cE:=Ln s.b s.a b.a hsk.b hsk.a aC.a hk (by omega);unfold Ak at cE;obtain⟨xe,P9⟩:=AmT (AD (Al s.b s.a b.a));rw [←P9]at cE Ce;clear P9;have z0:w5.cell? ⟨bb+1,0,none⟩=some (S (R b.a.x)):=Ab (o:=0) K5.best rfl;have z1:w5.cell? ⟨bb+1,1,none⟩=some (S (R b.a.y)):=Ab (o:=1) K5.best rfl;clear K5;(go_wp2_with fail);(with_reducible refine(cE _ (okV.ext Ad)).mono ?_);rintro e w6 ⟨rfl,AC⟩;replace AC:=Ad.trans AC;clear f1 f2 f3 f4 f5 f6 cE Ad z0 z1;obtain⟨f1,f2,f3,f4,f5,f6⟩:=F w6 AC;have K6:=KEEP w6 AC;by_cases a5:0<xe
     ·have d5:decide (0<xe)=true:=decide_eq_true a5;rw [if_pos a5]at Ce;have y0:=AU (o:=0) K6.best;have y1:=AU (o:=1) K6.best;have y2:=AU (o:=2) K6.best;have y3:=AU (o:=3) K6.best;have z0:=Ab (o:=0) K6.best rfl;have z1:=Ab (o:=1) K6.best rfl;have z2:=Ab (o:=2) K6.best rfl;have z3:=Ab (o:=3) K6.best rfl;have K9:=K6.put hle s y;clear K6 F KEEP;go_wp2;go_roundw
      case rel=>exact⟨seen ++ [i],some (s,y),rfl,rfl,K9,by rw [hstep];exact Ce.symm,by rintro x hx;simp only [Anb]at hx;rw [←hx];exact⟨hsk,HY.out⟩⟩
      case measure=>rw [Dn,Ey K9.iter,List.length_append,List.length_singleton];omega
     ·have d5:decide (0<xe)=false:=decide_eq_false a5;rw [if_neg a5]at Ce;go_wp2;go_roundw
      case rel=>exact⟨seen ++ [i],some (b,hh),rfl,rfl,K6,by rw [hstep];exact Ce.symm,IV⟩
      case measure=>rw [Dn,Ey K6.iter,List.length_append,List.length_singleton];omega
    ·have d4:decide (xd=0)=false:=decide_eq_false a4;have d4':(xd == 0)=false:=(by simpa using a4);rw [if_neg a4]at Ce;by_cases a5:0<xd
     ·have d5:decide (0<xd)=true:=decide_eq_true a5;rw [if_pos a5]at Ce;have y0:=AU (o:=0) K5.best;have y1:=AU (o:=1) K5.best;have y2:=AU (o:=2) K5.best;have y3:=AU (o:=3) K5.best;have z0:=Ab (o:=0) K5.best rfl;have z1:=Ab (o:=1) K5.best rfl;have z2:=Ab (o:=2) K5.best rfl;have z3:=Ab (o:=3) K5.best rfl;have K9:=K5.put hle s y;clear K5 F KEEP;go_wp2;go_roundw
      case rel=>exact⟨seen ++ [i],some (s,y),rfl,rfl,K9,by rw [hstep];exact Ce.symm,by rintro x hx;simp only [Anb]at hx;rw [←hx];exact⟨hsk,HY.out⟩⟩
      case measure=>rw [Dn,Ey K9.iter,List.length_append,List.length_singleton];omega
     ·have d5:decide (0<xd)=false:=decide_eq_false a5;rw [if_neg a5]at Ce;go_wp2;go_roundw
      case rel=>exact⟨seen ++ [i],some (b,hh),rfl,rfl,K5,by rw [hstep];exact Ce.symm,IV⟩
      case measure=>rw [Dn,Ey K5.iter,List.length_append,List.length_singleton];omega
end Go.Proofs.YtbejphgbbpplbaaGreatDoor
