/- K25: ShBB. -/
import Derived.Test.YtgnejnampofhoaaGreatDoorK22
import Derived.Sort.MapsRangeIn
set_option maxRecDepth 100000
set_option maxHeartbeats 4000000
namespace Go.Proofs.YtgnejnampofhoaaGreatDoor
open Go.RowKit Kl
theorem Agd{α β:Type}(E:List (α×β)){seen:List Nat}(Ci:seen.Nodup)(hlt:∀i∈seen,i<E.length)(hlen:seen.length=E.length):(seen.filterMap (fun i=>E[i]?.map (·.1))).Perm (E.map (·.1)):=by
 have hmem:∀i,i<E.length→i∈seen:=by
  intro i hi;refine Classical.byContradiction fun hn=>?_;have h1:(i::seen).Nodup:=List.nodup_cons.2 ⟨hn,Ci⟩
  have h2:(i::seen) ⊆ List.range E.length:=by
   intro j hj
   rcases List.mem_cons.1 hj with rfl|hj
   ·simpa using hi
   ·simpa using hlt j hj
  have:=h1.length_le_of_subset h2;simp at this;omega
 have hp:seen.Perm (List.range E.length):=by
  rw [List.perm_iff_count];intro i;rw [Ci.count,(List.nodup_range).count];by_cases hi:i<E.length
  ·rw [if_pos (hmem i hi),if_pos (by simpa using hi)]
  ·rw [if_neg (fun h=>hi (hlt i h)),if_neg (by simpa using hi)]
 refine(hp.filterMap _).trans ?_;have e1:(List.range E.length).filterMap (fun i=>E[i]?.map (·.1))=((List.range E.length).filterMap (fun i=>E[i]?)).map (·.1):=(by rw [List.map_filterMap]);rw [e1,yE E]
theorem uS(mb:Option Nat)(w:World) :
  Calls Tryz.prog 197 #[.map mb] w fun e w'=>e=.returned (.func (.func 271) #[] #[.pointer (some ⟨w.heap.size,0,none⟩)])/\w'=w.alloc (.cells #[.map mb] 163):=by
 go_enter Tryz.func197,Tryz.ntmps197;go_wp2;go_ret;exact⟨rfl,rfl⟩
theorem AcY(F:Fence)(n:Nat)(h10:F.fn 271)(hro:F.round=none)(hn:1<=n)(l Bm b:Nat)(E:List (Pt×Value×Nat))(hst:∀i (h:i<E.length),E[i].2.2=i)(J:List Pt→World→Prop)
  (hY:∀pre x W,J pre W→pre.length<E.length→YieldAt F (n-1) Tryz.prog l #[Ak x] W fun e W'=>e=.returned (.bool true)/\J (pre ++ [x]) W'/\KeepsWalks W W')
  (W:World) (hJ:AbidesFrom W.heap.size J) (hm:W.cell? ⟨Bm,0,none⟩=some (.map (some b))) (hb:W.heap[b]?=some (.map (AH Ak E).toArray E.length)) (h0:J [] W) :
  CallsIn F n Tryz.prog 271 #[.func (.yield l) #[] #[],.pointer (some ⟨Bm,0,none⟩)] W fun e W'=>(∃v,e=.returned v)/\∃ss:List Pt,ss.Perm (E.map (·.1))/\J ss W':=by
 have hlt:=Ajx hb;obtain⟨hr1,hr2⟩:=CG.range (enc:=Ak) (E:=E) (t:=163) Tryz.underlying163 (W:=W) (b:=b) hb;have hG:=(Ac.refl W).alloc (.mapIter (some b) E.length #[] E.length);have hJ1:=hJ [] W _ none h0 (Ge hG none) (fun r e=>by cases e);have hb1:=(hG.block b hlt).trans hb;refine callsIn_of_wp Tryz.func271 rfl h10 ?_ hro;simp only [Tryz.ntmps271,List.size_toArray,List.length_cons,List.length_nil,Nat.reduceAdd,Nat.reduceSub,Array.replicate_succ,Array.replicate_zero,List.push_toArray,List.append_toArray,List.nil_append,List.cons_append];gi_wp2;generalize W.alloc (.mapIter (some b) E.length #[] E.length)=V at *;obtain⟨r,hr⟩:=Ajv W.heap.size;rw [←hr]at hr2 hlt hJ ⊢;clear hr hr1 hG hb hm h0
 gi_loopw [3] (fun _ wr=>∃seen:List Nat,CG wr r b E seen/\wr.heap[b]?=some (.map (AH Ak E).toArray E.length)/\J (seen.filterMap (fun i=>E[i]?.map (·.1))) wr)
  (fun _ wr=>E.length-(wr.iterSeen r).size)
 case atStart=>exact⟨[],hr2,hb1,hJ1⟩
 case round=>
  obtain⟨seen,hI,hbr,hJs⟩:=hrel
  rcases CG.next Ak hI hbr hst (by omega) 0 with⟨hlen,hrun⟩|⟨i,hi,Gu,W1,Eo,hG1,hs1,hrun,hen⟩
  ·have hP:=Agd E hI.nd hI.lt hlen;gi_wp2
   go_end0
   exact⟨⟨_,rfl⟩,_,hP,hJs⟩
  ·have Ks:=hi
   have hstep:(seen ++ [i]).filterMap (fun i=>E[i]?.map (·.1))=seen.filterMap (fun i=>E[i]?.map (·.1)) ++ [(E[i]).1]:=by rw [List.filterMap_append];simp only [List.filterMap_cons,List.filterMap_nil,Aj4 Ks,Option.map_some]
   have hlen':seen.length<E.length:=by
    have h2:(i::seen) ⊆ List.range E.length:=by
     intro j hj
     rcases List.mem_cons.1 hj with rfl|hj
     ·simpa using Ks
     ·simpa using hI.lt j hj
    have:=(List.nodup_cons.2 ⟨Gu,hI.nd⟩).length_le_of_subset h2;simp at this;omega
   have EG:=Eu hI;have hJ2:=hJ _ wr W1 (some r) hJs hG1 (fun r' e=>by cases e;exact⟨Ajz _,_,hI.it,rfl⟩);have hb2:=(hG1.block b (Ajx hbr) (by simp;omega)).trans hbr;have Gq:=hen W1 rfl rfl;obtain⟨s,hs⟩:=Ajv ((E[i]).1);obtain⟨z,hz⟩:=Ajv ((E[i]).2.1);rw [←hs,←hz]at Gq hrun;rw [←hs]at hstep;have E3:=(Ac.refl W1).alloc (.cells #[S (R s.x),S (R s.y)] 27);have Er:=Ajy W1 (.cells #[S (R s.x),S (R s.y)] 27);have QB:=hJ _ W1 _ none hJ2 (Ge E3 none) (fun r' e=>by cases e);have hpl:(seen.filterMap (fun i=>E[i]?.map (·.1))).length<E.length:=Nat.lt_of_le_of_lt (List.length_filterMap_le _ _) hlen';obtain⟨fn,tmps,assign,body,hy,hR⟩:=hY _ s _ QB hpl;have Dx:=Eo.keep (E3.block r (Ajx Eo.it));have hb4:=(E3.block b (Ajx hb2)).trans hb2;have g0:=Aa (o:=0) Er rfl;have g1:=Aa (o:=1) Er rfl;clear hs1 hen hs hz Er E3 QB hJ2;unfold Ak at Gq hrun hy;unfold S at hy Gq hrun g0 g1 Dx hb4 hR;gi_wp2;refine hR.mono ?_;rintro e W3 ⟨rfl,hJ3,hk3⟩;gi_wp2;go_roundw
   case rel=>exact⟨seen ++ [i],⟨hk3.same r _ Dx.it rfl,Dx.nd,Dx.lt⟩,hk3.same b _ hb4 rfl,by rw [hstep];exact hJ3⟩
   case measure=>rw [EG,Eu (W:=W3) (b:=b) (E:=E) (seen:=seen ++ [i]) ⟨hk3.same r _ Dx.it rfl,Dx.nd,Dx.lt⟩,List.length_append,List.length_singleton];omega
theorem AcZ(F:Fence)(n:Nat)(h10:F.fn 271)(hro:F.round=none)(hn:1<=n)(Bm b:Nat)(E:List (Pt×Value×Nat))(hst:∀i (h:i<E.length),E[i].2.2=i)(w:World)(hBm:Bm<w.heap.size)
  (hm:w.cell? ⟨Bm,0,none⟩=some (.map (some b))) (hb:w.heap[b]?=some (.map (AH Ak E).toArray E.length)) :
  SeqGives F n Tryz.prog 271 #[.pointer (some ⟨Bm,0,none⟩)] Ak (fun ss=>ss.Perm (E.map (·.1))) E.length w:=fun l J W hW hJ hY h0=>
 AcY F n h10 hro hn l Bm b E hst J hY W hJ ((hW.cell (p:=⟨Bm,0,none⟩) hBm).trans hm) ((hW.block b (Ajx hb)).trans hb) h0
end Go.Proofs.YtgnejnampofhoaaGreatDoor
