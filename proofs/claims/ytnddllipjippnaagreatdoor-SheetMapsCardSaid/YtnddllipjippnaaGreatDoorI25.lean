/- I25: ShBB. -/
import Derived.Test.YtnddllipjippnaaGreatDoorI22
import Derived.Sort.MapsRangeIn
set_option maxRecDepth 100000
set_option maxHeartbeats 4000000
namespace Go.Proofs.YtnddllipjippnaaGreatDoor
open Go.RowKit Kl
theorem Aou{α β:Type}(E:List (α×β)){seen:List Nat}(CN:seen.Nodup)(hlt:∀i∈seen,i<E.length)(hlen:seen.length=E.length):(seen.filterMap (fun i=>E[i]?.map (·.1))).Perm (E.map (·.1)):=by
 have hmem:∀i,i<E.length→i∈seen:=by
  intro i hi;refine Classical.byContradiction fun hn=>?_;have h1:(i::seen).Nodup:=List.nodup_cons.2 ⟨hn,CN⟩
  have h2:(i::seen) ⊆ List.range E.length:=by
   intro j hj
   rcases List.mem_cons.1 hj with rfl|hj
   ·simpa using hi
   ·simpa using hlt j hj
  have:=h1.length_le_of_subset h2;simp at this;omega
 have hp:seen.Perm (List.range E.length):=by
  rw [List.perm_iff_count];intro i;rw [CN.count,(List.nodup_range).count];by_cases hi:i<E.length
  ·rw [if_pos (hmem i hi),if_pos (by simpa using hi)]
  ·rw [if_neg (fun h=>hi (hlt i h)),if_neg (by simpa using hi)]
 refine(hp.filterMap _).trans ?_;have e1:(List.range E.length).filterMap (fun i=>E[i]?.map (·.1))=((List.range E.length).filterMap (fun i=>E[i]?)).map (·.1):=(by rw [List.map_filterMap]);rw [e1,Abw E]
theorem yj(mb:Option Nat)(w:World) :
  Calls Tryz.prog 125 #[.map mb] w fun e w'=>e=.returned (.func (.func 176) #[] #[.pointer (some ⟨w.heap.size,0,none⟩)])/\w'=w.alloc (.cells #[.map mb] 96):=by
 go_enter Tryz.func125,Tryz.ntmps125;go_wp2;go_ret;exact⟨rfl,rfl⟩
theorem Ale(F:Fence)(n:Nat)(h10:F.fn 176)(hro:F.round=none)(hn:1<=n)(l Bm b:Nat)(E:List (Pt×Value×Nat))(hst:∀i (h:i<E.length),E[i].2.2=i)(J:List Pt→World→Prop)
  (hY:∀pre x W,J pre W→pre.length<E.length→YieldAt F (n-1) Tryz.prog l #[Af x] W fun e W'=>e=.returned (.bool true)/\J (pre ++ [x]) W'/\KeepsWalks W W')
  (W:World) (hJ:AbidesFrom W.heap.size J) (hm:W.cell? ⟨Bm,0,none⟩=some (.map (some b))) (hb:W.heap[b]?=some (.map (AK Af E).toArray E.length)) (h0:J [] W) :
  CallsIn F n Tryz.prog 176 #[.func (.yield l) #[] #[],.pointer (some ⟨Bm,0,none⟩)] W fun e W'=>(∃v,e=.returned v)/\∃ss:List Pt,ss.Perm (E.map (·.1))/\J ss W':=by
 have hlt:=Asy hb;obtain⟨hr1,hr2⟩:=Dk.range (enc:=Af) (E:=E) (t:=96) Tryz.underlying96 (W:=W) (b:=b) hb;have hG:=(Ab.refl W).alloc (.mapIter (some b) E.length #[] E.length);have hJ1:=hJ [] W _ none h0 (Hm hG none) (fun r e=>by cases e);have hb1:=(hG.block b hlt).trans hb;refine callsIn_of_wp Tryz.func176 rfl h10 ?_ hro;simp only [Tryz.ntmps176,List.size_toArray,List.length_cons,List.length_nil,Nat.reduceAdd,Nat.reduceSub,Array.replicate_succ,Array.replicate_zero,List.push_toArray,List.append_toArray,List.nil_append,List.cons_append];gi_wp2;generalize W.alloc (.mapIter (some b) E.length #[] E.length)=V at *;obtain⟨r,hr⟩:=Asw W.heap.size;rw [←hr]at hr2 hlt hJ ⊢;clear hr hr1 hG hb hm h0
 gi_loopw [3] (fun _ wr=>∃seen:List Nat,Dk wr r b E seen/\wr.heap[b]?=some (.map (AK Af E).toArray E.length)/\J (seen.filterMap (fun i=>E[i]?.map (·.1))) wr)
  (fun _ wr=>E.length-(wr.iterSeen r).size)
 case atStart=>exact⟨[],hr2,hb1,hJ1⟩
 case round=>
  obtain⟨seen,hI,hbr,hJs⟩:=hrel
  rcases Dk.next Af hI hbr hst (by omega) 0 with⟨hlen,hrun⟩|⟨i,hi,H8,W1,Fw,hG1,hs1,hrun,hen⟩
  ·have hP:=Aou E hI.nd hI.lt hlen;gi_wp2
   go_end0
   exact⟨⟨_,rfl⟩,_,hP,hJs⟩
  ·have Mn:=hi
   have hstep:(seen ++ [i]).filterMap (fun i=>E[i]?.map (·.1))=seen.filterMap (fun i=>E[i]?.map (·.1)) ++ [(E[i]).1]:=by rw [List.filterMap_append];simp only [List.filterMap_cons,List.filterMap_nil,As5 Mn,Option.map_some]
   have hlen':seen.length<E.length:=by
    have h2:(i::seen) ⊆ List.range E.length:=by
     intro j hj
     rcases List.mem_cons.1 hj with rfl|hj
     ·simpa using Mn
     ·simpa using hI.lt j hj
    have:=(List.nodup_cons.2 ⟨H8,hI.nd⟩).length_le_of_subset h2;simp at this;omega
   have FU:=FD hI;have hJ2:=hJ _ wr W1 (some r) hJs hG1 (fun r' e=>by cases e;exact⟨As0 _,_,hI.it,rfl⟩);have hb2:=(hG1.block b (Asy hbr) (by simp;omega)).trans hbr;have Hx:=hen W1 rfl rfl;obtain⟨s,hs⟩:=Asw ((E[i]).1);obtain⟨z,hz⟩:=Asw ((E[i]).2.1);rw [←hs,←hz]at Hx hrun;rw [←hs]at hstep;have E3:=(Ab.refl W1).alloc (.cells #[S (R s.x),S (R s.y)] 24);have Fy:=Asz W1 (.cells #[S (R s.x),S (R s.y)] 24);have Ub:=hJ _ W1 _ none hJ2 (Hm E3 none) (fun r' e=>by cases e);have hpl:(seen.filterMap (fun i=>E[i]?.map (·.1))).length<E.length:=Nat.lt_of_le_of_lt (List.length_filterMap_le _ _) hlen';obtain⟨fn,tmps,assign,body,hy,hR⟩:=hY _ s _ Ub hpl;have DW:=Fw.keep (E3.block r (Asy Fw.it));have hb4:=(E3.block b (Asy hb2)).trans hb2;have g0:=Aa (o:=0) Fy rfl;have g1:=Aa (o:=1) Fy rfl;clear hs1 hen hs hz Fy E3 Ub hJ2;unfold Af at Hx hrun hy;unfold S at hy Hx hrun g0 g1 DW hb4 hR;gi_wp2;refine hR.mono ?_;rintro e W3 ⟨rfl,hJ3,hk3⟩;gi_wp2;go_roundw
   case rel=>exact⟨seen ++ [i],⟨hk3.same r _ DW.it rfl,DW.nd,DW.lt⟩,hk3.same b _ hb4 rfl,by rw [hstep];exact hJ3⟩
   case measure=>rw [FU,FD (W:=W3) (b:=b) (E:=E) (seen:=seen ++ [i]) ⟨hk3.same r _ DW.it rfl,DW.nd,DW.lt⟩,List.length_append,List.length_singleton];omega
theorem Alf(F:Fence)(n:Nat)(h10:F.fn 176)(hro:F.round=none)(hn:1<=n)(Bm b:Nat)(E:List (Pt×Value×Nat))(hst:∀i (h:i<E.length),E[i].2.2=i)(w:World)(hBm:Bm<w.heap.size)
  (hm:w.cell? ⟨Bm,0,none⟩=some (.map (some b))) (hb:w.heap[b]?=some (.map (AK Af E).toArray E.length)) :
  SeqGives F n Tryz.prog 176 #[.pointer (some ⟨Bm,0,none⟩)] Af (fun ss=>ss.Perm (E.map (·.1))) E.length w:=fun l J W hW hJ hY h0=>
 Ale F n h10 hro hn l Bm b E hst J hY W hJ ((hW.cell (p:=⟨Bm,0,none⟩) hBm).trans hm) ((hW.block b (Asy hb)).trans hb) h0
end Go.Proofs.YtnddllipjippnaaGreatDoor
