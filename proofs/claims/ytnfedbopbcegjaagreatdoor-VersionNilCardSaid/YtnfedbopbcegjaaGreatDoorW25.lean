/- W25. -/
import Derived.Test.YtnfedbopbcegjaaGreatDoorW22
import Derived.Sort.MapsRangeIn
set_option maxRecDepth 100000
set_option maxHeartbeats 4000000
namespace Go.Proofs.YtnfedbopbcegjaaGreatDoor
open Go.RowKit Kl
theorem Ag4{α β:Type}(E:List (α×β)){seen:List Nat}(Ca:seen.Nodup)(hlt:∀i∈seen,i<E.length)(hlen:seen.length=E.length):(seen.filterMap (fun i=>E[i]?.map (·.1))).Perm (E.map (·.1)):=by
 have hmem:∀i,i<E.length→i∈seen:=by
  intro i hi;refine Classical.byContradiction fun hn=>?_;have h1:(i::seen).Nodup:=List.nodup_cons.2 ⟨hn,Ca⟩
  have h2:(i::seen) ⊆ List.range E.length:=by
   intro j hj
   rcases List.mem_cons.1 hj with rfl|hj
   ·simpa using hi
   ·simpa using hlt j hj
  have:=h1.length_le_of_subset h2;simp at this;omega
 have hp:seen.Perm (List.range E.length):=by
  rw [List.perm_iff_count];intro i;rw [Ca.count,(List.nodup_range).count];by_cases hi:i<E.length
  ·rw [if_pos (hmem i hi),if_pos (by simpa using hi)]
  ·rw [if_neg (fun h=>hi (hlt i h)),if_neg (by simpa using hi)]
 refine(hp.filterMap _).trans ?_;have e1:(List.range E.length).filterMap (fun i=>E[i]?.map (·.1))=((List.range E.length).filterMap (fun i=>E[i]?)).map (·.1):=(by rw [List.map_filterMap]);rw [e1,aF E]
theorem tY(mb:Option Nat)(w:World) :
  Calls Tryz.prog 124 #[.map mb] w fun e w'=>e=.returned (.func (.func 195) #[] #[.pointer (some ⟨w.heap.size,0,none⟩)])/\w'=w.alloc (.cells #[.map mb] 161):=by
 go_enter Tryz.func124,Tryz.ntmps124;go_wp2;go_ret;exact⟨rfl,rfl⟩
theorem Ad9(F:Fence)(n:Nat)(h10:F.fn 195)(hro:F.round=none)(hn:1<=n)(l Bm b:Nat)(E:List (Pt×Value×Nat))(hst:∀i (h:i<E.length),E[i].2.2=i)(J:List Pt→World→Prop)
  (hY:∀pre x W,J pre W→pre.length<E.length→YieldAt F (n-1) Tryz.prog l #[Ag x] W fun e W'=>e=.returned (.bool true)/\J (pre ++ [x]) W'/\KeepsWalks W W')
  (W:World) (hJ:AbidesFrom W.heap.size J) (hm:W.cell? ⟨Bm,0,none⟩=some (.map (some b))) (hb:W.heap[b]?=some (.map (Az Ag E).toArray E.length)) (h0:J [] W) :
  CallsIn F n Tryz.prog 195 #[.func (.yield l) #[] #[],.pointer (some ⟨Bm,0,none⟩)] W fun e W'=>(∃v,e=.returned v)/\∃ss:List Pt,ss.Perm (E.map (·.1))/\J ss W':=by
 have hlt:=AjL hb;obtain⟨hr1,hr2⟩:=CE.range (enc:=Ag) (E:=E) (t:=161) Tryz.underlying161 (W:=W) (b:=b) hb;have hG:=(Aa.refl W).alloc (.mapIter (some b) E.length #[] E.length);have hJ1:=hJ [] W _ none h0 (DJ hG none) (fun r e=>by cases e);have hb1:=(hG.block b hlt).trans hb;refine callsIn_of_wp Tryz.func195 rfl h10 ?_ hro;simp only [Tryz.ntmps195,List.size_toArray,List.length_cons,List.length_nil,Nat.reduceAdd,Nat.reduceSub,Array.replicate_succ,Array.replicate_zero,List.push_toArray,List.append_toArray,List.nil_append,List.cons_append];gi_wp2;generalize W.alloc (.mapIter (some b) E.length #[] E.length)=V at *;obtain⟨r,hr⟩:=AjJ W.heap.size;rw [←hr]at hr2 hlt hJ ⊢;clear hr hr1 hG hb hm h0
 gi_loopw [3] (fun _ wr=>∃seen:List Nat,CE wr r b E seen/\wr.heap[b]?=some (.map (Az Ag E).toArray E.length)/\J (seen.filterMap (fun i=>E[i]?.map (·.1))) wr)
  (fun _ wr=>E.length-(wr.iterSeen r).size)
 case atStart=>exact⟨[],hr2,hb1,hJ1⟩
 case round=>
  obtain⟨seen,hI,hbr,hJs⟩:=hrel
  rcases CE.next Ag hI hbr hst (by omega) 0 with⟨hlen,hrun⟩|⟨i,hi,FM,W1,DL,hG1,hs1,hrun,hen⟩
  ·have hP:=Ag4 E hI.nd hI.lt hlen;gi_wp2
   go_end0
   exact⟨⟨_,rfl⟩,_,hP,hJs⟩
  ·have Gn:=hi
   have hstep:(seen ++ [i]).filterMap (fun i=>E[i]?.map (·.1))=seen.filterMap (fun i=>E[i]?.map (·.1)) ++ [(E[i]).1]:=by rw [List.filterMap_append];simp only [List.filterMap_cons,List.filterMap_nil,AjS Gn,Option.map_some]
   have hlen':seen.length<E.length:=by
    have h2:(i::seen) ⊆ List.range E.length:=by
     intro j hj
     rcases List.mem_cons.1 hj with rfl|hj
     ·simpa using Gn
     ·simpa using hI.lt j hj
    have:=(List.nodup_cons.2 ⟨FM,hI.nd⟩).length_le_of_subset h2;simp at this;omega
   have Dz:=Eo hI;have hJ2:=hJ _ wr W1 (some r) hJs hG1 (fun r' e=>by cases e;exact⟨AjN _,_,hI.it,rfl⟩);have hb2:=(hG1.block b (AjL hbr) (by simp;omega)).trans hbr;have Ej:=hen W1 rfl rfl;obtain⟨s,hs⟩:=AjJ ((E[i]).1);obtain⟨z,hz⟩:=AjJ ((E[i]).2.1);rw [←hs,←hz]at Ej hrun;rw [←hs]at hstep;have E3:=(Aa.refl W1).alloc (.cells #[S (R s.x),S (R s.y)] 28);have BX:=AjM W1 (.cells #[S (R s.x),S (R s.y)] 28);have PS:=hJ _ W1 _ none hJ2 (DJ E3 none) (fun r' e=>by cases e);have hpl:(seen.filterMap (fun i=>E[i]?.map (·.1))).length<E.length:=Nat.lt_of_le_of_lt (List.length_filterMap_le _ _) hlen';obtain⟨fn,tmps,assign,body,hy,hR⟩:=hY _ s _ PS hpl;have Dg:=DL.keep (E3.block r (AjL DL.it));have hb4:=(E3.block b (AjL hb2)).trans hb2;have g0:=Ab (o:=0) BX rfl;have g1:=Ab (o:=1) BX rfl;clear hs1 hen hs hz BX E3 PS hJ2;unfold Ag at Ej hrun hy;unfold S at hy Ej hrun g0 g1 Dg hb4 hR;gi_wp2;refine hR.mono ?_;rintro e W3 ⟨rfl,hJ3,hk3⟩;gi_wp2;go_roundw
   case rel=>exact⟨seen ++ [i],⟨hk3.same r _ Dg.it rfl,Dg.nd,Dg.lt⟩,hk3.same b _ hb4 rfl,by rw [hstep];exact hJ3⟩
   case measure=>rw [Dz,Eo (W:=W3) (b:=b) (E:=E) (seen:=seen ++ [i]) ⟨hk3.same r _ Dg.it rfl,Dg.nd,Dg.lt⟩,List.length_append,List.length_singleton];omega
theorem AdA(F:Fence)(n:Nat)(h10:F.fn 195)(hro:F.round=none)(hn:1<=n)(Bm b:Nat)(E:List (Pt×Value×Nat))(hst:∀i (h:i<E.length),E[i].2.2=i)(w:World)(hBm:Bm<w.heap.size)
  (hm:w.cell? ⟨Bm,0,none⟩=some (.map (some b))) (hb:w.heap[b]?=some (.map (Az Ag E).toArray E.length)) :
  SeqGives F n Tryz.prog 195 #[.pointer (some ⟨Bm,0,none⟩)] Ag (fun ss=>ss.Perm (E.map (·.1))) E.length w:=fun l J W hW hJ hY h0=>
 Ad9 F n h10 hro hn l Bm b E hst J hY W hJ ((hW.cell (p:=⟨Bm,0,none⟩) hBm).trans hm) ((hW.block b (AjL hb)).trans hb) h0
end Go.Proofs.YtnfedbopbcegjaaGreatDoor
