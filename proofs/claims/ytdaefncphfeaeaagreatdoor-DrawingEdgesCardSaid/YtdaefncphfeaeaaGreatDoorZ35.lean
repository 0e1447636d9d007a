/- Z35: M23. -/
import Derived.Test.YtdaefncphfeaeaaGreatDoorZ34
import Derived.Sort.MapsRangeIn
set_option maxRecDepth 100000
set_option maxHeartbeats 4000000
namespace Go.Proofs.YtdaefncphfeaeaaGreatDoor
open Go.RowKit Kl
theorem Akw(F:Fence)(n:Nat)(h10:F.fn 242)(hro:F.round=none)(hn:1<=n)(l Bm b:Nat)(L:List (Sg×Int))(J:List Sg→World→Prop)
  (hY:∀pre x W,J pre W→pre.length<L.length→YieldAt F (n-1) Tryz.prog l #[Ax x] W fun e W'=>e=.returned (.bool true)/\J (pre ++ [x]) W'/\KeepsWalks W W')
  (W:World) (hJ:AbidesFrom W.heap.size J) (hm:W.cell? ⟨Bm,0,none⟩=some (.map (some b))) (hb:W.heap[b]?=some (.map (AK Ax (stamp L)).toArray L.length)) (h0:J [] W) :
  CallsIn F n Tryz.prog 242 #[.func (.yield l) #[] #[],.pointer (some ⟨Bm,0,none⟩)] W fun e W'=>(∃v,e=.returned v)/\∃ss:List Sg,ss.Perm (L.map (·.1))/\J ss W':=by
 have hlt:=Asd hb;rw [←G0]at hb;obtain⟨hr1,hr2⟩:=F7.range (enc:=Ax) (E:=stamp L) (t:=108) Tryz.underlying108 (W:=W) (b:=b) hb;have hG:=(Aa.refl W).alloc (.mapIter (some b) (stamp L).length #[] (stamp L).length);have hJ1:=hJ [] W _ none h0 (JK hG none) (fun r e=>by cases e);have hb1:=(hG.block b hlt).trans hb;refine callsIn_of_wp Tryz.func242 rfl h10 ?_ hro;simp only [Tryz.ntmps242,List.size_toArray,List.length_cons,List.length_nil,Nat.reduceAdd,Nat.reduceSub,Array.replicate_succ,Array.replicate_zero,List.push_toArray,List.append_toArray,List.nil_append,List.cons_append];gi_wp2;generalize W.alloc (.mapIter (some b) (stamp L).length #[] (stamp L).length)=V at *;obtain⟨r,hr⟩:=AcG W.heap.size;rw [←hr]at hr2 hlt hJ ⊢;clear hr hr1 hG hb hm h0
 gi_loopw [3] (fun _ wr=>∃seen:List Nat,F7 wr r b (stamp L) seen/\wr.heap[b]?=some (.map (AK Ax (stamp L)).toArray (stamp L).length)/\J (seen.filterMap (fun i=>L[i]?.map (·.1))) wr)
  (fun _ wr=>L.length-(wr.iterSeen r).size)
 case atStart=>exact⟨[],hr2,hb1,hJ1⟩
 case round=>
  obtain⟨seen,hI,hbr,hJs⟩:=hrel
  rcases F7.next Ax hI hbr (Abi L) (by omega) 0 with⟨hlen,hrun⟩|⟨i,hi,KV,W1,hI1,hG1,hs1,hrun,hen⟩
  ·have hP:=AaU L hI.nd hI.lt hlen;gi_wp2
   go_end0
   exact⟨⟨_,rfl⟩,_,hP,hJs⟩
  ·have QN:i<L.length:=(by rw [G0]at hi;exact hi);rw [Abj,Abl]at hrun hen
   have hstep:(seen ++ [i]).filterMap (fun i=>L[i]?.map (·.1))=seen.filterMap (fun i=>L[i]?.map (·.1)) ++ [(L[i]).1]:=by rw [List.filterMap_append];simp only [List.filterMap_cons,List.filterMap_nil,Asl QN,Option.map_some]
   have hlen':seen.length<L.length:=by
    have h2:(i::seen) ⊆ List.range L.length:=by
     intro j hj
     rcases List.mem_cons.1 hj with rfl|hj
     ·simpa using QN
     ·have:=hI.lt j hj;rw [G0]at this;simpa using this
    have:=(List.nodup_cons.2 ⟨KV,hI.nd⟩).length_le_of_subset h2;simp at this;omega
   have Gv:=IG hI;have hJ2:=hJ _ wr W1 (some r) hJs hG1 (fun r' e=>by cases e;exact⟨Asf _,_,hI.it,rfl⟩);have hb2:=(hG1.block b (Asd hbr) (by simp;omega)).trans hbr;have KO:=hen W1 rfl rfl;obtain⟨s,hs⟩:=AcG ((L[i]).1);obtain⟨z,hz⟩:=AcG ((L[i]).2);rw [←hs,←hz]at KO hrun;rw [←hs]at hstep;have E3:=(Aa.refl W1).alloc (.cells #[S (R s.a.x),S (R s.a.y),S (R s.b.x),S (R s.b.y)] 183);have H7:=Ase W1 (.cells #[S (R s.a.x),S (R s.a.y),S (R s.b.x),S (R s.b.y)] 183);have xU:=hJ _ W1 _ none hJ2 (JK E3 none) (fun r' e=>by cases e);have hpl:(seen.filterMap (fun i=>L[i]?.map (·.1))).length<L.length:=Nat.lt_of_le_of_lt (List.length_filterMap_le _ _) hlen';obtain⟨fn,tmps,assign,body,hy,hR⟩:=hY _ s _ xU hpl;have H5:=hI1.keep (E3.block r (Asd hI1.it));have hb4:=(E3.block b (Asd hb2)).trans hb2;have g0:=Ab (o:=0) H7 rfl;have g1:=Ab (o:=1) H7 rfl;have g2:=Ab (o:=2) H7 rfl;have g3:=Ab (o:=3) H7 rfl;clear hs1 hen hs hz H7 E3 xU hJ2;unfold Ax at KO hrun hy;unfold S at hy KO hrun g0 g1 g2 g3 H5 hb4 hR;gi_wp2;refine hR.mono ?_;rintro e W3 ⟨rfl,hJ3,hk3⟩;gi_wp2;go_roundw
   case rel=>exact⟨seen ++ [i],⟨hk3.same r _ H5.it rfl,H5.nd,H5.lt⟩,hk3.same b _ hb4 rfl,by rw [hstep];exact hJ3⟩
   case measure=>rw [Gv,IG (W:=W3) (b:=b) (E:=stamp L) (seen:=seen ++ [i]) ⟨hk3.same r _ H5.it rfl,H5.nd,H5.lt⟩,List.length_append,List.length_singleton];omega
theorem Aky(F:Fence)(n:Nat)(h10:F.fn 242)(hro:F.round=none)(hn:1<=n)(Bm b:Nat)(L:List (Sg×Int))(w:World)(hBm:Bm<w.heap.size)
  (hm:w.cell? ⟨Bm,0,none⟩=some (.map (some b))) (hb:w.heap[b]?=some (.map (AK Ax (stamp L)).toArray L.length)) :
  SeqGives F n Tryz.prog 242 #[.pointer (some ⟨Bm,0,none⟩)] Ax (fun ss=>ss.Perm (L.map (·.1))) L.length w:=fun l J W hW hJ hY h0=>
 Akw F n h10 hro hn l Bm b L J hY W hJ ((hW.cell (p:=⟨Bm,0,none⟩) hBm).trans hm) ((hW.block b (Asd hb)).trans hb) h0
end Go.Proofs.YtdaefncphfeaeaaGreatDoor
