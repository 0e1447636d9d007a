/- J14: Inv BI. -/
import Derived.Test.YtnddllipjippnaaGreatDoorJ12
import Derived.Laws.CopyOwn
namespace Go.Proofs.YtnddllipjippnaaGreatDoor
open Go.RowKit Kl Go.Shelf
section
variable {P : Program} {md : Region.Mode} {ops : Array Oper} {Q : Exit → Act → World → Prop}
theorem AlV(J:Array Bool→Act→World→Prop)(hA:∀(i:Nat) (o:Oper),ops[i]?=some o→∀e∈o.after,e.on<i)(hg:∀(i:Nat) (o:Oper),ops[i]?=some o→o.guard=none)
  (hstep:∀listed a w i o,J listed a w→listed.size=ops.size→listed.getD i false=false→ops[i]?=some o→(∀e∈o.after,Region.binds md e=true→listed.getD e.on false=true)→o.wp P a w (fun a' w'=>J (listed.setIfInBounds i true) a' w') Q)
  (hend:∀listed a w,J listed a w→(∀i,i<ops.size→listed.getD i false=true)→Q .normal a w) :
  ∀fuel listed a w,J listed a w→listed.size=ops.size→left listed<=fuel→wpAny P md ops Q fuel listed a w:=by
 have hall:∀listed:Array Bool,listed.size=ops.size→Region.ready md ops listed = []→∀i,i<ops.size→listed.getD i false=true:=by
  intro listed hl hr i
  induction i using Nat.strongRecOn with
  | _ i ih=>
   intro hi;by_cases h:listed.getD i false=true
   ·exact h
   ·exfalso
    have:i∈Region.ready md ops listed:=mem_ready.2 ⟨getD_in (by omega) (by simpa using h),ops[i],by simp [hi],fun e he _=>by
     have:=hA i ops[i] (by simp [hi]) e he
     exact ih e.on this (by omega)⟩
    rw [hr]at this
    cases this
 intro fuel
 induction fuel with
 | zero=>
  intro listed a w hJ hs hl;have h0:=fun (i:Nat) (hi:i<ops.size)=>jD (l:=listed) (by omega) i (by rw [hs];exact hi);refine⟨?_,hend _ _ _ hJ h0⟩;rw [List.eq_nil_iff_forall_not_mem];intro i hi;obtain⟨h1,o,ho,_⟩:=mem_ready.1 hi;have h2:=h0 i (Array.getElem?_eq_some_iff.1 ho).1;rw [getD_both h1]at h2
  cases h2
 | succ fuel ih=>intro listed a w hJ hs hl;refine⟨fun hr=>hend _ _ _ hJ (hall _ hs hr),fun i hi=>?_⟩;obtain⟨h1,o,ho,hd⟩:=mem_ready.1 hi;unfold wpOp;rw [ho];simp only;rw [if_pos (by simp [Region.wanted,hg i o ho])];refine Or.inl (Oper.wp_mono (fun a' w' h=>ih _ _ _ h (by rw [Array.size_setIfInBounds];exact hs) ?_) (hstep listed a w i o hJ hs (getD_both h1) ho hd));have:=jB h1;omega
theorem Ama{id:Nat}{a:Act}{w:World}(J:Array Bool→Act→World→Prop)(hm:P.follows .mixedOrders=true)(hA:∀(i:Nat) (o:Oper),ops[i]?=some o→∀e∈o.after,e.on<i)(hg:∀(i:Nat) (o:Oper),ops[i]?=some o→o.guard=none)
  (h0:J (Array.replicate ops.size false) a w.drew)
  (hstep:∀listed a w i o,J listed a w→listed.size=ops.size→listed.getD i false=false→ops[i]?=some o→(∀e∈o.after,Region.binds .any e=true→listed.getD e.on false=true)→o.wp P a w (fun a' w'=>J (listed.setIfInBounds i true) a' w') Q)
  (hend:∀listed a w,J listed a w→(∀i,i<ops.size→listed.getD i false=true)→Q .normal a w):(Code.region id ops true).wp P Q a w:=
 wp_region_any hm (AlV J hA hg hstep hend _ _ _ _ h0 (by simp) (jC _))
theorem AlX{o:Oper}{a:Act}{w:World}{K:Act→World→Prop}{f:FuncId}{x:Operand}{ts:Array TypeId}(ho:o.op=.call {callee:=.value (.func f),args:=#[x],argTypes:=ts})(hen:Enters P f){v:Value}(hx:a.eval x=v)
  {R:Ending→World→Prop} (hc:Calls P f #[v] w R) (hR:∀e w'',R e w''→∃u,e=.returned u/\K (a.put o.dst u) w''):o.wp P a w K Q:=by
 subst hx
 have h2:(execOp a.eval o).run P w=.ok (.enter f #[a.eval x]) w:=by unfold execOp;simp [ho,resolve,invoke,Act.eval,go_sem];exact hen _ w
 unfold Oper.wp;rw [h2,Oper.upon_enter];refine hc.mono fun e w'' h=>?_;obtain⟨u,rfl,hk⟩:=hR e w'' h;exact hk
end
section
variable {F : Fence} {n : Nat} {P : Program} {md : Region.Mode} {ops : Array Oper} {Q : Exit → Act → World → Prop}
theorem AlR(J:Array Bool→Act→World→Prop)(hA:∀(i:Nat) (o:Oper),ops[i]?=some o→∀e∈o.after,e.on<i)(hg:∀(i:Nat) (o:Oper),ops[i]?=some o→o.guard=none)
  (hstep:∀listed a w i o,J listed a w→listed.size=ops.size→listed.getD i false=false→ops[i]?=some o→(∀e∈o.after,Region.binds md e=true→listed.getD e.on false=true)→
   ∀K:Act→World→Prop,(∀a' w',J (listed.setIfInBounds i true) a' w'→K a' w')→Oper.wpIn F n P o a w K Q)
  (hend:∀listed a w,J listed a w→(∀i,i<ops.size→listed.getD i false=true)→Q .normal a w) :
  ∀fuel listed a w,J listed a w→listed.size=ops.size→left listed<=fuel→wpAnyIn F n P md ops Q fuel listed a w:=by
 have hall:∀listed:Array Bool,listed.size=ops.size→Region.ready md ops listed = []→∀i,i<ops.size→listed.getD i false=true:=by
  intro listed hl hr i
  induction i using Nat.strongRecOn with
  | _ i ih=>
   intro hi;by_cases h:listed.getD i false=true
   ·exact h
   ·exfalso
    have:i∈Region.ready md ops listed:=mem_ready.2 ⟨getD_in (by omega) (by simpa using h),ops[i],by simp [hi],fun e he _=>by
     have:=hA i ops[i] (by simp [hi]) e he
     exact ih e.on this (by omega)⟩
    rw [hr]at this
    cases this
 intro fuel
 induction fuel with
 | zero=>
  intro listed a w hJ hs hl;have h0:=fun (i:Nat) (hi:i<ops.size)=>jD (l:=listed) (by omega) i (by rw [hs];exact hi);refine⟨?_,hend _ _ _ hJ h0⟩;rw [List.eq_nil_iff_forall_not_mem];intro i hi;obtain⟨h1,o,ho,_⟩:=mem_ready.1 hi;have h2:=h0 i (Array.getElem?_eq_some_iff.1 ho).1;rw [getD_both h1]at h2
  cases h2
 | succ fuel ih=>intro listed a w hJ hs hl;refine⟨fun hr=>hend _ _ _ hJ (hall _ hs hr),fun i hi=>?_⟩;obtain⟨h1,o,ho,hd⟩:=mem_ready.1 hi;unfold wpOpIn;rw [ho];simp only;rw [if_pos (by simp [Region.wanted,hg i o ho])];refine hstep listed a w i o hJ hs (getD_both h1) ho hd _ fun a' w' h=>ih _ _ _ h (by rw [Array.size_setIfInBounds];exact hs) ?_;have:=jB h1;omega
end
end Go.Proofs.YtnddllipjippnaaGreatDoor
