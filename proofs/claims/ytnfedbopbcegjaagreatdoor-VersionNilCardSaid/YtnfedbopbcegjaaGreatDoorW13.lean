/- W13. -/
import Derived.Test.YtnfedbopbcegjaaGreatDoorW10
import Derived.RangeFuncNested
import Derived.RangeFuncBound
import Derived.Shelf.RegionOpen
import Derived.OwnWalkIn
import Derived.LoopNIn
import Derived.LoopIn
import Derived.StillTailTactics
import Derived.Laws.CopyOwn
namespace Go.Proofs.YtnfedbopbcegjaaGreatDoor
end Go.Proofs.YtnfedbopbcegjaaGreatDoor
namespace Go.Proofs.YtnfedbopbcegjaaGreatDoor
open Go.RowKit Kl Go.Shelf
attribute [local go_sem] Oper.semAt_some
theorem Aa.trans_below{a b c:World}{B:Nat}(h:Aa a b)(k:Below B b c)(hB:a.heap.size<=B:=by omega):Aa a c:=Below.trans h (Below.mono k hB)
end Go.Proofs.YtnfedbopbcegjaaGreatDoor
namespace Go.Proofs.YtnfedbopbcegjaaGreatDoor
end Go.Proofs.YtnfedbopbcegjaaGreatDoor
namespace Go.Proofs.YtnfedbopbcegjaaGreatDoor
open Go.RowKit Kl Go.Shelf
def left(l:Array Bool):Nat:=l.toList.countP (fun b=>!b)
theorem iM:∀{l:List Bool} {i:Nat},l[i]?=some false→(l.set i true).countP (fun b=>!b)+1=l.countP (fun b=>!b)
 | x::l,0,h=>by
  simp only [List.getElem?_cons_zero,AjR]at h;subst h;simp
 | x::l,i+1,h=>by have ih:=iM (l:=l) (i:=i) (by simpa using h);rw [List.set_cons_succ,List.countP_cons,List.countP_cons];omega
theorem uD{l:Array Bool}{i:Nat}(h:l.getD i true=false):left (l.setIfInBounds i true)+1=left l:=by
 unfold left;rw [Array.toList_setIfInBounds];refine iM ?_
 rcases Nat.lt_or_ge i l.size with h'|h'
 ·simp [h']at h ⊢;exact h
 ·simp [Array.getElem?_eq_none h']at h
theorem uF{l:Array Bool}(h:left l=0)(i:Nat)(hi:i<l.size):l.getD i false=true:=by
 unfold left at h;rw [List.countP_eq_zero]at h;have:=h l[i] (by simp);simp [hi]at this ⊢;exact this
theorem eval_put_same{a:Act}{d:Nat}{v:Value}(h:d<a.tmps.size):(a.put (some d) v).eval (.tmp d)=v:=by
 simp [Act.put,Act.eval,h]
theorem J8{listed:Array Bool}{i:Nat}(h:i<listed.size):(listed.setIfInBounds i true).getD i false=true:=by
 simp [h]
section
variable {F : Fence} {n : Nat} {P : Program} {md : Region.Mode} {ops : Array Oper} {Q : Exit → Act → World → Prop}
structure Eh(md:Region.Mode)(ops:Array Oper)(val:Nat→Value)(a0:Act)(listed:Array Bool)(a:Act):Prop where
 sz:a.tmps.size=a0.tmps.size
 lsz:listed.size=ops.size
 done:∀i o d,ops[i]?=some o→listed.getD i false=true→o.dst=some d→a.eval (.tmp d)=val i
 rest:∀d,(∀(i:Nat) o,ops[i]?=some o→o.dst≠some d)→a.eval (.tmp d)=a0.eval (.tmp d)
 closed:∀j oj,ops[j]?=some oj→listed.getD j false=true→∀e∈oj.after,Region.binds md e=true→listed.getD e.on false=true
theorem Eh.step{s m:Nat}{val:Nat→Value}{a0:Act}{listed:Array Bool}{a:Act}{i:Nat}{o:Oper}(hD:∀(i:Nat) o,ops[i]?=some o→o.dst=if i<m then some (s+i)else none)(hB:s+m<=a0.tmps.size)
  (h:Eh md ops val a0 listed a) (ho:ops[i]?=some o) (hr:i∈Region.ready md ops listed):Eh md ops val a0 (listed.setIfInBounds i true) (a.put o.dst (val i)):=by
 have hi:i<ops.size:=(Array.getElem?_eq_some_iff.1 ho).1;refine⟨?_,by rw [Array.size_setIfInBounds,h.lsz],?_,?_,?_⟩
 ·rw [←h.sz];cases o.dst<;>simp [Act.put]
 ·intro j oj d hj hl hd;have e1:=hD i o ho;have e2:=hD j oj hj;rw [hd]at e2;by_cases AL:i=j
  ·subst AL;rw [←e1]at e2;rw [←e2];refine eval_put_same ?_;rw [h.sz];rw [e1]at e2
   split at e2
   ·have e3:@Eq Nat d (s+i):=Option.some.inj e2;omega
   ·cases e2
  ·rw [getD_set_ne false AL]at hl;rw [Act.eval_put (fun d' Gl e=>?_)]
   ·exact h.done j oj d hj hl hd
   ·rw [e1]at Gl;rw [Operand.tmp.injEq]at e;subst e
    split at Gl
    ·split at e2
     ·have e3:@Eq Nat (s+i) d:=Option.some.inj Gl;have e4:@Eq Nat d (s+j):=Option.some.inj e2;omega
     ·cases e2
    ·cases Gl
 ·intro d hd;rw [Act.eval_put (fun d' Gl e=>by rw [Operand.tmp.injEq]at e;subst e;exact hd i o ho Gl)];exact h.rest d hd
 ·intro j oj hj hl e he hb;obtain⟨_,oi,hoi,hall⟩:=mem_ready.1 hr;by_cases AL:i=j
  ·subst AL;obtain rfl:=Option.some.inj (hj.symm.trans hoi);exact getD_set_true (hall e he hb)
  ·rw [getD_set_ne false AL]at hl;exact getD_set_true (h.closed j oj hj hl e he hb)
theorem Eh.start{val:Nat→Value}{a0:Act} : Eh md ops val a0 (Array.replicate ops.size false) a0:=
 ⟨rfl,by simp,fun i o d _ hl=>(by rw [getD_replicate_false]at hl;cases hl),fun _ _=>rfl,fun j oj _ hl=>(by rw [getD_replicate_false]at hl;cases hl)⟩
theorem uE(k:Nat):left (Array.replicate k false)<=k:=by
 unfold left;refine AjX List.countP_le_length ?_;simp
def okB(s m:Nat)(ops:Array Oper):Bool:=
 (List.range ops.size).all fun i=>match ops[i]? with
  | some o=>(o.dst == if i < m then some (s+i)else none) && o.guard.isNone && o.after.all (fun e=>decide (e.on < i))
  | none=>true
theorem QZ{s m:Nat}(h:okB s m ops=true)(i:Nat)(o:Oper)(ho:ops[i]?=some o) :
  (o.dst=if i<m then some (s+i)else none)/\o.guard=none/\∀e∈o.after,e.on<i:=by
 have h1:=List.all_eq_true.1 h i (List.mem_range.2 (Array.getElem?_eq_some_iff.1 ho).1);rw [ho]at h1;simp only [Bool.and_eq_true,beq_iff_eq,Option.isNone_iff_eq_none,Array.all_eq_true',decide_eq_true_eq]at h1;exact⟨h1.1.1,h1.1.2,h1.2⟩
theorem Eh.out{s m:Nat}{val:Nat→Value}{a0 a:Act}{listed:Array Bool}(h:Eh md ops val a0 listed a)(hb:okB s m ops=true){d:Nat}(hd:d<s∨s+m<=d){v:Value}(hv:a0.eval (.tmp d)=v):a.eval (.tmp d)=v:=by
 rw [←hv];refine h.rest d fun i o ho e=>?_;have h1:=(QZ hb i o ho).1;rw [e]at h1
 split at h1
 ·have h2:@Eq Nat d (s+i):=Option.some.inj h1;omega
 ·cases h1
theorem Eh.val{s m:Nat}{val:Nat→Value}{a0 a:Act}{listed:Array Bool}(h:Eh md ops val a0 listed a)(hb:okB s m ops=true)(i:Nat){d:Nat}(hd:d=s+i)(hi:i<m)(hl:listed.getD i false=true){v:Value}(hv:val i=v):a.eval (.tmp d)=v:=by
 have hlt:i<ops.size:=by
  rw [←h.lsz]
  rcases Nat.lt_or_ge i listed.size with h'|h'
  ·exact h'
  ·simp [Array.getElem?_eq_none h']at hl
 have ho:ops[i]?=some ops[i]:=(by simp [hlt]);rw [←hv];refine h.done i _ d ho hl ?_;rw [(QZ hb i _ ho).1,if_pos hi,hd]
def waits(o:Oper):List Nat:=(o.after.toList.filter (fun e=>Region.binds .any e)).map (·.on)
theorem OQ{o:Oper}{listed:Array Bool}(h:∀e∈o.after,Region.binds .any e=true→listed.getD e.on false=true)(j:Nat)(hj:(waits o).contains j=true):listed.getD j false=true:=by
 have h1:j∈waits o:=(by simpa using hj);unfold waits at h1;rw [List.mem_map]at h1;obtain⟨e,he,rfl⟩:=h1;rw [List.mem_filter]at he;exact h e (by simpa using he.1) he.2
theorem Eh.waits{val:Nat→Value}{a0 a:Act}{listed:Array Bool}(h:Eh .any ops val a0 listed a){j:Nat}{oj:Oper}(hj:ops[j]?=some oj)(hl:listed.getD j false=true)(i:Nat)(hi:(waits oj).contains i=true):listed.getD i false=true:=
 OQ (h.closed j oj hj hl) i hi
end
section
variable {P : Program} {md : Region.Mode} {ops : Array Oper} {Q : Exit → Act → World → Prop}
theorem AhH(J:Array Bool→Act→World→Prop)(hA:∀(i:Nat) (o:Oper),ops[i]?=some o→∀e∈o.after,e.on<i)(hg:∀(i:Nat) (o:Oper),ops[i]?=some o→o.guard=none)
  (hstep:∀listed a w i o,J listed a w→listed.size=ops.size→listed.getD i false=false→ops[i]?=some o→(∀e∈o.after,Region.binds md e=true→listed.getD e.on false=true)→o.wp P a w (fun a' w'=>J (listed.setIfInBounds i true) a' w') Q)
  (hend:∀listed a w,J listed a w→(∀i,i<ops.size→listed.getD i false=true)→Q .normal a w) :
  ∀fuel listed a w,J listed a w→listed.size=ops.size→left listed<=fuel→wpAny P md ops Q fuel listed a w:=by
 have hall:∀listed:Array Bool,listed.size=ops.size→Region.ready md ops listed = []→∀i,i<ops.size→listed.getD i false=true:=by
  intro listed hl hr i
  induction i using Nat.strongRecOn with
  | _ i ih=>
   intro hi;by_cases h:listed.getD i false=true
   ·exact h
   ·exfalso
    have:i∈Region.ready md ops listed:=mem_ready.2 ⟨getD_in (by omega) (by simpa using h),ops[i],by simp [hi],fun e he _=>by
     have:=hA i ops[i] (by simp [hi]) e he
     exact ih e.on this (by omega)⟩
    rw [hr]at this
    cases this
 intro fuel
 induction fuel with
 | zero=>
  intro listed a w hJ hs hl;have h0:=fun (i:Nat) (hi:i<ops.size)=>uF (l:=listed) (by omega) i (by rw [hs];exact hi);refine⟨?_,hend _ _ _ hJ h0⟩;rw [List.eq_nil_iff_forall_not_mem];intro i hi;obtain⟨h1,o,ho,_⟩:=mem_ready.1 hi;have h2:=h0 i (Array.getElem?_eq_some_iff.1 ho).1;rw [getD_both h1]at h2
  cases h2
 | succ fuel ih=>intro listed a w hJ hs hl;refine⟨fun hr=>hend _ _ _ hJ (hall _ hs hr),fun i hi=>?_⟩;obtain⟨h1,o,ho,hd⟩:=mem_ready.1 hi;unfold wpOp;rw [ho];simp only;rw [if_pos (by simp [Region.wanted,hg i o ho])];refine Or.inl (Oper.wp_mono (fun a' w' h=>ih _ _ _ h (by rw [Array.size_setIfInBounds];exact hs) ?_) (hstep listed a w i o hJ hs (getD_both h1) ho hd));have:=uD h1;omega
theorem fe{id:Nat}{a:Act}{w:World}(J:Array Bool→Act→World→Prop)(hm:P.follows .mixedOrders=true)(hA:∀(i:Nat) (o:Oper),ops[i]?=some o→∀e∈o.after,e.on<i)(hg:∀(i:Nat) (o:Oper),ops[i]?=some o→o.guard=none)
  (h0:J (Array.replicate ops.size false) a w.drew)
  (hstep:∀listed a w i o,J listed a w→listed.size=ops.size→listed.getD i false=false→ops[i]?=some o→(∀e∈o.after,Region.binds .any e=true→listed.getD e.on false=true)→o.wp P a w (fun a' w'=>J (listed.setIfInBounds i true) a' w') Q)
  (hend:∀listed a w,J listed a w→(∀i,i<ops.size→listed.getD i false=true)→Q .normal a w):(Code.region id ops true).wp P Q a w:=
 wp_region_any hm (AhH J hA hg hstep hend _ _ _ _ h0 (by simp) (uE _))
structure DC(K:Nat→Prop)(a0 a:Act):Prop where
 size:a.tmps.size=a0.tmps.size
 defers:a.defers=a0.defers
 same:∀d,¬K d→a.tmps[d]?=a0.tmps[d]?
theorem DC.refl(K:Nat→Prop)(a:Act):DC K a a:=⟨rfl,rfl,fun _ _=>rfl⟩
theorem DC.put{K:Nat→Prop}{a0 a:Act}(h:DC K a0 a){d:Nat}(hd:K d)(v:Value):DC K a0 (a.put (some d) v):=by
 refine⟨?_,h.defers,fun e he=>?_⟩
 ·simp only [Act.put,Array.size_setIfInBounds];exact h.size
 ·simp only [Act.put];rw [Array.getElem?_setIfInBounds_ne (by rintro rfl;exact he hd)];exact h.same e he
theorem DC.eval{K:Nat→Prop}{a0 a:Act}(h:DC K a0 a){d:Nat}(hd:¬K d):a.eval (.tmp d)=a0.eval (.tmp d):=by
 simp only [Act.eval,Array.getD_eq_getD_getElem?,h.same d hd]
theorem SG{a:Act}{d e:Nat}(v:Value)(h:e≠d):(a.put (some d) v).eval (.tmp e)=a.eval (.tmp e):=by
 simp only [Act.eval,Act.put,Array.getD_eq_getD_getElem?];rw [Array.getElem?_setIfInBounds_ne (fun k=>h k.symm)]
theorem AhK{o:Oper}{a:Act}{w:World}{K:Act→World→Prop}{f:FuncId}{x:Operand}{ts:Array TypeId}(ho:o.op=.call {callee:=.value (.func f),args:=#[x],argTypes:=ts})(hen:Enters P f){v:Value}(hx:a.eval x=v)
  {R:Ending→World→Prop} (hc:Calls P f #[v] w R) (hR:∀e w'',R e w''→∃u,e=.returned u/\K (a.put o.dst u) w''):o.wp P a w K Q:=by
 subst hx
 have h2:(execOp a.eval o).run P w=.ok (.enter f #[a.eval x]) w:=by unfold execOp;simp [ho,resolve,invoke,Act.eval,go_sem];exact hen _ w
 unfold Oper.wp;rw [h2,Oper.upon_enter];refine hc.mono fun e w'' h=>?_;obtain⟨u,rfl,hk⟩:=hR e w'' h;exact hk
end
def eM(ops:Array Oper):Bool:=(List.range ops.size).all fun i=>match ops[i]? with
 | some o=>o.guard.isNone && o.after.all (fun e=>decide (e.on < i))
 | none=>true
theorem eP{ops:Array Oper}(h:eM ops=true)(i:Nat)(o:Oper)(ho:ops[i]?=some o):o.guard=none/\∀e∈o.after,e.on<i:=by
 have h1:=List.all_eq_true.1 h i (List.mem_range.2 (Array.getElem?_eq_some_iff.1 ho).1);rw [ho]at h1;simp only [Bool.and_eq_true,Option.isNone_iff_eq_none,Array.all_eq_true',decide_eq_true_eq]at h1;exact h1
end Go.Proofs.YtnfedbopbcegjaaGreatDoor
namespace Go.Proofs.YtnfedbopbcegjaaGreatDoor
end Go.Proofs.YtnfedbopbcegjaaGreatDoor
