/- W04. -/
import Derived.Shelf.SlLaysF0
import Derived.StillTail
import Derived.OrdersHeld
import Derived.Test.YtnfedbopbcegjaaGreatDoorW01
namespace Go.Proofs
open Go.Shelf
def Tryz.laysSortSg_ren:Go.Shelf.Ren:=⟨fun|6=>199|15=>97|14=>242|28=>175|29=>176|20=>273|21=>274|22=>275|23=>276|24=>277|25=>278|26=>279|27=>280|46=>292|47=>219|48=>220|49=>293|50=>294|57=>299|n=>n,fun|22=>208|24=>176|25=>213|3=>3|39=>173|0=>0|53=>259|55=>261|4=>4|46=>252|45=>251|50=>83|5=>5|9=>9|66=>301|70=>305|76=>323|77=>324|n=>n,fun|n=>n⟩
theorem Tryz.laysSortSg:Go.Proofs.SlLaysF0.n6 Tryz.prog Tryz.laysSortSg_ren:={
 mixed:=by kernel_rfl
 f6:=⟨Tryz.f199.name,by decide,Tryz.func199.trans (congrArg some (by kernel_rfl))⟩
 f14:=⟨Tryz.f242.name,by decide,Tryz.func242.trans (congrArg some (by kernel_rfl))⟩
 f15:=Tryz.func97.trans (congrArg some (by kernel_rfl))
 f20:=⟨Tryz.f273.name,by decide,Tryz.func273.trans (congrArg some (by kernel_rfl))⟩
 f21:=⟨Tryz.f274.name,by decide,Tryz.func274.trans (congrArg some (by kernel_rfl))⟩
 f22:=⟨Tryz.f275.name,by decide,Tryz.func275.trans (congrArg some (by kernel_rfl))⟩
 f23:=⟨Tryz.f276.name,by decide,Tryz.func276.trans (congrArg some (by kernel_rfl))⟩
 f24:=⟨Tryz.f277.name,by decide,Tryz.func277.trans (congrArg some (by kernel_rfl))⟩
 f25:=⟨Tryz.f278.name,by decide,Tryz.func278.trans (congrArg some (by kernel_rfl))⟩
 f26:=⟨Tryz.f279.name,by decide,Tryz.func279.trans (congrArg some (by kernel_rfl))⟩
 f27:=⟨Tryz.f280.name,by decide,Tryz.func280.trans (congrArg some (by kernel_rfl))⟩
 f28:=Tryz.func175.trans (congrArg some (by kernel_rfl))
 f29:=Tryz.func176.trans (congrArg some (by kernel_rfl))
 f46:=⟨Tryz.f292.name,by decide,Tryz.func292.trans (congrArg some (by kernel_rfl))⟩
 f47:=Tryz.func219.trans (congrArg some (by kernel_rfl))
 f48:=Tryz.func220.trans (congrArg some (by kernel_rfl))
 f49:=⟨Tryz.f293.name,by decide,Tryz.func293.trans (congrArg some (by kernel_rfl))⟩
 f50:=⟨Tryz.f294.name,by decide,Tryz.func294.trans (congrArg some (by kernel_rfl))⟩
 f57:=⟨Tryz.f299.name,by decide,Tryz.func299.trans (congrArg some (by kernel_rfl))⟩
 t0:=Tryz.underlying0
 a0:=Tryz.isAgg0
 z0:=Tryz.sizeOf0
 v0:=Tryz.zeroValue0
 t3:=Tryz.underlying3
 a3:=Tryz.isAgg3
 z3:=Tryz.sizeOf3
 v3:=Tryz.zeroValue3
 t4:=Tryz.underlying4
 a4:=Tryz.isAgg4
 z4:=Tryz.sizeOf4
 v4:=Tryz.zeroValue4
 t5:=Tryz.underlying5
 a5:=Tryz.isAgg5
 z5:=Tryz.sizeOf5
 v5:=Tryz.zeroValue5
 t9:=Tryz.underlying9
 a9:=Tryz.isAgg9
 z9:=Tryz.sizeOf9
 v9:=Tryz.zeroValue9
 t22:=Tryz.underlying208
 a22:=Tryz.isAgg208
 z22:=Tryz.sizeOf208
 v22:=Tryz.zeroValue208
 t25:=Tryz.underlying213
 a25:=Tryz.isAgg213
 z25:=Tryz.sizeOf213
 v25:=Tryz.zeroValue213
 t39:=Tryz.underlying173
 a39:=Tryz.isAgg173
 z39:=Tryz.sizeOf173
 v39:=Tryz.zeroValue173
 t45:=Tryz.underlying251
 a45:=Tryz.isAgg251
 z45:=Tryz.sizeOf251
 v45:=Tryz.zeroValue251
 t46:=Tryz.underlying252
 a46:=Tryz.isAgg252
 z46:=Tryz.sizeOf252
 v46:=Tryz.zeroValue252
 t50:=Tryz.underlying83
 a50:=Tryz.isAgg83
 z50:=Tryz.sizeOf83
 v50:=Tryz.zeroValue83
 t53:=Tryz.underlying259
 a53:=Tryz.isAgg259
 z53:=Tryz.sizeOf259
 v53:=Tryz.zeroValue259
 t55:=Tryz.underlying261
 a55:=Tryz.isAgg261
 z55:=Tryz.sizeOf261
 v55:=Tryz.zeroValue261
 t66:=Tryz.underlying301
 a66:=Tryz.isAgg301
 z66:=Tryz.sizeOf301
 v66:=Tryz.zeroValue301
 t70:=Tryz.underlying305
 a70:=Tryz.isAgg305
 z70:=Tryz.sizeOf305
 v70:=Tryz.zeroValue305
 t76:=Tryz.underlying323
 a76:=Tryz.isAgg323
 z76:=Tryz.sizeOf323
 v76:=Tryz.zeroValue323
 t77:=Tryz.underlying324
 a77:=Tryz.isAgg324
 z77:=Tryz.sizeOf324
 v77:=Tryz.zeroValue324}
def Tryz.laysSortPt_ren:Go.Shelf.Ren:=⟨fun|6=>194|15=>97|14=>240|28=>175|29=>176|20=>265|21=>266|22=>267|23=>268|24=>269|25=>270|26=>271|27=>272|46=>289|47=>219|48=>220|49=>290|50=>291|57=>298|n=>n,fun|22=>41|24=>28|25=>204|3=>3|39=>173|0=>0|53=>259|55=>261|4=>4|46=>252|45=>251|50=>83|5=>5|9=>9|66=>301|70=>305|76=>323|77=>324|n=>n,fun|n=>n⟩
theorem Tryz.laysSortPt:Go.Proofs.SlLaysF0.n6 Tryz.prog Tryz.laysSortPt_ren:={
 mixed:=by kernel_rfl
 f6:=⟨Tryz.f194.name,by decide,Tryz.func194.trans (congrArg some (by kernel_rfl))⟩
 f14:=⟨Tryz.f240.name,by decide,Tryz.func240.trans (congrArg some (by kernel_rfl))⟩
 f15:=Tryz.func97.trans (congrArg some (by kernel_rfl))
 f20:=⟨Tryz.f265.name,by decide,Tryz.func265.trans (congrArg some (by kernel_rfl))⟩
 f21:=⟨Tryz.f266.name,by decide,Tryz.func266.trans (congrArg some (by kernel_rfl))⟩
 f22:=⟨Tryz.f267.name,by decide,Tryz.func267.trans (congrArg some (by kernel_rfl))⟩
 f23:=⟨Tryz.f268.name,by decide,Tryz.func268.trans (congrArg some (by kernel_rfl))⟩
 f24:=⟨Tryz.f269.name,by decide,Tryz.func269.trans (congrArg some (by kernel_rfl))⟩
 f25:=⟨Tryz.f270.name,by decide,Tryz.func270.trans (congrArg some (by kernel_rfl))⟩
 f26:=⟨Tryz.f271.name,by decide,Tryz.func271.trans (congrArg some (by kernel_rfl))⟩
 f27:=⟨Tryz.f272.name,by decide,Tryz.func272.trans (congrArg some (by kernel_rfl))⟩
 f28:=Tryz.func175.trans (congrArg some (by kernel_rfl))
 f29:=Tryz.func176.trans (congrArg some (by kernel_rfl))
 f46:=⟨Tryz.f289.name,by decide,Tryz.func289.trans (congrArg some (by kernel_rfl))⟩
 f47:=Tryz.func219.trans (congrArg some (by kernel_rfl))
 f48:=Tryz.func220.trans (congrArg some (by kernel_rfl))
 f49:=⟨Tryz.f290.name,by decide,Tryz.func290.trans (congrArg some (by kernel_rfl))⟩
 f50:=⟨Tryz.f291.name,by decide,Tryz.func291.trans (congrArg some (by kernel_rfl))⟩
 f57:=⟨Tryz.f298.name,by decide,Tryz.func298.trans (congrArg some (by kernel_rfl))⟩
 t0:=Tryz.underlying0
 a0:=Tryz.isAgg0
 z0:=Tryz.sizeOf0
 v0:=Tryz.zeroValue0
 t3:=Tryz.underlying3
 a3:=Tryz.isAgg3
 z3:=Tryz.sizeOf3
 v3:=Tryz.zeroValue3
 t4:=Tryz.underlying4
 a4:=Tryz.isAgg4
 z4:=Tryz.sizeOf4
 v4:=Tryz.zeroValue4
 t5:=Tryz.underlying5
 a5:=Tryz.isAgg5
 z5:=Tryz.sizeOf5
 v5:=Tryz.zeroValue5
 t9:=Tryz.underlying9
 a9:=Tryz.isAgg9
 z9:=Tryz.sizeOf9
 v9:=Tryz.zeroValue9
 t22:=Tryz.underlying41
 a22:=Tryz.isAgg41
 z22:=Tryz.sizeOf41
 v22:=Tryz.zeroValue41
 t25:=Tryz.underlying204
 a25:=Tryz.isAgg204
 z25:=Tryz.sizeOf204
 v25:=Tryz.zeroValue204
 t39:=Tryz.underlying173
 a39:=Tryz.isAgg173
 z39:=Tryz.sizeOf173
 v39:=Tryz.zeroValue173
 t45:=Tryz.underlying251
 a45:=Tryz.isAgg251
 z45:=Tryz.sizeOf251
 v45:=Tryz.zeroValue251
 t46:=Tryz.underlying252
 a46:=Tryz.isAgg252
 z46:=Tryz.sizeOf252
 v46:=Tryz.zeroValue252
 t50:=Tryz.underlying83
 a50:=Tryz.isAgg83
 z50:=Tryz.sizeOf83
 v50:=Tryz.zeroValue83
 t53:=Tryz.underlying259
 a53:=Tryz.isAgg259
 z53:=Tryz.sizeOf259
 v53:=Tryz.zeroValue259
 t55:=Tryz.underlying261
 a55:=Tryz.isAgg261
 z55:=Tryz.sizeOf261
 v55:=Tryz.zeroValue261
 t66:=Tryz.underlying301
 a66:=Tryz.isAgg301
 z66:=Tryz.sizeOf301
 v66:=Tryz.zeroValue301
 t70:=Tryz.underlying305
 a70:=Tryz.isAgg305
 z70:=Tryz.sizeOf305
 v70:=Tryz.zeroValue305
 t76:=Tryz.underlying323
 a76:=Tryz.isAgg323
 z76:=Tryz.sizeOf323
 v76:=Tryz.zeroValue323
 t77:=Tryz.underlying324
 a77:=Tryz.isAgg324
 z77:=Tryz.sizeOf324
 v77:=Tryz.zeroValue324}
end Go.Proofs
namespace Go.Proofs.YtnfedbopbcegjaaGreatDoor
open Go.RowKit
section
variable {P : Program} {ops : Array Oper} {Q : Exit → Act → World → Prop} {S : World → Prop} {T : List Nat}
def Jq(P:Program)(ops:Array Oper)(Q:Exit→Act→World→Prop)(S:World→Prop)(T:List Nat):Nat→Array Bool→Act→World→Prop
 | 0,l,a,w=>Region.ready .any ops l = []/\Q .normal a w
 | f+1,l,a,w=>(Region.ready .any ops l = []→Q .normal a w)/\∀i∈Region.ready .any ops l,wpOp P ops Q i (fun a' w'=>(T.contains i=false→S w')/\Jq P ops Q S T f (l.setIfInBounds i true) a' w') a w
theorem ej:∀(f:Nat) (l:Array Bool) (a:Act) (w:World),Jq P ops Q S T f l a w→wpAny P .any ops Q f l a w
 | 0,_,_,_,h=>h
 | f+1,_,_,_,h=>⟨h.1,fun i hi=>wpOp_mono (fun a' w' h'=>ej f _ a' w' h'.2) (h.2 i hi)⟩
def Nj(ops:Array Oper)(l:Array Bool):Prop:=∀j o,ops[j]?=some o→l.getD j false=true→∀e∈o.after,Region.binds .any e=true→l.getD e.on false=true
def OD(ops:Array Oper):Nat→Nat→Nat→Bool
 | 0,_,_=>false
 | f+1,t,i=>match ops[t]? with
  | some o=>o.after.any fun e=>Region.binds .any e && (e.on == i || OD ops f e.on i)
  | none=>false
theorem xR{l:Array Bool}(hc:Nj ops l){i:Nat} : ∀(f t:Nat),OD ops f t i=true→(∀o,ops[t]?=some o→∀e∈o.after,Region.binds .any e=true→l.getD e.on false=true)→l.getD i false=true
 | 0,_,h,_=>by cases h
 | f+1,t,h,hd=>by
  unfold OD at h
  split at h
  ·rename_i o ho
   obtain⟨e,he,hb⟩:=Array.any_eq_true'.1 h;simp only [Bool.and_eq_true,Bool.or_eq_true,beq_iff_eq]at hb;have h1:=hd o ho e he hb.1
   rcases hb.2 with h2|h2
   ·rw [←h2];exact h1
   ·exact xR hc f e.on h2 (fun o' JZ e' he' hb'=>hc e.on o' JZ h1 e' he' hb')
  ·cases h
theorem Nj.set{l:Array Bool}{i:Nat}(h:Nj ops l)(hi:i∈Region.ready .any ops l):Nj ops (l.setIfInBounds i true):=by
 obtain⟨_,oi,hoi,hall⟩:=mem_ready.1 hi;intro j o ho hl e he hb
 have key:l.getD e.on false=true:=by
  by_cases AL:i=j
  ·subst AL;obtain rfl:o=oi:=Option.some.inj (ho.symm.trans hoi);exact hall e he hb
  ·rw [getD_set_ne false AL]at hl;exact h j o ho hl e he hb
 by_cases Qt:i=e.on
 ·subst Qt
  have hlt:e.on<l.size:=by
   rcases Nat.lt_or_ge e.on l.size with h'|h'
   ·exact h'
   ·simp [Array.getElem?_eq_none h']at key
  simp [hlt]
 ·rw [getD_set_ne false Qt];exact key
theorem AhG{i:Nat}(hT:T.contains i=false)(hreach:∀t,T.contains t=true→∃f,OD ops f t i=true){oi:Oper}{v:Value}(hi:ops[i]?=some oi)(rQ:∀(j:Nat) (o:Oper) cs b,ops[j]?=some o→o.op≠.select cs b)
  (hQ:∀c a w,Q (.panic c) (a.put oi.dst v) w→Q (.panic c) a w):∀(f:Nat) (l:Array Bool) (a:Act) (w:World),Nj ops l→
   (∀j oj,ops[j]?=some oj→j≠i→l.getD j true=false→(∀e∈oj.after,Region.binds .any e=true→e.on≠i)→oi.apart ops oj=true)→
   i∈Region.ready .any ops l→YieldsIf P ops S oi v a→S w→Jq P ops Q S T f (l.setIfInBounds i true) (a.put oi.dst v) w→Jq P ops Q S T (f+1) l a w:=by
 intro f
 induction f with
 | zero=>
  intro l a w inv _ hr hy hS H;refine⟨fun h=>(by rw [h]at hr;cases hr),fun j hj=>?_⟩;by_cases Lu:j=i
  ·subst Lu;exact hy.wpOp hi hS ⟨fun _=>hS,H⟩
  ·have:=ready_mono hj Lu;rw [H.1]at this
   cases this
 | succ f ih=>
  intro l a w inv oZ hr hy hS H;have A8:=(mem_ready.1 hr).1;refine⟨fun h=>(by rw [h]at hr;cases hr),fun j hj=>?_⟩;by_cases Lu:j=i
  ·subst Lu;exact hy.wpOp hi hS ⟨fun _=>hS,H⟩
  ·have h1:=H.2 j (ready_mono hj Lu);obtain⟨pQ,oj,L0,hall⟩:=mem_ready.1 hj
   have hjT:T.contains j=false:=by
    cases e:T.contains j
    ·rfl
    ·obtain⟨f',hf'⟩:=hreach j e;have:=xR inv f' j hf' (fun o ho=>by obtain rfl:oj=o:=Option.some.inj (L0.symm.trans ho);exact hall);rw [getD_both A8]at this
     cases this
   have Acx:∀e∈oj.after,Region.binds .any e=true→e.on≠i:=fun e he hb heq=>by
    have h2:=hall e he hb;rw [heq,getD_both A8]at h2
    cases h2
   have h2:=wpOp_putIf L0 (oZ j oj L0 Lu pQ Acx) (fun cs b=>rQ i oi cs b hi) (fun cs b=>rQ j oj cs b L0) hQ hy h1;refine wpOp_mono (fun a' w' h3=>⟨h3.2.1,ih (l.setIfInBounds j true) a' w' (inv.set hj) (fun k ok hk Oj pV hno=>oZ k ok hk Oj ?_ hno) (ready_mono hr (Ne.symm Lu)) h3.1 (h3.2.1 hjT) ?_⟩) h2
   ·by_cases hjk:j=k
    ·subst hjk;exact pQ
    ·rw [getD_set_ne true hjk]at pV;exact pV
   ·rw [Array.setIfInBounds_comm _ _ Lu];exact h3.2.2
def headB(ops:Array Oper)(T:List Nat)(i:Nat)(l:Array Bool):Bool:=
 Region.noSelect ops && !T.contains i&&T.all (fun t=>OD ops ops.size t i)
  && (List.range ops.size).all (fun j=>!l.getD j false||match ops[j]? with|some o=>o.after.all (fun e=>!Region.binds .any e||l.getD e.on false)|none=>true)
theorem AbP{l:Array Bool}{i:Nat}(h:headB ops T i l=true):Nj ops l/\Region.noSelect ops=true/\T.contains i=false/\∀t,T.contains t=true→∃f,OD ops f t i=true:=by
 unfold headB at h;simp only [Bool.and_eq_true,Bool.not_eq_true']at h;obtain⟨⟨⟨h1,h2⟩,h3⟩,h4⟩:=h;refine⟨fun j o ho hl e he hb=>?_,h1,h2,fun t ht=>⟨_,List.all_eq_true.1 h3 t (by simpa using ht)⟩⟩;have h7:=List.all_eq_true.1 h4 j (List.mem_range.2 (Array.getElem?_eq_some_iff.1 ho).1);rw [hl,ho]at h7;simp only [Bool.not_true,Bool.false_or]at h7;have h9:=Array.all_eq_true'.1 h7 e he;rw [hb]at h9
 simpa using h9
theorem Bz{l0:List Oper}{i:Nat}{oi:Oper}{v:Value}{f:Nat}{l:Array Bool}{a:Act}{w:World}(hi:l0[i]?=some oi)(hb:(headB l0.toArray T i l&&Region.free .any l0.toArray l i&&(Region.ready .any l0.toArray l).contains i)=true)
  (hQ:∀c a w,Q (.panic c) (a.put oi.dst v) w→Q (.panic c) a w) (hS:S w) (hw:Region.wanted oi (yielded l0.toArray a.tmps)=true) (hy:∀w,S w→(execOp a.eval oi).run P w=.ok (.value v) w)
  (h:Jq P l0.toArray Q S T f (l.setIfInBounds i true) (a.put oi.dst v) w):Jq P l0.toArray Q S T (f+1) l a w:=by
 simp only [Bool.and_eq_true]at hb;obtain⟨⟨h1,h3⟩,h4⟩:=hb;obtain⟨inv,k1,k2,k3⟩:=AbP h1;have hi':l0.toArray[i]?=some oi:=(by simpa using hi);exact AhG k2 k3 hi' (Region.noSelect_spec k1) hQ f l a w inv (Region.free_spec hi' h3) (by simpa using h4) (.inl ⟨hw,hy⟩) hS h
theorem Ha{l0:List Oper}{i:Nat}{oi:Oper}{f:Nat}{l:Array Bool}{a:Act}{w:World}(hi:l0[i]?=some oi)(hr:Region.ready .any l0.toArray l = [i])
  (h:∀K:Act→World→Prop,Hid (∀a w,(T.contains i=false→S w)→((T.contains i=false→S w)→Jq P l0.toArray Q S T f (l.setIfInBounds i true) a w)→K a w)→if Region.wanted oi (yielded l0.toArray a.tmps)=true then Oper.wp P oi a w K Q else K (a.put oi.dst undef) w):Jq P l0.toArray Q S T (f+1) l a w:=by
 refine⟨fun h0=>(by rw [hr]at h0;cases h0),fun j hj=>?_⟩;rw [hr]at hj;obtain rfl:j=i:=(by simpa using hj);exact wpOp_step (by simpa using hi) (fun K hK=>h K (Lib.hid fun a w h1 h2=>hK a w ⟨h1,h2 h1⟩))
theorem Wt{l:Array Bool}{a:Act}{w:World}(hr:Region.ready .any ops l = [])(h:Q .normal a w):∀f,Jq P ops Q S T f l a w
 | 0=>⟨hr,h⟩
 | _+1=>⟨fun _=>h,by rw [hr];simp⟩
theorem bV{id:Nat}{a:Act}{w:World}(hm:P.follows .mixedOrders=true)(hS:S w.drew)(h:S w.drew→Jq P ops Q S T ops.size (Array.replicate ops.size false) a w.drew):(Code.region id ops true).wp P Q a w:=
 wp_region_any hm (ej _ _ _ _ (h hS))
end
end Go.Proofs.YtnfedbopbcegjaaGreatDoor
namespace Go.Proofs.YtnfedbopbcegjaaGreatDoor
open Go.RowKit Kl
def Agg{α:Type} : Result α→World
 | .ok _ w=>w
 | .halt _ w=>w
theorem rb{α:Type}(a:Ask α):∀(w:World),w.drawn<=(w.ask a).2.drawn:=by
 induction a with
 | done a=>intro w;exact AjN _
 | ask what range k ih=>
  intro w;unfold World.ask;simp only []
  split
  ·exact ih _ _
  ·exact AjX (Nat.le_succ w.drawn) (ih _ {w with drawn:=w.drawn+1})
theorem Ahh(w:World)(c:Sys):w.drawn<=(w.sys c).2.drawn:=by
 have h:=rb (Kernel.perform c w.os) w;unfold World.sys
 split
 ·exact AjN _
 ·rename_i r os w' _ he
  rw [he]at h;exact h
theorem Aaj{ε α β:Type}{x:Except ε α}{f:α→Except ε β}{y:β}(h:(x >>= f)=.ok y):∃a,x=.ok a/\f a=.ok y:=by
 cases x with
 | error e=>cases h
 | ok a=>exact⟨a,rfl,h⟩
theorem Ah1{p:Program}{w w':World}{a:Addr}{u:TypeId}{k:Addr}{v:Value}{at_:Bool}{l:List Addr}(h:w.viewStore p a u k v at_=.ok (w',l)):w'.drawn=w.drawn:=by
 unfold World.viewStore at h;simp only []at h
 repeat' first
  | (cases h;done)
  | (simp only [pure,Except.pure,Except.ok.injEq,Prod.mk.injEq]at h;obtain⟨rfl,_⟩:=h;rfl)
  | (obtain⟨_,_,h⟩:=Aaj h)
  | split at h
theorem Aav{p:Program}{w w':World}{a:Addr}{v:Value}{at_:Bool}{l:List Addr}(h:w.farStore p a v at_=.ok (w',l)):w'.drawn=w.drawn:=by
 unfold World.farStore at h
 split at h
 ·split at h
  ·rename_i hv;simp only [Except.ok.injEq]at h;subst h;exact Ah1 hv
  ·cases h
 ·cases h
theorem yH (p : Program) {α : Type} (s : Sem α) : ∀ (w : World), w.drawn ≤ (Agg (s.run p w)).drawn := by
  induction s with
  | pure a => intro w; exact AjN _
  | load m a k ih => intro w; simp only [Sem.run]; (repeat' split) <;> first | exact ih _ _ | exact AjN _
  | store m a v k ih =>
    intro w
    cases v <;> simp only [Sem.run] <;> first
      | exact AjN _
      | (split
         · split
           · exact AjN _
           · exact ih (w.setCell a _)
         · split
           · rename_i hf; rw [← Aav hf]; exact ih _
           · exact AjN _)
  | new o k ih => intro w; simp only [Sem.run]; exact ih w.heap.size { w with heap := w.heap.push o }
  | shape r k ih => intro w; simp only [Sem.run]; exact ih _ _
  | freeze a n k ih =>
    intro w; simp only [Sem.run]
    refine AjX (Nat.le_of_eq ?_) (ih (w.freeze a n))
    unfold World.freeze; split <;> rfl
  | frozen a k ih => intro w; simp only [Sem.run]; exact ih _ _
  | getObj r k ih => intro w; simp only [Sem.run]; split <;> first | exact ih _ _ | exact AjN _
  | setObj r o k ih => intro w; simp only [Sem.run]; split <;> first | exact ih { w with heap := w.heap.setIfInBounds r o } | exact AjN _
  | choose q k ih => intro w; simp only [Sem.run]; split <;> first | exact ih _ _ | exact AjX (Nat.le_succ w.drawn) (ih _ { w with drawn := w.drawn + 1 })
  | sys c k ih => intro w; simp only [Sem.run]; exact AjX (Ahh w c) (ih _ _)
  | program k ih => intro w; simp only [Sem.run]; exact ih _ _
  | mark m k ih => intro w; simp only [Sem.run]; exact ih _
  | halt h => intro w; exact AjN _
theorem FY{p:Program}{α:Type}{s:Sem α}{w w':World}{a:α}(h:s.run p w=.ok a w'):w.drawn<=w'.drawn:=by
 have:=yH p s w;rw [h]at this;exact this
theorem UW{p:Program}{α:Type}{s:Sem α}{w w':World}{a:Halt}(h:s.run p w=.halt a w'):w.drawn<=w'.drawn:=by
 have:=yH p s w;rw [h]at this;exact this
theorem Rp{p:Program}{α:Type}{s:Sem α}{w w':World}{a:α}{es es':Array Event}(h:s.runT p w es=(.ok a w',es')):w.drawn<=w'.drawn:=by
 have e:=Sem.runT_fst p s w es;rw [h]at e;exact FY e.symm
theorem aI{p:Program}{α:Type}{s:Sem α}{w w':World}{a:Halt}{es es':Array Event}(h:s.runT p w es=(.halt a w',es')):w.drawn<=w'.drawn:=by
 have e:=Sem.runT_fst p s w es;rw [h]at e;exact UW e.symm
theorem UV{p:Program}{α:Type}{s:Sem α}{w w':World}{a:α}{es:Array Event}(h:(s.runT p w es).1=.ok a w'):w.drawn<=w'.drawn:=FY ((Sem.runT_fst p s w es).symm.trans h)
theorem yF{p:Program}{α:Type}{s:Sem α}{w w':World}{a:Halt}{es:Array Event}(h:(s.runT p w es).1=.halt a w'):w.drawn<=w'.drawn:=UW ((Sem.runT_fst p s w es).symm.trans h)
def C9(w:World):GStep→Prop
 | .go _ w' _=>w.drawn<=w'.drawn
 | .comm _ _ _ _ w' _=>w.drawn<=w'.drawn
 | .spawn _ _ w' _=>w.drawn<=w'.drawn
 | .count _ w' _=>w.drawn<=w'.drawn
 | .timer _ _ w' _=>w.drawn<=w'.drawn
 | .alone _ _ w' _=>w.drawn<=w'.drawn
 | .newcoro _ _ _ w' _=>w.drawn<=w'.drawn
 | .coroswitch _ _ _ w' _=>w.drawn<=w'.drawn
 | .collect _ w' _=>w.drawn<=w'.drawn
 | .watch _ w' _=>w.drawn<=w'.drawn
 | .ended _ _ _=>True
theorem Jh{w:World}{es:Array Event}{g:GStep}(h:C9 w g):C9 w (GStep.after es g):=by cases g<;>exact h
theorem Fq{w w':World}{g:GStep}(h:w.drawn<=w'.drawn)(k:C9 w' g):C9 w g:=by
 cases g<;>first|exact AjX h k|trivial
theorem AeG(fr:Frame)(l:List ByteArray)(m:String)(b:Bool)(w:World):C9 w (dieOf fr l m b w):=AjN _
theorem UL(fr:Frame)(m:String)(w:World):C9 w (endThrow fr m w):=AjN _
theorem AeH(w:World)(fd:Nat)(t:ByteArray)(o:Outcome):C9 w (endWith w fd t o):=by
 unfold endWith;simp only []
 repeat' first
  | trivial
  | split
theorem ZJ(p:Program)(fr:Frame)(v:Value)(w:World):C9 w (endPrinting p fr v w):=by
 unfold endPrinting;simp only []
 repeat' first
  | trivial
  | exact UL _ _ _
  | split
theorem vN(p:Program)(fr:Frame)(cs:List Frame)(d:Option Dying)(m:String)(w:World):C9 w (endFatal p fr cs d m w):=by
 unfold endFatal;simp only []
 repeat' first
  | trivial
  | (rename_i h;exact Fq (FY h) (AeG _ _ _ _ _))
  | split
theorem AeN(p:Program)(fr:Frame)(d:Dying)(f:Fatal)(w:World):C9 w (writeOn p fr d f w):=by
 unfold writeOn;simp only []
 repeat' first
  | trivial
  | (rename_i h;exact Rp h)
  | (rename_i h;exact aI h)
  | split
theorem AeF(p:Program)(fr:Frame)(d:Dying)(w:World):C9 w (die p fr d w):=by
 unfold die;simp only []
 repeat' first
  | trivial
  | exact AeN _ _ _ _ _
  | exact AeH _ _ _ _
  | exact AjN _
  | (rename_i h;exact FY h)
  | (rename_i h;exact Rp h)
  | (rename_i h;exact Fq (aI h) (ZJ _ _ _ _))
  | (rename_i h;exact Jh (UV h))
  | (rename_i h;exact Jh (Fq (yF h) (ZJ _ _ _ _)))
  | split
theorem AeJ{w:World}{c:Prop}[Decidable c]{a b:GStep}(ha:C9 w a)(hb:C9 w b):C9 w (if c then a else b):=by split<;>assumption
theorem ZK(p:Program)(b:Bool)(fr:Frame)(cs:List Frame)(d:Option Dying)(v:Value)(w:World):C9 w (doReturn p b fr cs d v w):=by
 unfold doReturn;simp only []
 repeat' first
  | trivial
  | exact AjN _
  | split
theorem AeE(p:Program)(fr:Frame)(cs:List Frame)(dy:Option Dying)(d:Deferred)(w:World):C9 w (callDeferred p fr cs dy d w):=by
 unfold callDeferred;refine AeJ trivial ?_
 ·generalize hx:(invoke d.target d.args).runT p w #[]=x;obtain⟨r,es⟩:=x;simp only [];refine Jh ?_
  cases r with
  | ok a w'=>
   have hd:=Rp hx
   cases a<;>(try simp only [])<;>repeat' first
    | trivial
    | exact hd
    | (injections;done)
    | (injections;subst_vars;exact hd)
    | split
  | halt h w'=>
   have hd:=aI hx
   cases h<;>(try simp only [])<;>repeat' first
    | trivial
    | exact hd
    | (injections;done)
    | (injections;subst_vars;exact hd)
    | exact Fq hd (vN _ _ _ _ _ _)
    | exact Fq hd (UL _ _ _)
    | split
theorem ZI(p:Program)(fr:Frame)(cs:List Frame)(d:Option Dying)(g:Nat)(w:World):C9 w (early p fr cs d g w):=by
 unfold early;simp only []
 repeat' first
  | trivial
  | exact AjN _
  | (refine Fq (FY (by assumption)) ?_)
  | split
theorem AeM (p : Program) (b : Bool) (fr : Frame) (cs : List Frame) (d : Option Dying) (w : World) : C9 w (unwind p b fr cs d w) := by
  unfold unwind
  split
  · generalize hx : (Instr.takeDeferred _).runT p w #[] = x
    obtain ⟨r, es⟩ := x
    simp only []
    refine Jh ?_
    cases r with
    | ok a w' => exact Rp hx
    | halt h w' => trivial
  · exact AeE _ _ _ _ _ _
  · repeat' first
      | trivial
      | exact AjN _
      | (rename_i h; exact FY h)
      | exact ZJ _ _ _ _
      | exact ZK _ _ _ _ _ _ _
      | (generalize hx : (results _ _).runT p w #[] = x
         obtain ⟨r, es⟩ := x
         simp only []
         refine Jh ?_
         cases r with
         | ok a w' => exact Fq (Rp hx) (ZK _ _ _ _ _ _ _)
         | halt h w' => cases h <;> trivial)
      | split
theorem UK(p:Program)(b:Bool)(fr:Frame)(cs:List Frame)(d:Option Dying)(s:Sem Next)(w:World):C9 w (stepG.apply p b fr cs d s w):=by
 unfold stepG.apply
 have hr:(if b=true then s.runT p w #[] else (s.run p w,#[])).1=s.run p w:=by
  split
  ·exact Sem.runT_fst p s w #[]
  ·rfl
 generalize hx:(if b=true then s.runT p w #[] else (s.run p w,#[]))=x at hr;obtain⟨r,es⟩:=x;simp only []at hr;simp only [];refine Jh ?_
 cases r with
 | ok a w'=>
  have hd:=FY hr.symm
  cases a<;>(try simp only [])<;>repeat' first
   | trivial
   | exact hd
   | (injections;done)
   | (injections;subst_vars;exact hd)
   | (injections;subst_vars;exact Fq hd (ZI _ _ _ _ _ _))
   | exact Fq hd (UL _ _ _)
   | split
 | halt h w'=>
  have hd:=UW hr.symm
  cases h<;>(try simp only [])<;>repeat' first
   | trivial
   | exact hd
   | (injections;done)
   | (injections;subst_vars;exact hd)
   | (injections;subst_vars;exact Fq hd (ZI _ _ _ _ _ _))
   | exact Fq hd (vN _ _ _ _ _ _)
   | exact Fq hd (UL _ _ _)
   | exact Fq hd (ZI _ _ _ _ _ _)
   | split
theorem AeK(p:Program)(b:Bool)(fr:Frame)(cs:List Frame)(d:Option Dying)(w:World):C9 w (stepG.oper p b fr cs d w):=by
 unfold stepG.oper
 split
 ·trivial
 ·split<;>exact UK _ _ _ _ _ _ _
theorem vM{α:Type}{w:World}(o:Option α)(a:GStep)(f:α→GStep)(ha:C9 w a)(h:∀x,C9 w (f x)):C9 w (o.elim a f):=by
 cases o
 ·exact ha
 ·exact h _
theorem AeI(p:Program)(m b:Bool)(fr:Frame)(cs:List Frame)(d:Option Dying)(w:World):C9 w (stepG.exec p m b fr cs d w):=by
 unfold stepG.exec;simp only []
 split
 all_goals repeat' first
  | trivial
  | exact AjN _
  | exact AeK _ _ _ _ _ _
  | exact UK _ _ _ _ _ _ _
  | (rename_i h;exact FY h)
  | refine vM _ _ _ ?_ (fun _=>AjN _)
  | exact vM _ _ _ trivial (fun _=>UK _ _ _ _ _ _ _)
  | (rename_i h;exact Jh (Fq (UV h) (ZK _ _ _ _ _ _ _)))
  | (rename_i h;exact Jh (Fq (UV h) (UK _ _ _ _ _ _ _)))
  | (rename_i h;exact Jh (UV h))
  | (rename_i h;exact Jh (yF h))
  | split
theorem AeL(p:Program)(m:Bool)(g:Goroutine)(w:World)(b:Bool):C9 w (stepG p m g w b):=by
 obtain⟨fr,callers,status,dying,offers⟩:=g;simp only [stepG]
 split
 ·exact AeF _ _ _ _
 ·exact AeI _ _ _ _ _ _ _
 ·exact AeM _ _ _ _ _ _
/-! ### The machine -/
def LJ(w:World):Stepped→Prop
 | .next m=>w.drawn<=m.world.drawn
 | .ended _ _=>True
theorem MX{w w':World}{g:Stepped}(h:w.drawn<=w'.drawn)(k:LJ w' g):LJ w g:=by
 cases g<;>first|exact AjX h k|trivial
def Ra(w:World):Move→Prop
 | .goroutine m _=>w.drawn<=m.world.drawn
 | .machine s _=>LJ w s
theorem Rb{w w':World}{g:Move}(h:w.drawn<=w'.drawn)(k:Ra w' g):Ra w g:=by
 cases g
 ·exact AjX h k
 ·exact MX h k
theorem AhA{rest:Rest}{cases:Array CommCase}{w w':World}(h:waitingAt rest cases w=some w'):w'.drawn=w.drawn:=by
 unfold waitingAt at h
 repeat' first
  | (cases h;done)
  | (simp only [AjR]at h;subst h;rfl)
  | split at h
theorem AeQ(p:Program)(rest:Rest)(gs:Array Goroutine)(i:Nat)(g:Goroutine)(cases:Array CommCase)(b:Bool)(shape:CommShape)(w:World):LJ w (communicate p rest gs i g cases b shape w).1:=by
 unfold communicate;simp only []
 repeat' first
  | trivial
  | exact AjN _
  | (refine MX (FY (by assumption)) ?_)
  | (refine MX (UW (by assumption)) ?_)
  | (rename_i h;exact Nat.le_of_eq (AhA h).symm)
  | split
theorem vR(p:Program)(gs:Array Goroutine)(rest:Rest)(w:World):LJ w (look p gs rest w):=by
 unfold look;simp only []
 repeat' first
  | trivial
  | exact AjN _
  | (refine MX (FY (by assumption)) ?_)
  | split
theorem AeS(p:Program)(m:Machine)(k:Nat):LJ m.world (serve p m k):=by
 unfold serve;simp only []
 repeat' first
  | trivial
  | exact AjN _
  | split
theorem Ahk{m m':Machine}{op:TimerOp}{v:Value}(h:timerOp m op=.ok (v,m')):m'.world.drawn=m.world.drawn:=by
 have hd:∀(w:World) (c:Nat),(drain w c).2.drawn=w.drawn:=by intro w c;unfold drain;split<;>rfl
 have hr:∀(m:Machine) (k:Nat) (t:Timer) (a b:Nat),(retime m k t a b).2.world.drawn=m.world.drawn:=by
  intro m k t a b;unfold retime
  cases t.chan with
  | none=>rfl
  | some c=>exact hd _ _
 have hn:∀(m m0:Machine) (var:Addr) (f:Nat→Timer→Value×Machine),(∀k t,(f k t).2.world.drawn=m0.world.drawn)→∀{v m'},timerOp.named m var f=.ok (v,m')→m'.world.drawn=m0.world.drawn:=by
  intro m m0 var f hf v m' h;unfold timerOp.named at h
  split at h
  ·simp only [Except.ok.injEq]at h;have:=hf (by assumption) (m.rest.timers.getD (by assumption) default);rw [h]at this;exact this
  ·cases h
 have ho:∀{m m':Machine} {var:Addr},timerOp.opened m var=some m'→m'.world.drawn=m.world.drawn:=by
  intro m m' var h;unfold timerOp.opened at h
  repeat' first
   | (cases h;done)
   | (simp only [AjR]at h;subst h;rfl)
   | split at h
 unfold timerOp at h;simp only []at h
 repeat' first
  | (cases h;done)
  | (simp only [Except.ok.injEq,Prod.mk.injEq]at h;obtain⟨_,rfl⟩:=h;rfl)
  | exact hn _ _ _ _ (fun k t=>hr _ _ _ _ _) h
  | (rename_i h1;exact(hn _ _ _ _ (fun k t=>hr _ _ _ _ _) h).trans (ho h1))
  | split at h
theorem AeR(p:Program)(m:Machine)(i:Nat)(b:Bool):LJ m.world (runT p m i b).1:=by
 simp only [runT];generalize m.gs.swapAt! _ _=gg;have hs:=AeL p (i == 0) gg.1 m.world b
 revert hs
 generalize stepG p _ gg.1 m.world b=s;intro hs
 cases s<;>simp only [C9]at hs<;>(try simp only [])
 all_goals repeat' first
  | trivial
  | exact hs
  | exact MX hs (AeQ _ _ _ _ _ _ _ _ _)
  | exact MX hs (vR _ _ _ _)
  | (rename_i h;exact AjX hs (Nat.le_of_eq (Ahk h).symm))
  | split
theorem oh{p:Program}{α:Type}{s:Sem α}{W w':World}{gs:Array Goroutine}{rest:Rest}{t:Nat}{a:α}(h:s.run p (Machine.advanceTo ⟨W,gs,rest⟩ t).world=.ok a w'):W.drawn<=w'.drawn:=by have:=FY h;exact this
theorem ZL(p:Program)(m:Machine):Ra m.world (askOn p m):=by
 unfold askOn;simp only []
 repeat' first
  | trivial
  | exact AjN _
  | exact AeS _ _ _
  | (refine Rb (FY (by assumption)) ?_)
  | (refine Rb (oh (by assumption)) ?_)
  | split
theorem vP(p:Program)(m:Machine):Ra m.world (ask p m):=by
 unfold ask
 split
 ·split
  ·trivial
  ·refine Rb (FY (by assumption)) ?_;have:=vR p m.gs m.rest (by assumption)
   split
   ·rename_i h;rw [h]at this;exact Rb this (ZL _ _)
   ·rename_i e _;cases e<;>first|exact absurd rfl (by assumption)|trivial
  ·exact Rb (FY (by assumption)) (ZL _ _)
 ·exact ZL _ _
theorem AeO(p:Program)(m:Machine):Ra m.world (move p m):=by
 unfold move
 repeat' first
  | trivial
  | exact AjN _
  | exact vP p _
  | exact vP p {m with rest:={m.rest with slice:=none}}
  | split
theorem AeT(p:Program)(m:Machine):LJ m.world (step p m):=by
 have hm:=AeO p m;unfold step stepT
 cases h:move p m with
 | goroutine m1 i=>rw [h]at hm;exact MX hm (AeR p m1 i true)
 | machine s ops=>rw [h]at hm;exact hm
theorem yE(p:Program):∀(n:Nat) (m m':Machine),runN p n m=.next m'→m.world.drawn<=m'.world.drawn
 | 0,m,m',h=>by simp only [runN,Stepped.next.injEq]at h;rw [h];exact AjN _
 | n+1,m,m',h=>by
  have hs:=AeT p m;unfold runN at h
  cases h1:step p m with
  | next m1=>rw [h1]at h hs;exact AjX hs (yE p n m1 m' h)
  | ended o w=>rw [h1]at h;cases h
theorem Steps.drawn{P:Program}{m m':Machine}(h:Steps P m m'):m.world.drawn<=m'.world.drawn:=by
 obtain⟨n,hn⟩:=h;exact yE P n m m' hn
theorem Calls.drawn{P:Program}{f:FuncId}{args:Array Value}{w:World}{R:Ending→World→Prop}(h:Calls P f args w R)(hr:∀e w',R e w'→∃v,e=.returned v):Calls P f args w fun e w'=>R e w'/\w.drawn<=w'.drawn:=by
 intro cs;obtain⟨e,w',fr,h1,h2,h3⟩:=h cs;obtain⟨v,rfl⟩:=hr e w' h1;exact⟨_,w',fr,⟨h1,Steps.drawn h2⟩,h2,h3⟩
theorem Aa.grow{w w':World}(h:Aa w w')(hd:w.drawn<=w'.drawn):∃q os,w'=Go.Sort.grow (w.drewN q) os:=by
 refine⟨w'.drawn-w.drawn,w'.heap.extract w.heap.size w'.heap.size,?_⟩
 have hh:w.heap++w'.heap.extract w.heap.size w'.heap.size=w'.heap:=by
  apply Array.ext_getElem?;intro i;rw [Array.getElem?_append]
  split
  ·rename_i hi;exact(h.block i hi).symm
  ·rename_i hi
   rw [Array.getElem?_extract]
   split
   ·congr 1;omega
   ·rw [Array.getElem?_eq_none (by omega)]
 have h1:=h.os;have h2:=h.tape;have h3:=h.output;unfold Go.Sort.grow World.drewN;simp only;rw [hh,Nat.add_sub_of_le hd,←h1,←h2,←h3]
end Go.Proofs.YtnfedbopbcegjaaGreatDoor
