/- J04: SortL ShelfD RL LP Draw. -/
import Derived.Shelf.SlLaysF0
import Derived.Shelf.Small.Bits
import Derived.Shelf.Small.Strs
import Derived.Shelf.Small.Wraps
import Derived.Shelf.Strconv.Itoa3
import Derived.Shelf.Strconv.ErrVar
import Derived.Shelf.Strconv.ErrVarAll
import Derived.Shelf.Strconv.ParseInt10All
import Derived.Shelf.Pu.ErrVarParseUint
import Derived.Shelf.Strings.Shaped
import Derived.Shelf.Bits.Mul64
import Derived.Shelf.Strings.BuilderCap
import Derived.Shelf.Slices.Turned
import Derived.Shelf.Slices.Clone
import Derived.Shelf.Slices.Delete
import Derived.StillTail
import Derived.OrdersHeld
import Derived.Test.YtnddllipjippnaaGreatDoorJ02
namespace Go.Proofs
open Go.Shelf
def Tryz.laysSortSg_ren:Go.Shelf.Ren:=⟨fun|6=>139|15=>183|14=>185|28=>231|29=>232|20=>233|21=>234|22=>235|23=>236|24=>237|25=>238|26=>239|27=>240|46=>273|47=>269|48=>270|49=>274|50=>275|57=>296|n=>n,fun|22=>143|24=>140|25=>148|3=>3|39=>105|0=>0|53=>176|55=>179|4=>4|46=>282|45=>281|50=>131|5=>5|9=>9|66=>318|70=>322|76=>339|77=>340|n=>n,fun|n=>n⟩
theorem Tryz.laysSortSg:Go.Proofs.SlLaysF0.n6 Tryz.prog Tryz.laysSortSg_ren:={
 mixed:=by kernel_rfl
 f6:=⟨Tryz.f139.name,by decide,Tryz.func139.trans (congrArg some (by kernel_rfl))⟩
 f14:=⟨Tryz.f185.name,by decide,Tryz.func185.trans (congrArg some (by kernel_rfl))⟩
 f15:=Tryz.func183.trans (congrArg some (by kernel_rfl))
 f20:=⟨Tryz.f233.name,by decide,Tryz.func233.trans (congrArg some (by kernel_rfl))⟩
 f21:=⟨Tryz.f234.name,by decide,Tryz.func234.trans (congrArg some (by kernel_rfl))⟩
 f22:=⟨Tryz.f235.name,by decide,Tryz.func235.trans (congrArg some (by kernel_rfl))⟩
 f23:=⟨Tryz.f236.name,by decide,Tryz.func236.trans (congrArg some (by kernel_rfl))⟩
 f24:=⟨Tryz.f237.name,by decide,Tryz.func237.trans (congrArg some (by kernel_rfl))⟩
 f25:=⟨Tryz.f238.name,by decide,Tryz.func238.trans (congrArg some (by kernel_rfl))⟩
 f26:=⟨Tryz.f239.name,by decide,Tryz.func239.trans (congrArg some (by kernel_rfl))⟩
 f27:=⟨Tryz.f240.name,by decide,Tryz.func240.trans (congrArg some (by kernel_rfl))⟩
 f28:=Tryz.func231.trans (congrArg some (by kernel_rfl))
 f29:=Tryz.func232.trans (congrArg some (by kernel_rfl))
 f46:=⟨Tryz.f273.name,by decide,Tryz.func273.trans (congrArg some (by kernel_rfl))⟩
 f47:=Tryz.func269.trans (congrArg some (by kernel_rfl))
 f48:=Tryz.func270.trans (congrArg some (by kernel_rfl))
 f49:=⟨Tryz.f274.name,by decide,Tryz.func274.trans (congrArg some (by kernel_rfl))⟩
 f50:=⟨Tryz.f275.name,by decide,Tryz.func275.trans (congrArg some (by kernel_rfl))⟩
 f57:=⟨Tryz.f296.name,by decide,Tryz.func296.trans (congrArg some (by kernel_rfl))⟩
 t0:=Tryz.underlying0
 a0:=Tryz.isAgg0
 z0:=Tryz.sizeOf0
 v0:=Tryz.zeroValue0
 t3:=Tryz.underlying3
 a3:=Tryz.isAgg3
 z3:=Tryz.sizeOf3
 v3:=Tryz.zeroValue3
 t4:=Tryz.underlying4
 a4:=Tryz.isAgg4
 z4:=Tryz.sizeOf4
 v4:=Tryz.zeroValue4
 t5:=Tryz.underlying5
 a5:=Tryz.isAgg5
 z5:=Tryz.sizeOf5
 v5:=Tryz.zeroValue5
 t9:=Tryz.underlying9
 a9:=Tryz.isAgg9
 z9:=Tryz.sizeOf9
 v9:=Tryz.zeroValue9
 t22:=Tryz.underlying143
 a22:=Tryz.isAgg143
 z22:=Tryz.sizeOf143
 v22:=Tryz.zeroValue143
 t25:=Tryz.underlying148
 a25:=Tryz.isAgg148
 z25:=Tryz.sizeOf148
 v25:=Tryz.zeroValue148
 t39:=Tryz.underlying105
 a39:=Tryz.isAgg105
 z39:=Tryz.sizeOf105
 v39:=Tryz.zeroValue105
 t45:=Tryz.underlying281
 a45:=Tryz.isAgg281
 z45:=Tryz.sizeOf281
 v45:=Tryz.zeroValue281
 t46:=Tryz.underlying282
 a46:=Tryz.isAgg282
 z46:=Tryz.sizeOf282
 v46:=Tryz.zeroValue282
 t50:=Tryz.underlying131
 a50:=Tryz.isAgg131
 z50:=Tryz.sizeOf131
 v50:=Tryz.zeroValue131
 t53:=Tryz.underlying176
 a53:=Tryz.isAgg176
 z53:=Tryz.sizeOf176
 v53:=Tryz.zeroValue176
 t55:=Tryz.underlying179
 a55:=Tryz.isAgg179
 z55:=Tryz.sizeOf179
 v55:=Tryz.zeroValue179
 t66:=Tryz.underlying318
 a66:=Tryz.isAgg318
 z66:=Tryz.sizeOf318
 v66:=Tryz.zeroValue318
 t70:=Tryz.underlying322
 a70:=Tryz.isAgg322
 z70:=Tryz.sizeOf322
 v70:=Tryz.zeroValue322
 t76:=Tryz.underlying339
 a76:=Tryz.isAgg339
 z76:=Tryz.sizeOf339
 v76:=Tryz.zeroValue339
 t77:=Tryz.underlying340
 a77:=Tryz.isAgg340
 z77:=Tryz.sizeOf340
 v77:=Tryz.zeroValue340}
def Tryz.laysSortPt_ren:Go.Shelf.Ren:=⟨fun|6=>135|15=>183|14=>182|28=>231|29=>232|20=>223|21=>224|22=>225|23=>226|24=>227|25=>228|26=>229|27=>230|46=>268|47=>269|48=>270|49=>271|50=>272|57=>295|n=>n,fun|22=>31|24=>24|25=>149|3=>3|39=>105|0=>0|53=>176|55=>179|4=>4|46=>282|45=>281|50=>131|5=>5|9=>9|66=>318|70=>322|76=>339|77=>340|n=>n,fun|n=>n⟩
theorem Tryz.laysSortPt:Go.Proofs.SlLaysF0.n6 Tryz.prog Tryz.laysSortPt_ren:={
 mixed:=by kernel_rfl
 f6:=⟨Tryz.f135.name,by decide,Tryz.func135.trans (congrArg some (by kernel_rfl))⟩
 f14:=⟨Tryz.f182.name,by decide,Tryz.func182.trans (congrArg some (by kernel_rfl))⟩
 f15:=Tryz.func183.trans (congrArg some (by kernel_rfl))
 f20:=⟨Tryz.f223.name,by decide,Tryz.func223.trans (congrArg some (by kernel_rfl))⟩
 f21:=⟨Tryz.f224.name,by decide,Tryz.func224.trans (congrArg some (by kernel_rfl))⟩
 f22:=⟨Tryz.f225.name,by decide,Tryz.func225.trans (congrArg some (by kernel_rfl))⟩
 f23:=⟨Tryz.f226.name,by decide,Tryz.func226.trans (congrArg some (by kernel_rfl))⟩
 f24:=⟨Tryz.f227.name,by decide,Tryz.func227.trans (congrArg some (by kernel_rfl))⟩
 f25:=⟨Tryz.f228.name,by decide,Tryz.func228.trans (congrArg some (by kernel_rfl))⟩
 f26:=⟨Tryz.f229.name,by decide,Tryz.func229.trans (congrArg some (by kernel_rfl))⟩
 f27:=⟨Tryz.f230.name,by decide,Tryz.func230.trans (congrArg some (by kernel_rfl))⟩
 f28:=Tryz.func231.trans (congrArg some (by kernel_rfl))
 f29:=Tryz.func232.trans (congrArg some (by kernel_rfl))
 f46:=⟨Tryz.f268.name,by decide,Tryz.func268.trans (congrArg some (by kernel_rfl))⟩
 f47:=Tryz.func269.trans (congrArg some (by kernel_rfl))
 f48:=Tryz.func270.trans (congrArg some (by kernel_rfl))
 f49:=⟨Tryz.f271.name,by decide,Tryz.func271.trans (congrArg some (by kernel_rfl))⟩
 f50:=⟨Tryz.f272.name,by decide,Tryz.func272.trans (congrArg some (by kernel_rfl))⟩
 f57:=⟨Tryz.f295.name,by decide,Tryz.func295.trans (congrArg some (by kernel_rfl))⟩
 t0:=Tryz.underlying0
 a0:=Tryz.isAgg0
 z0:=Tryz.sizeOf0
 v0:=Tryz.zeroValue0
 t3:=Tryz.underlying3
 a3:=Tryz.isAgg3
 z3:=Tryz.sizeOf3
 v3:=Tryz.zeroValue3
 t4:=Tryz.underlying4
 a4:=Tryz.isAgg4
 z4:=Tryz.sizeOf4
 v4:=Tryz.zeroValue4
 t5:=Tryz.underlying5
 a5:=Tryz.isAgg5
 z5:=Tryz.sizeOf5
 v5:=Tryz.zeroValue5
 t9:=Tryz.underlying9
 a9:=Tryz.isAgg9
 z9:=Tryz.sizeOf9
 v9:=Tryz.zeroValue9
 t22:=Tryz.underlying31
 a22:=Tryz.isAgg31
 z22:=Tryz.sizeOf31
 v22:=Tryz.zeroValue31
 t25:=Tryz.underlying149
 a25:=Tryz.isAgg149
 z25:=Tryz.sizeOf149
 v25:=Tryz.zeroValue149
 t39:=Tryz.underlying105
 a39:=Tryz.isAgg105
 z39:=Tryz.sizeOf105
 v39:=Tryz.zeroValue105
 t45:=Tryz.underlying281
 a45:=Tryz.isAgg281
 z45:=Tryz.sizeOf281
 v45:=Tryz.zeroValue281
 t46:=Tryz.underlying282
 a46:=Tryz.isAgg282
 z46:=Tryz.sizeOf282
 v46:=Tryz.zeroValue282
 t50:=Tryz.underlying131
 a50:=Tryz.isAgg131
 z50:=Tryz.sizeOf131
 v50:=Tryz.zeroValue131
 t53:=Tryz.underlying176
 a53:=Tryz.isAgg176
 z53:=Tryz.sizeOf176
 v53:=Tryz.zeroValue176
 t55:=Tryz.underlying179
 a55:=Tryz.isAgg179
 z55:=Tryz.sizeOf179
 v55:=Tryz.zeroValue179
 t66:=Tryz.underlying318
 a66:=Tryz.isAgg318
 z66:=Tryz.sizeOf318
 v66:=Tryz.zeroValue318
 t70:=Tryz.underlying322
 a70:=Tryz.isAgg322
 z70:=Tryz.sizeOf322
 v70:=Tryz.zeroValue322
 t76:=Tryz.underlying339
 a76:=Tryz.isAgg339
 z76:=Tryz.sizeOf339
 v76:=Tryz.zeroValue339
 t77:=Tryz.underlying340
 a77:=Tryz.isAgg340
 z77:=Tryz.sizeOf340
 v77:=Tryz.zeroValue340}
end Go.Proofs
namespace Go.Proofs
open Go.Shelf
def Tryz.laysNm224_ren:Go.Shelf.Ren:=⟨fun|24=>73|n=>n,fun|24=>33|9=>9|3=>3|4=>4|0=>0|n=>n,fun|n=>n⟩
theorem Tryz.laysNm224:Go.Proofs.Lays2.n24 Tryz.prog Tryz.laysNm224_ren:={
 mixed:=by kernel_rfl
 f24:=Tryz.func73.trans (congrArg some (by kernel_rfl))
 t0:=Tryz.underlying0
 a0:=Tryz.isAgg0
 z0:=Tryz.sizeOf0
 v0:=Tryz.zeroValue0
 t3:=Tryz.underlying3
 a3:=Tryz.isAgg3
 z3:=Tryz.sizeOf3
 v3:=Tryz.zeroValue3
 t4:=Tryz.underlying4
 a4:=Tryz.isAgg4
 z4:=Tryz.sizeOf4
 v4:=Tryz.zeroValue4
 t9:=Tryz.underlying9
 a9:=Tryz.isAgg9
 z9:=Tryz.sizeOf9
 v9:=Tryz.zeroValue9
 t24:=Tryz.underlying33
 a24:=Tryz.isAgg33
 z24:=Tryz.sizeOf33
 v24:=Tryz.zeroValue33
 i9:=by kernel_rfl}
open Go.RowKit Go.Lib Go.Sort in
theorem Tryz.slices_Delete_string(blk off cap i j:Nat)(zs:List (List UInt8))(w:World)(hH:Holds encStr w blk off zs.toArray)(AP:zs.length<=cap)(hm:cap<=9223372036854775807)(Bu:i<=j)(hj:j<=zs.length) :
  Calls Tryz.prog 73 #[.slice (some ⟨blk,off,none⟩) zs.length cap,.int .i64 i,.int .i64 j] w fun e w'=>e=.returned (.slice (some ⟨blk,off,none⟩) (zs.length-(j-i)) cap)/\∃q,w'=putRow encStr (Sort.ahead w q) blk off (zs.take i++zs.drop j++List.replicate (j-i) []).toArray:=Any.slices_Delete_string Tryz.laysNm224 blk off cap i j zs w hH AP hm Bu hj
end Go.Proofs
namespace Go.Proofs.YtnddllipjippnaaGreatDoor
open Go.RowKit
section
variable {P : Program} {ops : Array Oper} {Q : Exit → Act → World → Prop} {S : World → Prop} {T : List Nat}
def KL(P:Program)(ops:Array Oper)(Q:Exit→Act→World→Prop)(S:World→Prop)(T:List Nat):Nat→Array Bool→Act→World→Prop
 | 0,l,a,w=>Region.ready .any ops l = []/\Q .normal a w
 | f+1,l,a,w=>(Region.ready .any ops l = []→Q .normal a w)/\∀i∈Region.ready .any ops l,wpOp P ops Q i (fun a' w'=>(T.contains i=false→S w')/\KL P ops Q S T f (l.setIfInBounds i true) a' w') a w
theorem xh:∀(f:Nat) (l:Array Bool) (a:Act) (w:World),KL P ops Q S T f l a w→wpAny P .any ops Q f l a w
 | 0,_,_,_,h=>h
 | f+1,_,_,_,h=>⟨h.1,fun i hi=>wpOp_mono (fun a' w' h'=>xh f _ a' w' h'.2) (h.2 i hi)⟩
def Pi(ops:Array Oper)(l:Array Bool):Prop:=∀j o,ops[j]?=some o→l.getD j false=true→∀e∈o.after,Region.binds .any e=true→l.getD e.on false=true
def Rb(ops:Array Oper):Nat→Nat→Nat→Bool
 | 0,_,_=>false
 | f+1,t,i=>match ops[t]? with
  | some o=>o.after.any fun e=>Region.binds .any e && (e.on == i || Rb ops f e.on i)
  | none=>false
theorem qz{l:Array Bool}(hc:Pi ops l){i:Nat} : ∀(f t:Nat),Rb ops f t i=true→(∀o,ops[t]?=some o→∀e∈o.after,Region.binds .any e=true→l.getD e.on false=true)→l.getD i false=true
 | 0,_,h,_=>by cases h
 | f+1,t,h,hd=>by
  unfold Rb at h
  split at h
  ·rename_i o ho
   obtain⟨e,he,hb⟩:=Array.any_eq_true'.1 h;simp only [Bool.and_eq_true,Bool.or_eq_true,beq_iff_eq]at hb;have h1:=hd o ho e he hb.1
   rcases hb.2 with h2|h2
   ·rw [←h2];exact h1
   ·exact qz hc f e.on h2 (fun o' Qs e' he' hb'=>hc e.on o' Qs h1 e' he' hb')
  ·cases h
theorem Pi.set{l:Array Bool}{i:Nat}(h:Pi ops l)(hi:i∈Region.ready .any ops l):Pi ops (l.setIfInBounds i true):=by
 obtain⟨_,oi,hoi,hall⟩:=mem_ready.1 hi;intro j o ho hl e he hb
 have key:l.getD e.on false=true:=by
  by_cases Bu:i=j
  ·subst Bu;obtain rfl:o=oi:=Option.some.inj (ho.symm.trans hoi);exact hall e he hb
  ·rw [getD_set_ne false Bu]at hl;exact h j o ho hl e he hb
 by_cases T8:i=e.on
 ·subst T8
  have hlt:e.on<l.size:=by
   rcases Nat.lt_or_ge e.on l.size with h'|h'
   ·exact h'
   ·simp [Array.getElem?_eq_none h']at key
  simp [hlt]
 ·rw [getD_set_ne false T8];exact key
theorem AlU{i:Nat}(hT:T.contains i=false)(hreach:∀t,T.contains t=true→∃f,Rb ops f t i=true){oi:Oper}{v:Value}(hi:ops[i]?=some oi)(gi:∀(j:Nat) (o:Oper) cs b,ops[j]?=some o→o.op≠.select cs b)
  (hQ:∀c a w,Q (.panic c) (a.put oi.dst v) w→Q (.panic c) a w):∀(f:Nat) (l:Array Bool) (a:Act) (w:World),Pi ops l→
   (∀j oj,ops[j]?=some oj→j≠i→l.getD j true=false→(∀e∈oj.after,Region.binds .any e=true→e.on≠i)→oi.apart ops oj=true)→
   i∈Region.ready .any ops l→YieldsIf P ops S oi v a→S w→KL P ops Q S T f (l.setIfInBounds i true) (a.put oi.dst v) w→KL P ops Q S T (f+1) l a w:=by
 intro f
 induction f with
 | zero=>
  intro l a w inv _ hr hy hS H;refine⟨fun h=>(by rw [h]at hr;cases hr),fun j hj=>?_⟩;by_cases GV:j=i
  ·subst GV;exact hy.wpOp hi hS ⟨fun _=>hS,H⟩
  ·have:=ready_mono hj GV;rw [H.1]at this
   cases this
 | succ f ih=>
  intro l a w inv yX hr hy hS H;have AM:=(mem_ready.1 hr).1;refine⟨fun h=>(by rw [h]at hr;cases hr),fun j hj=>?_⟩;by_cases GV:j=i
  ·subst GV;exact hy.wpOp hi hS ⟨fun _=>hS,H⟩
  ·have h1:=H.2 j (ready_mono hj GV);obtain⟨zN,oj,Nx,hall⟩:=mem_ready.1 hj
   have hjT:T.contains j=false:=by
    cases e:T.contains j
    ·rfl
    ·obtain⟨f',hf'⟩:=hreach j e;have:=qz inv f' j hf' (fun o ho=>by obtain rfl:oj=o:=Option.some.inj (Nx.symm.trans ho);exact hall);rw [getD_both AM]at this
     cases this
   have AfO:∀e∈oj.after,Region.binds .any e=true→e.on≠i:=fun e he hb heq=>by
    have h2:=hall e he hb;rw [heq,getD_both AM]at h2
    cases h2
   have h2:=wpOp_putIf Nx (yX j oj Nx GV zN AfO) (fun cs b=>gi i oi cs b hi) (fun cs b=>gi j oj cs b Nx) hQ hy h1;refine wpOp_mono (fun a' w' h3=>⟨h3.2.1,ih (l.setIfInBounds j true) a' w' (inv.set hj) (fun k ok hk LD zT hno=>yX k ok hk LD ?_ hno) (ready_mono hr (Ne.symm GV)) h3.1 (h3.2.1 hjT) ?_⟩) h2
   ·by_cases hjk:j=k
    ·subst hjk;exact zN
    ·rw [getD_set_ne true hjk]at zT;exact zT
   ·rw [Array.setIfInBounds_comm _ _ GV];exact h3.2.2
def headB(ops:Array Oper)(T:List Nat)(i:Nat)(l:Array Bool):Bool:=
 Region.noSelect ops && !T.contains i&&T.all (fun t=>Rb ops ops.size t i)
  && (List.range ops.size).all (fun j=>!l.getD j false||match ops[j]? with|some o=>o.after.all (fun e=>!Region.binds .any e||l.getD e.on false)|none=>true)
theorem Afo{l:Array Bool}{i:Nat}(h:headB ops T i l=true):Pi ops l/\Region.noSelect ops=true/\T.contains i=false/\∀t,T.contains t=true→∃f,Rb ops f t i=true:=by
 unfold headB at h;simp only [Bool.and_eq_true,Bool.not_eq_true']at h;obtain⟨⟨⟨h1,h2⟩,h3⟩,h4⟩:=h;refine⟨fun j o ho hl e he hb=>?_,h1,h2,fun t ht=>⟨_,List.all_eq_true.1 h3 t (by simpa using ht)⟩⟩;have h7:=List.all_eq_true.1 h4 j (List.mem_range.2 (Array.getElem?_eq_some_iff.1 ho).1);rw [hl,ho]at h7;simp only [Bool.not_true,Bool.false_or]at h7;have h9:=Array.all_eq_true'.1 h7 e he;rw [hb]at h9
 simpa using h9
theorem Gh{l0:List Oper}{i:Nat}{oi:Oper}{v:Value}{f:Nat}{l:Array Bool}{a:Act}{w:World}(hi:l0[i]?=some oi)(hb:(headB l0.toArray T i l&&Region.free .any l0.toArray l i&&(Region.ready .any l0.toArray l).contains i)=true)
  (hQ:∀c a w,Q (.panic c) (a.put oi.dst v) w→Q (.panic c) a w) (hS:S w) (hw:Region.wanted oi (yielded l0.toArray a.tmps)=true) (hy:∀w,S w→(execOp a.eval oi).run P w=.ok (.value v) w)
  (h:KL P l0.toArray Q S T f (l.setIfInBounds i true) (a.put oi.dst v) w):KL P l0.toArray Q S T (f+1) l a w:=by
 simp only [Bool.and_eq_true]at hb;obtain⟨⟨h1,h3⟩,h4⟩:=hb;obtain⟨inv,k1,k2,k3⟩:=Afo h1;have hi':l0.toArray[i]?=some oi:=(by simpa using hi);exact AlU k2 k3 hi' (Region.noSelect_spec k1) hQ f l a w inv (Region.free_spec hi' h3) (by simpa using h4) (.inl ⟨hw,hy⟩) hS h
theorem OY{l0:List Oper}{i:Nat}{oi:Oper}{f:Nat}{l:Array Bool}{a:Act}{w:World}(hi:l0[i]?=some oi)(hr:Region.ready .any l0.toArray l = [i])
  (h:∀K:Act→World→Prop,Hid (∀a w,(T.contains i=false→S w)→((T.contains i=false→S w)→KL P l0.toArray Q S T f (l.setIfInBounds i true) a w)→K a w)→if Region.wanted oi (yielded l0.toArray a.tmps)=true then Oper.wp P oi a w K Q else K (a.put oi.dst undef) w):KL P l0.toArray Q S T (f+1) l a w:=by
 refine⟨fun h0=>(by rw [hr]at h0;cases h0),fun j hj=>?_⟩;rw [hr]at hj;obtain rfl:j=i:=(by simpa using hj);exact wpOp_step (by simpa using hi) (fun K hK=>h K (Lib.hid fun a w h1 h2=>hK a w ⟨h1,h2 h1⟩))
theorem Ads{l:Array Bool}{a:Act}{w:World}(hr:Region.ready .any ops l = [])(h:Q .normal a w):∀f,KL P ops Q S T f l a w
 | 0=>⟨hr,h⟩
 | _+1=>⟨fun _=>h,by rw [hr];simp⟩
theorem AlZ{id:Nat}{a:Act}{w:World}(hm:P.follows .mixedOrders=true)(hS:S w.drew)(h:S w.drew→KL P ops Q S T ops.size (Array.replicate ops.size false) a w.drew):(Code.region id ops true).wp P Q a w:=
 wp_region_any hm (xh _ _ _ _ (h hS))
end
end Go.Proofs.YtnddllipjippnaaGreatDoor
namespace Kl
def He(b:UInt8):Bool:=(decide (97<=b.toNat)&&decide (b.toNat<=122))||(decide (65<=b.toNat)&&decide (b.toNat<=90))
def H5(b:UInt8):Bool:=(decide (48<=b.toNat)&&decide (b.toNat<=57))||decide (b.toNat=95)
def nameB:Bs→Bool
 | []=>false
 | b::l=>decide (l.length < 32) && (He b && l.all (fun c=>He c || H5 c))
def Dg{α:Type}(p:α→Bool)(l:List α):Int:=match l.findIdx? p with|some j=>(j:Int)|none=>-1
theorem iS{α:Type}{p:α→Bool}{l:List α}{j:Nat}(hj:j<l.length)(hno:∀q∈l.take j,p q=false)(h:p l[j]=true):Dg p l=(j:Int):=by
 unfold Dg
 have:l.findIdx? p=some j:=by rw [List.findIdx?_eq_some_iff_getElem];refine⟨hj,h,fun i hi=>?_⟩;rw [Bool.not_eq_true];refine hno l[i] ?_;rw [List.mem_take_iff_getElem];exact⟨i,by omega,rfl⟩
 rw [this]
theorem iT{α:Type}{p:α→Bool}{l:List α}(hno:∀q∈l,p q=false):Dg p l = -1:=by
 unfold Dg
 have:l.findIdx? p=none:=by rw [List.findIdx?_eq_none_iff];exact hno
 rw [this]
theorem iR{α:Type}(p:α→Bool)(l:List α):decide (0<=Dg p l)=l.any p:=by
 unfold Dg
 cases h:l.findIdx? p with
 | none=>
  rw [List.findIdx?_eq_none_iff]at h
  symm
  simp only [Int.reduceNeg,Int.reduceLE,decide_false,List.any_eq_false];intro x hx;rw [h x hx];simp
 | some j=>
  rw [List.findIdx?_eq_some_iff_getElem]at h;obtain⟨hj,h1,_⟩:=h;rw [decide_eq_true (by simp)]
  symm
  rw [List.any_eq_true];exact⟨_,List.getElem_mem hj,h1⟩
theorem AgU{α:Type}(p:α→Bool)(l:List α):-1<=Dg p l:=by
 unfold Dg
 split<;>omega
theorem AgV{α:Type}(p:α→Bool)(l:List α):Dg p l<(l.length:Int):=by
 unfold Dg
 split
 ·rename_i j h
  rw [List.findIdx?_eq_some_iff_getElem]at h;obtain⟨hj,_⟩:=h;omega
 ·omega
end Kl
namespace Kl
structure Pt where
 x:Rat
 y:Rat
structure Sg where
 a:Pt
 b:Pt
def KH(a b k:Rat):Rat:=a+k*(b-a)
/-! ### Pixels -/
/-! ### Neighbours -/
end Kl
