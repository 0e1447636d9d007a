/- K04: SortL ShelfD GeN GeO LP Drn. -/
import Derived.Shelf.SlLaysF0
import Derived.Shelf.Slices.Delete
import Derived.Shelf.SlSortCmp.Insertion1
import Derived.Shelf.SlSortCmp.PartitionEqual1
import Derived.Test.YtgnejnampofhoaaGreatDoorK03
namespace Go.Proofs
open Go.Shelf
def Tryz.laysSortSg_ren:Go.Shelf.Ren:=⟨fun|6=>211|15=>77|14=>281|28=>156|29=>157|20=>328|21=>329|22=>330|23=>331|24=>332|25=>333|26=>334|27=>335|46=>369|47=>251|48=>252|49=>370|50=>371|57=>391|n=>n,fun|22=>180|24=>175|25=>185|3=>3|39=>103|0=>0|53=>146|55=>149|4=>4|46=>216|45=>215|50=>176|5=>5|9=>9|66=>302|70=>306|76=>350|77=>351|n=>n,fun|n=>n⟩
theorem Tryz.laysSortSg:Go.Proofs.SlLaysF0.n6 Tryz.prog Tryz.laysSortSg_ren:={
 mixed:=by kernel_rfl
 f6:=⟨Tryz.f211.name,by decide,Tryz.func211.trans (congrArg some (by kernel_rfl))⟩
 f14:=⟨Tryz.f281.name,by decide,Tryz.func281.trans (congrArg some (by kernel_rfl))⟩
 f15:=Tryz.func77.trans (congrArg some (by kernel_rfl))
 f20:=⟨Tryz.f328.name,by decide,Tryz.func328.trans (congrArg some (by kernel_rfl))⟩
 f21:=⟨Tryz.f329.name,by decide,Tryz.func329.trans (congrArg some (by kernel_rfl))⟩
 f22:=⟨Tryz.f330.name,by decide,Tryz.func330.trans (congrArg some (by kernel_rfl))⟩
 f23:=⟨Tryz.f331.name,by decide,Tryz.func331.trans (congrArg some (by kernel_rfl))⟩
 f24:=⟨Tryz.f332.name,by decide,Tryz.func332.trans (congrArg some (by kernel_rfl))⟩
 f25:=⟨Tryz.f333.name,by decide,Tryz.func333.trans (congrArg some (by kernel_rfl))⟩
 f26:=⟨Tryz.f334.name,by decide,Tryz.func334.trans (congrArg some (by kernel_rfl))⟩
 f27:=⟨Tryz.f335.name,by decide,Tryz.func335.trans (congrArg some (by kernel_rfl))⟩
 f28:=Tryz.func156.trans (congrArg some (by kernel_rfl))
 f29:=Tryz.func157.trans (congrArg some (by kernel_rfl))
 f46:=⟨Tryz.f369.name,by decide,Tryz.func369.trans (congrArg some (by kernel_rfl))⟩
 f47:=Tryz.func251.trans (congrArg some (by kernel_rfl))
 f48:=Tryz.func252.trans (congrArg some (by kernel_rfl))
 f49:=⟨Tryz.f370.name,by decide,Tryz.func370.trans (congrArg some (by kernel_rfl))⟩
 f50:=⟨Tryz.f371.name,by decide,Tryz.func371.trans (congrArg some (by kernel_rfl))⟩
 f57:=⟨Tryz.f391.name,by decide,Tryz.func391.trans (congrArg some (by kernel_rfl))⟩
 t0:=Tryz.underlying0
 a0:=Tryz.isAgg0
 z0:=Tryz.sizeOf0
 v0:=Tryz.zeroValue0
 t3:=Tryz.underlying3
 a3:=Tryz.isAgg3
 z3:=Tryz.sizeOf3
 v3:=Tryz.zeroValue3
 t4:=Tryz.underlying4
 a4:=Tryz.isAgg4
 z4:=Tryz.sizeOf4
 v4:=Tryz.zeroValue4
 t5:=Tryz.underlying5
 a5:=Tryz.isAgg5
 z5:=Tryz.sizeOf5
 v5:=Tryz.zeroValue5
 t9:=Tryz.underlying9
 a9:=Tryz.isAgg9
 z9:=Tryz.sizeOf9
 v9:=Tryz.zeroValue9
 t22:=Tryz.underlying180
 a22:=Tryz.isAgg180
 z22:=Tryz.sizeOf180
 v22:=Tryz.zeroValue180
 t25:=Tryz.underlying185
 a25:=Tryz.isAgg185
 z25:=Tryz.sizeOf185
 v25:=Tryz.zeroValue185
 t39:=Tryz.underlying103
 a39:=Tryz.isAgg103
 z39:=Tryz.sizeOf103
 v39:=Tryz.zeroValue103
 t45:=Tryz.underlying215
 a45:=Tryz.isAgg215
 z45:=Tryz.sizeOf215
 v45:=Tryz.zeroValue215
 t46:=Tryz.underlying216
 a46:=Tryz.isAgg216
 z46:=Tryz.sizeOf216
 v46:=Tryz.zeroValue216
 t50:=Tryz.underlying176
 a50:=Tryz.isAgg176
 z50:=Tryz.sizeOf176
 v50:=Tryz.zeroValue176
 t53:=Tryz.underlying146
 a53:=Tryz.isAgg146
 z53:=Tryz.sizeOf146
 v53:=Tryz.zeroValue146
 t55:=Tryz.underlying149
 a55:=Tryz.isAgg149
 z55:=Tryz.sizeOf149
 v55:=Tryz.zeroValue149
 t66:=Tryz.underlying302
 a66:=Tryz.isAgg302
 z66:=Tryz.sizeOf302
 v66:=Tryz.zeroValue302
 t70:=Tryz.underlying306
 a70:=Tryz.isAgg306
 z70:=Tryz.sizeOf306
 v70:=Tryz.zeroValue306
 t76:=Tryz.underlying350
 a76:=Tryz.isAgg350
 z76:=Tryz.sizeOf350
 v76:=Tryz.zeroValue350
 t77:=Tryz.underlying351
 a77:=Tryz.isAgg351
 z77:=Tryz.sizeOf351
 v77:=Tryz.zeroValue351}
def Tryz.laysSortPt_ren:Go.Shelf.Ren:=⟨fun|6=>207|15=>77|14=>279|28=>156|29=>157|20=>320|21=>321|22=>322|23=>323|24=>324|25=>325|26=>326|27=>327|46=>366|47=>251|48=>252|49=>367|50=>368|57=>390|n=>n,fun|22=>31|24=>27|25=>186|3=>3|39=>103|0=>0|53=>146|55=>149|4=>4|46=>216|45=>215|50=>176|5=>5|9=>9|66=>302|70=>306|76=>350|77=>351|n=>n,fun|n=>n⟩
theorem Tryz.laysSortPt:Go.Proofs.SlLaysF0.n6 Tryz.prog Tryz.laysSortPt_ren:={
 mixed:=by kernel_rfl
 f6:=⟨Tryz.f207.name,by decide,Tryz.func207.trans (congrArg some (by kernel_rfl))⟩
 f14:=⟨Tryz.f279.name,by decide,Tryz.func279.trans (congrArg some (by kernel_rfl))⟩
 f15:=Tryz.func77.trans (congrArg some (by kernel_rfl))
 f20:=⟨Tryz.f320.name,by decide,Tryz.func320.trans (congrArg some (by kernel_rfl))⟩
 f21:=⟨Tryz.f321.name,by decide,Tryz.func321.trans (congrArg some (by kernel_rfl))⟩
 f22:=⟨Tryz.f322.name,by decide,Tryz.func322.trans (congrArg some (by kernel_rfl))⟩
 f23:=⟨Tryz.f323.name,by decide,Tryz.func323.trans (congrArg some (by kernel_rfl))⟩
 f24:=⟨Tryz.f324.name,by decide,Tryz.func324.trans (congrArg some (by kernel_rfl))⟩
 f25:=⟨Tryz.f325.name,by decide,Tryz.func325.trans (congrArg some (by kernel_rfl))⟩
 f26:=⟨Tryz.f326.name,by decide,Tryz.func326.trans (congrArg some (by kernel_rfl))⟩
 f27:=⟨Tryz.f327.name,by decide,Tryz.func327.trans (congrArg some (by kernel_rfl))⟩
 f28:=Tryz.func156.trans (congrArg some (by kernel_rfl))
 f29:=Tryz.func157.trans (congrArg some (by kernel_rfl))
 f46:=⟨Tryz.f366.name,by decide,Tryz.func366.trans (congrArg some (by kernel_rfl))⟩
 f47:=Tryz.func251.trans (congrArg some (by kernel_rfl))
 f48:=Tryz.func252.trans (congrArg some (by kernel_rfl))
 f49:=⟨Tryz.f367.name,by decide,Tryz.func367.trans (congrArg some (by kernel_rfl))⟩
 f50:=⟨Tryz.f368.name,by decide,Tryz.func368.trans (congrArg some (by kernel_rfl))⟩
 f57:=⟨Tryz.f390.name,by decide,Tryz.func390.trans (congrArg some (by kernel_rfl))⟩
 t0:=Tryz.underlying0
 a0:=Tryz.isAgg0
 z0:=Tryz.sizeOf0
 v0:=Tryz.zeroValue0
 t3:=Tryz.underlying3
 a3:=Tryz.isAgg3
 z3:=Tryz.sizeOf3
 v3:=Tryz.zeroValue3
 t4:=Tryz.underlying4
 a4:=Tryz.isAgg4
 z4:=Tryz.sizeOf4
 v4:=Tryz.zeroValue4
 t5:=Tryz.underlying5
 a5:=Tryz.isAgg5
 z5:=Tryz.sizeOf5
 v5:=Tryz.zeroValue5
 t9:=Tryz.underlying9
 a9:=Tryz.isAgg9
 z9:=Tryz.sizeOf9
 v9:=Tryz.zeroValue9
 t22:=Tryz.underlying31
 a22:=Tryz.isAgg31
 z22:=Tryz.sizeOf31
 v22:=Tryz.zeroValue31
 t25:=Tryz.underlying186
 a25:=Tryz.isAgg186
 z25:=Tryz.sizeOf186
 v25:=Tryz.zeroValue186
 t39:=Tryz.underlying103
 a39:=Tryz.isAgg103
 z39:=Tryz.sizeOf103
 v39:=Tryz.zeroValue103
 t45:=Tryz.underlying215
 a45:=Tryz.isAgg215
 z45:=Tryz.sizeOf215
 v45:=Tryz.zeroValue215
 t46:=Tryz.underlying216
 a46:=Tryz.isAgg216
 z46:=Tryz.sizeOf216
 v46:=Tryz.zeroValue216
 t50:=Tryz.underlying176
 a50:=Tryz.isAgg176
 z50:=Tryz.sizeOf176
 v50:=Tryz.zeroValue176
 t53:=Tryz.underlying146
 a53:=Tryz.isAgg146
 z53:=Tryz.sizeOf146
 v53:=Tryz.zeroValue146
 t55:=Tryz.underlying149
 a55:=Tryz.isAgg149
 z55:=Tryz.sizeOf149
 v55:=Tryz.zeroValue149
 t66:=Tryz.underlying302
 a66:=Tryz.isAgg302
 z66:=Tryz.sizeOf302
 v66:=Tryz.zeroValue302
 t70:=Tryz.underlying306
 a70:=Tryz.isAgg306
 z70:=Tryz.sizeOf306
 v70:=Tryz.zeroValue306
 t76:=Tryz.underlying350
 a76:=Tryz.isAgg350
 z76:=Tryz.sizeOf350
 v76:=Tryz.zeroValue350
 t77:=Tryz.underlying351
 a77:=Tryz.isAgg351
 z77:=Tryz.sizeOf351
 v77:=Tryz.zeroValue351}
end Go.Proofs
namespace Go.Proofs
open Go.Shelf
def Tryz.laysNm224_ren:Go.Shelf.Ren:=⟨fun|24=>171|n=>n,fun|24=>33|9=>9|3=>3|4=>4|0=>0|n=>n,fun|n=>n⟩
theorem Tryz.laysNm224:Go.Proofs.Lays2.n24 Tryz.prog Tryz.laysNm224_ren:={
 mixed:=by kernel_rfl
 f24:=Tryz.func171.trans (congrArg some (by kernel_rfl))
 t0:=Tryz.underlying0
 a0:=Tryz.isAgg0
 z0:=Tryz.sizeOf0
 v0:=Tryz.zeroValue0
 t3:=Tryz.underlying3
 a3:=Tryz.isAgg3
 z3:=Tryz.sizeOf3
 v3:=Tryz.zeroValue3
 t4:=Tryz.underlying4
 a4:=Tryz.isAgg4
 z4:=Tryz.sizeOf4
 v4:=Tryz.zeroValue4
 t9:=Tryz.underlying9
 a9:=Tryz.isAgg9
 z9:=Tryz.sizeOf9
 v9:=Tryz.zeroValue9
 t24:=Tryz.underlying33
 a24:=Tryz.isAgg33
 z24:=Tryz.sizeOf33
 v24:=Tryz.zeroValue33
 i9:=by kernel_rfl}
open Go.RowKit Go.Lib Go.Sort in
theorem Tryz.slices_Delete_string(blk off cap i j:Nat)(zs:List (List UInt8))(w:World)(hH:Holds encStr w blk off zs.toArray)(An:zs.length<=cap)(hm:cap<=9223372036854775807)(Bl:i<=j)(hj:j<=zs.length) :
  Calls Tryz.prog 171 #[.slice (some ⟨blk,off,none⟩) zs.length cap,.int .i64 i,.int .i64 j] w fun e w'=>e=.returned (.slice (some ⟨blk,off,none⟩) (zs.length-(j-i)) cap)/\∃q,w'=putRow encStr (Sort.ahead w q) blk off (zs.take i++zs.drop j++List.replicate (j-i) []).toArray:=Any.slices_Delete_string Tryz.laysNm224 blk off cap i j zs w hH An hm Bl hj
end Go.Proofs
namespace Kl
def IG(b:UInt8):Bool:=(decide (97<=b.toNat)&&decide (b.toNat<=122))||(decide (65<=b.toNat)&&decide (b.toNat<=90))
def LA(b:UInt8):Bool:=(decide (48<=b.toNat)&&decide (b.toNat<=57))||decide (b.toNat=95)
def nameB:Bs→Bool
 | []=>false
 | b::l=>decide (l.length < 32) && (IG b && l.all (fun c=>IG c || LA c))
def CU{α:Type}(p:α→Bool)(l:List α):Int:=match l.findIdx? p with|some j=>(j:Int)|none=>-1
theorem aA{α:Type}{p:α→Bool}{l:List α}{j:Nat}(hj:j<l.length)(hno:∀q∈l.take j,p q=false)(h:p l[j]=true):CU p l=(j:Int):=by
 unfold CU
 have:l.findIdx? p=some j:=by rw [List.findIdx?_eq_some_iff_getElem];refine⟨hj,h,fun i hi=>?_⟩;rw [Bool.not_eq_true];refine hno l[i] ?_;rw [List.mem_take_iff_getElem];exact⟨i,by omega,rfl⟩
 rw [this]
theorem aB{α:Type}{p:α→Bool}{l:List α}(hno:∀q∈l,p q=false):CU p l = -1:=by
 unfold CU
 have:l.findIdx? p=none:=by rw [List.findIdx?_eq_none_iff];exact hno
 rw [this]
theorem ZZ{α:Type}(p:α→Bool)(l:List α):decide (0<=CU p l)=l.any p:=by
 unfold CU
 cases h:l.findIdx? p with
 | none=>
  rw [List.findIdx?_eq_none_iff]at h
  symm
  simp only [Int.reduceNeg,Int.reduceLE,decide_false,List.any_eq_false];intro x hx;rw [h x hx];simp
 | some j=>
  rw [List.findIdx?_eq_some_iff_getElem]at h;obtain⟨hj,h1,_⟩:=h;rw [decide_eq_true (by simp)]
  symm
  rw [List.any_eq_true];exact⟨_,List.getElem_mem hj,h1⟩
theorem Ac8{α:Type}(p:α→Bool)(l:List α):-1<=CU p l:=by
 unfold CU
 split<;>omega
theorem Ac9{α:Type}(p:α→Bool)(l:List α):CU p l<(l.length:Int):=by
 unfold CU
 split
 ·rename_i j h
  rw [List.findIdx?_eq_some_iff_getElem]at h;obtain⟨hj,_⟩:=h;omega
 ·omega
end Kl
namespace Go.Proofs.YtgnejnampofhoaaGreatDoor
open Go.RowKit Kl
def Af5{α:Type} : Result α→World
 | .ok _ w=>w
 | .halt _ w=>w
theorem qm{α:Type}(a:Ask α):∀(w:World),w.drawn<=(w.ask a).2.drawn:=by
 induction a with
 | done a=>intro w;exact Ajz _
 | ask what range k ih=>
  intro w;unfold World.ask;simp only []
  split
  ·exact ih _ _
  ·exact Aj9 (Nat.le_succ w.drawn) (ih _ {w with drawn:=w.drawn+1})
theorem AgJ(w:World)(c:Sys):w.drawn<=(w.sys c).2.drawn:=by
 have h:=qm (Kernel.perform c w.os) w;unfold World.sys
 split
 ·exact Ajz _
 ·rename_i r os w' _ he
  rw [he]at h;exact h
theorem yz{ε α β:Type}{x:Except ε α}{f:α→Except ε β}{y:β}(h:(x >>= f)=.ok y):∃a,x=.ok a/\f a=.ok y:=by
 cases x with
 | error e=>cases h
 | ok a=>exact⟨a,rfl,h⟩
theorem Aha{p:Program}{w w':World}{a:Addr}{u:TypeId}{k:Addr}{v:Value}{at_:Bool}{l:List Addr}(h:w.viewStore p a u k v at_=.ok (w',l)):w'.drawn=w.drawn:=by
 unfold World.viewStore at h;simp only []at h
 repeat' first
  | (cases h;done)
  | (simp only [pure,Except.pure,Except.ok.injEq,Prod.mk.injEq]at h;obtain⟨rfl,_⟩:=h;rfl)
  | (obtain⟨_,_,h⟩:=yz h)
  | split at h
theorem zj{p:Program}{w w':World}{a:Addr}{v:Value}{at_:Bool}{l:List Addr}(h:w.farStore p a v at_=.ok (w',l)):w'.drawn=w.drawn:=by
 unfold World.farStore at h
 split at h
 ·split at h
  ·rename_i hv;simp only [Except.ok.injEq]at h;subst h;exact Aha hv
  ·cases h
 ·cases h
theorem yO (p : Program) {α : Type} (s : Sem α) : ∀ (w : World), w.drawn ≤ (Af5 (s.run p w)).drawn := by
  induction s with
  | pure a => intro w; exact Ajz _
  | load m a k ih => intro w; simp only [Sem.run]; (repeat' split) <;> first | exact ih _ _ | exact Ajz _
  | store m a v k ih =>
    intro w
    cases v <;> simp only [Sem.run] <;> first
      | exact Ajz _
      | (split
         · split
           · exact Ajz _
           · exact ih (w.setCell a _)
         · split
           · rename_i hf; rw [← zj hf]; exact ih _
           · exact Ajz _)
  | new o k ih => intro w; simp only [Sem.run]; exact ih w.heap.size { w with heap := w.heap.push o }
  | shape r k ih => intro w; simp only [Sem.run]; exact ih _ _
  | freeze a n k ih =>
    intro w; simp only [Sem.run]
    refine Aj9 (Nat.le_of_eq ?_) (ih (w.freeze a n))
    unfold World.freeze; split <;> rfl
  | frozen a k ih => intro w; simp only [Sem.run]; exact ih _ _
  | getObj r k ih => intro w; simp only [Sem.run]; split <;> first | exact ih _ _ | exact Ajz _
  | setObj r o k ih => intro w; simp only [Sem.run]; split <;> first | exact ih { w with heap := w.heap.setIfInBounds r o } | exact Ajz _
  | choose q k ih => intro w; simp only [Sem.run]; split <;> first | exact ih _ _ | exact Aj9 (Nat.le_succ w.drawn) (ih _ { w with drawn := w.drawn + 1 })
  | sys c k ih => intro w; simp only [Sem.run]; exact Aj9 (AgJ w c) (ih _ _)
  | program k ih => intro w; simp only [Sem.run]; exact ih _ _
  | mark m k ih => intro w; simp only [Sem.run]; exact ih _
  | halt h => intro w; exact Ajz _
theorem G4{p:Program}{α:Type}{s:Sem α}{w w':World}{a:α}(h:s.run p w=.ok a w'):w.drawn<=w'.drawn:=by
 have:=yO p s w;rw [h]at this;exact this
theorem Vq{p:Program}{α:Type}{s:Sem α}{w w':World}{a:Halt}(h:s.run p w=.halt a w'):w.drawn<=w'.drawn:=by
 have:=yO p s w;rw [h]at this;exact this
theorem Sp{p:Program}{α:Type}{s:Sem α}{w w':World}{a:α}{es es':Array Event}(h:s.runT p w es=(.ok a w',es')):w.drawn<=w'.drawn:=by
 have e:=Sem.runT_fst p s w es;rw [h]at e;exact G4 e.symm
theorem cT{p:Program}{α:Type}{s:Sem α}{w w':World}{a:Halt}{es es':Array Event}(h:s.runT p w es=(.halt a w',es')):w.drawn<=w'.drawn:=by
 have e:=Sem.runT_fst p s w es;rw [h]at e;exact Vq e.symm
theorem Vp{p:Program}{α:Type}{s:Sem α}{w w':World}{a:α}{es:Array Event}(h:(s.runT p w es).1=.ok a w'):w.drawn<=w'.drawn:=G4 ((Sem.runT_fst p s w es).symm.trans h)
theorem yN{p:Program}{α:Type}{s:Sem α}{w w':World}{a:Halt}{es:Array Event}(h:(s.runT p w es).1=.halt a w'):w.drawn<=w'.drawn:=Vq ((Sem.runT_fst p s w es).symm.trans h)
def CC(w:World):GStep→Prop
 | .go _ w' _=>w.drawn<=w'.drawn
 | .comm _ _ _ _ w' _=>w.drawn<=w'.drawn
 | .spawn _ _ w' _=>w.drawn<=w'.drawn
 | .count _ w' _=>w.drawn<=w'.drawn
 | .timer _ _ w' _=>w.drawn<=w'.drawn
 | .alone _ _ w' _=>w.drawn<=w'.drawn
 | .newcoro _ _ _ w' _=>w.drawn<=w'.drawn
 | .coroswitch _ _ _ w' _=>w.drawn<=w'.drawn
 | .collect _ w' _=>w.drawn<=w'.drawn
 | .watch _ w' _=>w.drawn<=w'.drawn
 | .ended _ _ _=>True
theorem J0{w:World}{es:Array Event}{g:GStep}(h:CC w g):CC w (GStep.after es g):=by cases g<;>exact h
theorem FU{w w':World}{g:GStep}(h:w.drawn<=w'.drawn)(k:CC w' g):CC w g:=by
 cases g<;>first|exact Aj9 h k|trivial
theorem Aec(fr:Frame)(l:List ByteArray)(m:String)(b:Bool)(w:World):CC w (dieOf fr l m b w):=Ajz _
theorem Vf(fr:Frame)(m:String)(w:World):CC w (endThrow fr m w):=Ajz _
theorem Aed(w:World)(fd:Nat)(t:ByteArray)(o:Outcome):CC w (endWith w fd t o):=by
 unfold endWith;simp only []
 repeat' first
  | trivial
  | split
theorem bC(p:Program)(fr:Frame)(v:Value)(w:World):CC w (endPrinting p fr v w):=by
 unfold endPrinting;simp only []
 repeat' first
  | trivial
  | exact Vf _ _ _
  | split
theorem wH(p:Program)(fr:Frame)(cs:List Frame)(d:Option Dying)(m:String)(w:World):CC w (endFatal p fr cs d m w):=by
 unfold endFatal;simp only []
 repeat' first
  | trivial
  | (rename_i h;exact FU (G4 h) (Aec _ _ _ _ _))
  | split
theorem Aej(p:Program)(fr:Frame)(d:Dying)(f:Fatal)(w:World):CC w (writeOn p fr d f w):=by
 unfold writeOn;simp only []
 repeat' first
  | trivial
  | (rename_i h;exact Sp h)
  | (rename_i h;exact cT h)
  | split
theorem Aeb(p:Program)(fr:Frame)(d:Dying)(w:World):CC w (die p fr d w):=by
 unfold die;simp only []
 repeat' first
  | trivial
  | exact Aej _ _ _ _ _
  | exact Aed _ _ _ _
  | exact Ajz _
  | (rename_i h;exact G4 h)
  | (rename_i h;exact Sp h)
  | (rename_i h;exact FU (cT h) (bC _ _ _ _))
  | (rename_i h;exact J0 (Vp h))
  | (rename_i h;exact J0 (FU (yN h) (bC _ _ _ _)))
  | split
theorem Aef{w:World}{c:Prop}[Decidable c]{a b:GStep}(ha:CC w a)(hb:CC w b):CC w (if c then a else b):=by split<;>assumption
theorem bD(p:Program)(b:Bool)(fr:Frame)(cs:List Frame)(d:Option Dying)(v:Value)(w:World):CC w (doReturn p b fr cs d v w):=by
 unfold doReturn;simp only []
 repeat' first
  | trivial
  | exact Ajz _
  | split
theorem Aea(p:Program)(fr:Frame)(cs:List Frame)(dy:Option Dying)(d:Deferred)(w:World):CC w (callDeferred p fr cs dy d w):=by
 unfold callDeferred;refine Aef trivial ?_
 ·generalize hx:(invoke d.target d.args).runT p w #[]=x;obtain⟨r,es⟩:=x;simp only [];refine J0 ?_
  cases r with
  | ok a w'=>
   have hd:=Sp hx
   cases a<;>(try simp only [])<;>repeat' first
    | trivial
    | exact hd
    | (injections;done)
    | (injections;subst_vars;exact hd)
    | split
  | halt h w'=>
   have hd:=cT hx
   cases h<;>(try simp only [])<;>repeat' first
    | trivial
    | exact hd
    | (injections;done)
    | (injections;subst_vars;exact hd)
    | exact FU hd (wH _ _ _ _ _ _)
    | exact FU hd (Vf _ _ _)
    | split
theorem aZ(p:Program)(fr:Frame)(cs:List Frame)(d:Option Dying)(g:Nat)(w:World):CC w (early p fr cs d g w):=by
 unfold early;simp only []
 repeat' first
  | trivial
  | exact Ajz _
  | (refine FU (G4 (by assumption)) ?_)
  | split
theorem Aei (p : Program) (b : Bool) (fr : Frame) (cs : List Frame) (d : Option Dying) (w : World) : CC w (unwind p b fr cs d w) := by
  unfold unwind
  split
  · generalize hx : (Instr.takeDeferred _).runT p w #[] = x
    obtain ⟨r, es⟩ := x
    simp only []
    refine J0 ?_
    cases r with
    | ok a w' => exact Sp hx
    | halt h w' => trivial
  · exact Aea _ _ _ _ _ _
  · repeat' first
      | trivial
      | exact Ajz _
      | (rename_i h; exact G4 h)
      | exact bC _ _ _ _
      | exact bD _ _ _ _ _ _ _
      | (generalize hx : (results _ _).runT p w #[] = x
         obtain ⟨r, es⟩ := x
         simp only []
         refine J0 ?_
         cases r with
         | ok a w' => exact FU (Sp hx) (bD _ _ _ _ _ _ _)
         | halt h w' => cases h <;> trivial)
      | split
theorem Ve(p:Program)(b:Bool)(fr:Frame)(cs:List Frame)(d:Option Dying)(s:Sem Next)(w:World):CC w (stepG.apply p b fr cs d s w):=by
 unfold stepG.apply
 have hr:(if b=true then s.runT p w #[] else (s.run p w,#[])).1=s.run p w:=by
  split
  ·exact Sem.runT_fst p s w #[]
  ·rfl
 generalize hx:(if b=true then s.runT p w #[] else (s.run p w,#[]))=x at hr;obtain⟨r,es⟩:=x;simp only []at hr;simp only [];refine J0 ?_
 cases r with
 | ok a w'=>
  have hd:=G4 hr.symm
  cases a<;>(try simp only [])<;>repeat' first
   | trivial
   | exact hd
   | (injections;done)
   | (injections;subst_vars;exact hd)
   | (injections;subst_vars;exact FU hd (aZ _ _ _ _ _ _))
   | exact FU hd (Vf _ _ _)
   | split
 | halt h w'=>
  have hd:=Vq hr.symm
  cases h<;>(try simp only [])<;>repeat' first
   | trivial
   | exact hd
   | (injections;done)
   | (injections;subst_vars;exact hd)
   | (injections;subst_vars;exact FU hd (aZ _ _ _ _ _ _))
   | exact FU hd (wH _ _ _ _ _ _)
   | exact FU hd (Vf _ _ _)
   | exact FU hd (aZ _ _ _ _ _ _)
   | split
theorem Aeg(p:Program)(b:Bool)(fr:Frame)(cs:List Frame)(d:Option Dying)(w:World):CC w (stepG.oper p b fr cs d w):=by
 unfold stepG.oper
 split
 ·trivial
 ·split<;>exact Ve _ _ _ _ _ _ _
theorem wG{α:Type}{w:World}(o:Option α)(a:GStep)(f:α→GStep)(ha:CC w a)(h:∀x,CC w (f x)):CC w (o.elim a f):=by
 cases o
 ·exact ha
 ·exact h _
theorem Aee(p:Program)(m b:Bool)(fr:Frame)(cs:List Frame)(d:Option Dying)(w:World):CC w (stepG.exec p m b fr cs d w):=by
 unfold stepG.exec;simp only []
 split
 all_goals repeat' first
  | trivial
  | exact Ajz _
  | exact Aeg _ _ _ _ _ _
  | exact Ve _ _ _ _ _ _ _
  | (rename_i h;exact G4 h)
  | refine wG _ _ _ ?_ (fun _=>Ajz _)
  | exact wG _ _ _ trivial (fun _=>Ve _ _ _ _ _ _ _)
  | (rename_i h;exact J0 (FU (Vp h) (bD _ _ _ _ _ _ _)))
  | (rename_i h;exact J0 (FU (Vp h) (Ve _ _ _ _ _ _ _)))
  | (rename_i h;exact J0 (Vp h))
  | (rename_i h;exact J0 (yN h))
  | split
theorem Aeh(p:Program)(m:Bool)(g:Goroutine)(w:World)(b:Bool):CC w (stepG p m g w b):=by
 obtain⟨fr,callers,status,dying,offers⟩:=g;simp only [stepG]
 split
 ·exact Aeb _ _ _ _
 ·exact Aee _ _ _ _ _ _ _
 ·exact Aei _ _ _ _ _ _
/-! ### The machine -/
def My(w:World):Stepped→Prop
 | .next m=>w.drawn<=m.world.drawn
 | .ended _ _=>True
theorem NC{w w':World}{g:Stepped}(h:w.drawn<=w'.drawn)(k:My w' g):My w g:=by
 cases g<;>first|exact Aj9 h k|trivial
def RZ(w:World):Move→Prop
 | .goroutine m _=>w.drawn<=m.world.drawn
 | .machine s _=>My w s
theorem Sa{w w':World}{g:Move}(h:w.drawn<=w'.drawn)(k:RZ w' g):RZ w g:=by
 cases g
 ·exact Aj9 h k
 ·exact NC h k
theorem Ahe{rest:Rest}{cases:Array CommCase}{w w':World}(h:waitingAt rest cases w=some w'):w'.drawn=w.drawn:=by
 unfold waitingAt at h
 repeat' first
  | (cases h;done)
  | (simp only [Aj3]at h;subst h;rfl)
  | split at h
theorem Aem(p:Program)(rest:Rest)(gs:Array Goroutine)(i:Nat)(g:Goroutine)(cases:Array CommCase)(b:Bool)(shape:CommShape)(w:World):My w (communicate p rest gs i g cases b shape w).1:=by
 unfold communicate;simp only []
 repeat' first
  | trivial
  | exact Ajz _
  | (refine NC (G4 (by assumption)) ?_)
  | (refine NC (Vq (by assumption)) ?_)
  | (rename_i h;exact Nat.le_of_eq (Ahe h).symm)
  | split
theorem wJ(p:Program)(gs:Array Goroutine)(rest:Rest)(w:World):My w (look p gs rest w):=by
 unfold look;simp only []
 repeat' first
  | trivial
  | exact Ajz _
  | (refine NC (G4 (by assumption)) ?_)
  | split
theorem Aeo(p:Program)(m:Machine)(k:Nat):My m.world (serve p m k):=by
 unfold serve;simp only []
 repeat' first
  | trivial
  | exact Ajz _
  | split
theorem AgM{m m':Machine}{op:TimerOp}{v:Value}(h:timerOp m op=.ok (v,m')):m'.world.drawn=m.world.drawn:=by
 have hd:∀(w:World) (c:Nat),(drain w c).2.drawn=w.drawn:=by intro w c;unfold drain;split<;>rfl
 have hr:∀(m:Machine) (k:Nat) (t:Timer) (a b:Nat),(retime m k t a b).2.world.drawn=m.world.drawn:=by
  intro m k t a b;unfold retime
  cases t.chan with
  | none=>rfl
  | some c=>exact hd _ _
 have hn:∀(m m0:Machine) (var:Addr) (f:Nat→Timer→Value×Machine),(∀k t,(f k t).2.world.drawn=m0.world.drawn)→∀{v m'},timerOp.named m var f=.ok (v,m')→m'.world.drawn=m0.world.drawn:=by
  intro m m0 var f hf v m' h;unfold timerOp.named at h
  split at h
  ·simp only [Except.ok.injEq]at h;have:=hf (by assumption) (m.rest.timers.getD (by assumption) default);rw [h]at this;exact this
  ·cases h
 have ho:∀{m m':Machine} {var:Addr},timerOp.opened m var=some m'→m'.world.drawn=m.world.drawn:=by
  intro m m' var h;unfold timerOp.opened at h
  repeat' first
   | (cases h;done)
   | (simp only [Aj3]at h;subst h;rfl)
   | split at h
 unfold timerOp at h;simp only []at h
 repeat' first
  | (cases h;done)
  | (simp only [Except.ok.injEq,Prod.mk.injEq]at h;obtain⟨_,rfl⟩:=h;rfl)
  | exact hn _ _ _ _ (fun k t=>hr _ _ _ _ _) h
  | (rename_i h1;exact(hn _ _ _ _ (fun k t=>hr _ _ _ _ _) h).trans (ho h1))
  | split at h
theorem Aen(p:Program)(m:Machine)(i:Nat)(b:Bool):My m.world (runT p m i b).1:=by
 simp only [runT];generalize m.gs.swapAt! _ _=gg;have hs:=Aeh p (i == 0) gg.1 m.world b
 revert hs
 generalize stepG p _ gg.1 m.world b=s;intro hs
 cases s<;>simp only [CC]at hs<;>(try simp only [])
 all_goals repeat' first
  | trivial
  | exact hs
  | exact NC hs (Aem _ _ _ _ _ _ _ _ _)
  | exact NC hs (wJ _ _ _ _)
  | (rename_i h;exact Aj9 hs (Nat.le_of_eq (AgM h).symm))
  | split
theorem m8{p:Program}{α:Type}{s:Sem α}{W w':World}{gs:Array Goroutine}{rest:Rest}{t:Nat}{a:α}(h:s.run p (Machine.advanceTo ⟨W,gs,rest⟩ t).world=.ok a w'):W.drawn<=w'.drawn:=by have:=G4 h;exact this
theorem bF(p:Program)(m:Machine):RZ m.world (askOn p m):=by
 unfold askOn;simp only []
 repeat' first
  | trivial
  | exact Ajz _
  | exact Aeo _ _ _
  | (refine Sa (G4 (by assumption)) ?_)
  | (refine Sa (m8 (by assumption)) ?_)
  | split
theorem wI(p:Program)(m:Machine):RZ m.world (ask p m):=by
 unfold ask
 split
 ·split
  ·trivial
  ·refine Sa (G4 (by assumption)) ?_;have:=wJ p m.gs m.rest (by assumption)
   split
   ·rename_i h;rw [h]at this;exact Sa this (bF _ _)
   ·rename_i e _;cases e<;>first|exact absurd rfl (by assumption)|trivial
  ·exact Sa (G4 (by assumption)) (bF _ _)
 ·exact bF _ _
theorem Aek(p:Program)(m:Machine):RZ m.world (move p m):=by
 unfold move
 repeat' first
  | trivial
  | exact Ajz _
  | exact wI p _
  | exact wI p {m with rest:={m.rest with slice:=none}}
  | split
theorem Aep(p:Program)(m:Machine):My m.world (step p m):=by
 have hm:=Aek p m;unfold step stepT
 cases h:move p m with
 | goroutine m1 i=>rw [h]at hm;exact NC hm (Aen p m1 i true)
 | machine s ops=>rw [h]at hm;exact hm
theorem yM(p:Program):∀(n:Nat) (m m':Machine),runN p n m=.next m'→m.world.drawn<=m'.world.drawn
 | 0,m,m',h=>by simp only [runN,Stepped.next.injEq]at h;rw [h];exact Ajz _
 | n+1,m,m',h=>by
  have hs:=Aep p m;unfold runN at h
  cases h1:step p m with
  | next m1=>rw [h1]at h hs;exact Aj9 hs (yM p n m1 m' h)
  | ended o w=>rw [h1]at h;cases h
theorem Steps.drawn{P:Program}{m m':Machine}(h:Steps P m m'):m.world.drawn<=m'.world.drawn:=by
 obtain⟨n,hn⟩:=h;exact yM P n m m' hn
theorem Calls.drawn{P:Program}{f:FuncId}{args:Array Value}{w:World}{R:Ending→World→Prop}(h:Calls P f args w R)(hr:∀e w',R e w'→∃v,e=.returned v):Calls P f args w fun e w'=>R e w'/\w.drawn<=w'.drawn:=by
 intro cs;obtain⟨e,w',fr,h1,h2,h3⟩:=h cs;obtain⟨v,rfl⟩:=hr e w' h1;exact⟨_,w',fr,⟨h1,Steps.drawn h2⟩,h2,h3⟩
theorem Ac.grow{w w':World}(h:Ac w w')(hd:w.drawn<=w'.drawn):∃q os,w'=Go.Sort.grow (w.drewN q) os:=by
 refine⟨w'.drawn-w.drawn,w'.heap.extract w.heap.size w'.heap.size,?_⟩
 have hh:w.heap++w'.heap.extract w.heap.size w'.heap.size=w'.heap:=by
  apply Array.ext_getElem?;intro i;rw [Array.getElem?_append]
  split
  ·rename_i hi;exact(h.block i hi).symm
  ·rename_i hi
   rw [Array.getElem?_extract]
   split
   ·congr 1;omega
   ·rw [Array.getElem?_eq_none (by omega)]
 have h1:=h.os;have h2:=h.tape;have h3:=h.output;unfold Go.Sort.grow World.drewN;simp only;rw [hh,Nat.add_sub_of_le hd,←h1,←h2,←h3]
end Go.Proofs.YtgnejnampofhoaaGreatDoor
