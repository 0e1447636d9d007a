/- I04: SortL ShelfD GeN GeO LP Drn. -/
import Derived.Shelf.SlLaysF0
import Derived.Test.YtnddllipjippnaaGreatDoorI03
namespace Go.Proofs
open Go.Shelf
def Tryz.laysSortSg_ren:Go.Shelf.Ren:=⟨fun|6=>139|15=>183|14=>185|28=>231|29=>232|20=>233|21=>234|22=>235|23=>236|24=>237|25=>238|26=>239|27=>240|46=>273|47=>269|48=>270|49=>274|50=>275|57=>296|n=>n,fun|22=>143|24=>140|25=>148|3=>3|39=>105|0=>0|53=>176|55=>179|4=>4|46=>282|45=>281|50=>131|5=>5|9=>9|66=>318|70=>322|76=>339|77=>340|n=>n,fun|n=>n⟩
theorem Tryz.laysSortSg:Go.Proofs.SlLaysF0.n6 Tryz.prog Tryz.laysSortSg_ren:={
 mixed:=by kernel_rfl
 f6:=⟨Tryz.f139.name,by decide,Tryz.func139.trans (congrArg some (by kernel_rfl))⟩
 f14:=⟨Tryz.f185.name,by decide,Tryz.func185.trans (congrArg some (by kernel_rfl))⟩
 f15:=Tryz.func183.trans (congrArg some (by kernel_rfl))
 f20:=⟨Tryz.f233.name,by decide,Tryz.func233.trans (congrArg some (by kernel_rfl))⟩
 f21:=⟨Tryz.f234.name,by decide,Tryz.func234.trans (congrArg some (by kernel_rfl))⟩
 f22:=⟨Tryz.f235.name,by decide,Tryz.func235.trans (congrArg some (by kernel_rfl))⟩
 f23:=⟨Tryz.f236.name,by decide,Tryz.func236.trans (congrArg some (by kernel_rfl))⟩
 f24:=⟨Tryz.f237.name,by decide,Tryz.func237.trans (congrArg some (by kernel_rfl))⟩
 f25:=⟨Tryz.f238.name,by decide,Tryz.func238.trans (congrArg some (by kernel_rfl))⟩
 f26:=⟨Tryz.f239.name,by decide,Tryz.func239.trans (congrArg some (by kernel_rfl))⟩
 f27:=⟨Tryz.f240.name,by decide,Tryz.func240.trans (congrArg some (by kernel_rfl))⟩
 f28:=Tryz.func231.trans (congrArg some (by kernel_rfl))
 f29:=Tryz.func232.trans (congrArg some (by kernel_rfl))
 f46:=⟨Tryz.f273.name,by decide,Tryz.func273.trans (congrArg some (by kernel_rfl))⟩
 f47:=Tryz.func269.trans (congrArg some (by kernel_rfl))
 f48:=Tryz.func270.trans (congrArg some (by kernel_rfl))
 f49:=⟨Tryz.f274.name,by decide,Tryz.func274.trans (congrArg some (by kernel_rfl))⟩
 f50:=⟨Tryz.f275.name,by decide,Tryz.func275.trans (congrArg some (by kernel_rfl))⟩
 f57:=⟨Tryz.f296.name,by decide,Tryz.func296.trans (congrArg some (by kernel_rfl))⟩
 t0:=Tryz.underlying0
 a0:=Tryz.isAgg0
 z0:=Tryz.sizeOf0
 v0:=Tryz.zeroValue0
 t3:=Tryz.underlying3
 a3:=Tryz.isAgg3
 z3:=Tryz.sizeOf3
 v3:=Tryz.zeroValue3
 t4:=Tryz.underlying4
 a4:=Tryz.isAgg4
 z4:=Tryz.sizeOf4
 v4:=Tryz.zeroValue4
 t5:=Tryz.underlying5
 a5:=Tryz.isAgg5
 z5:=Tryz.sizeOf5
 v5:=Tryz.zeroValue5
 t9:=Tryz.underlying9
 a9:=Tryz.isAgg9
 z9:=Tryz.sizeOf9
 v9:=Tryz.zeroValue9
 t22:=Tryz.underlying143
 a22:=Tryz.isAgg143
 z22:=Tryz.sizeOf143
 v22:=Tryz.zeroValue143
 t25:=Tryz.underlying148
 a25:=Tryz.isAgg148
 z25:=Tryz.sizeOf148
 v25:=Tryz.zeroValue148
 t39:=Tryz.underlying105
 a39:=Tryz.isAgg105
 z39:=Tryz.sizeOf105
 v39:=Tryz.zeroValue105
 t45:=Tryz.underlying281
 a45:=Tryz.isAgg281
 z45:=Tryz.sizeOf281
 v45:=Tryz.zeroValue281
 t46:=Tryz.underlying282
 a46:=Tryz.isAgg282
 z46:=Tryz.sizeOf282
 v46:=Tryz.zeroValue282
 t50:=Tryz.underlying131
 a50:=Tryz.isAgg131
 z50:=Tryz.sizeOf131
 v50:=Tryz.zeroValue131
 t53:=Tryz.underlying176
 a53:=Tryz.isAgg176
 z53:=Tryz.sizeOf176
 v53:=Tryz.zeroValue176
 t55:=Tryz.underlying179
 a55:=Tryz.isAgg179
 z55:=Tryz.sizeOf179
 v55:=Tryz.zeroValue179
 t66:=Tryz.underlying318
 a66:=Tryz.isAgg318
 z66:=Tryz.sizeOf318
 v66:=Tryz.zeroValue318
 t70:=Tryz.underlying322
 a70:=Tryz.isAgg322
 z70:=Tryz.sizeOf322
 v70:=Tryz.zeroValue322
 t76:=Tryz.underlying339
 a76:=Tryz.isAgg339
 z76:=Tryz.sizeOf339
 v76:=Tryz.zeroValue339
 t77:=Tryz.underlying340
 a77:=Tryz.isAgg340
 z77:=Tryz.sizeOf340
 v77:=Tryz.zeroValue340}
def Tryz.laysSortPt_ren:Go.Shelf.Ren:=⟨fun|6=>135|15=>183|14=>182|28=>231|29=>232|20=>223|21=>224|22=>225|23=>226|24=>227|25=>228|26=>229|27=>230|46=>268|47=>269|48=>270|49=>271|50=>272|57=>295|n=>n,fun|22=>31|24=>24|25=>149|3=>3|39=>105|0=>0|53=>176|55=>179|4=>4|46=>282|45=>281|50=>131|5=>5|9=>9|66=>318|70=>322|76=>339|77=>340|n=>n,fun|n=>n⟩
theorem Tryz.laysSortPt:Go.Proofs.SlLaysF0.n6 Tryz.prog Tryz.laysSortPt_ren:={
 mixed:=by kernel_rfl
 f6:=⟨Tryz.f135.name,by decide,Tryz.func135.trans (congrArg some (by kernel_rfl))⟩
 f14:=⟨Tryz.f182.name,by decide,Tryz.func182.trans (congrArg some (by kernel_rfl))⟩
 f15:=Tryz.func183.trans (congrArg some (by kernel_rfl))
 f20:=⟨Tryz.f223.name,by decide,Tryz.func223.trans (congrArg some (by kernel_rfl))⟩
 f21:=⟨Tryz.f224.name,by decide,Tryz.func224.trans (congrArg some (by kernel_rfl))⟩
 f22:=⟨Tryz.f225.name,by decide,Tryz.func225.trans (congrArg some (by kernel_rfl))⟩
 f23:=⟨Tryz.f226.name,by decide,Tryz.func226.trans (congrArg some (by kernel_rfl))⟩
 f24:=⟨Tryz.f227.name,by decide,Tryz.func227.trans (congrArg some (by kernel_rfl))⟩
 f25:=⟨Tryz.f228.name,by decide,Tryz.func228.trans (congrArg some (by kernel_rfl))⟩
 f26:=⟨Tryz.f229.name,by decide,Tryz.func229.trans (congrArg some (by kernel_rfl))⟩
 f27:=⟨Tryz.f230.name,by decide,Tryz.func230.trans (congrArg some (by kernel_rfl))⟩
 f28:=Tryz.func231.trans (congrArg some (by kernel_rfl))
 f29:=Tryz.func232.trans (congrArg some (by kernel_rfl))
 f46:=⟨Tryz.f268.name,by decide,Tryz.func268.trans (congrArg some (by kernel_rfl))⟩
 f47:=Tryz.func269.trans (congrArg some (by kernel_rfl))
 f48:=Tryz.func270.trans (congrArg some (by kernel_rfl))
 f49:=⟨Tryz.f271.name,by decide,Tryz.func271.trans (congrArg some (by kernel_rfl))⟩
 f50:=⟨Tryz.f272.name,by decide,Tryz.func272.trans (congrArg some (by kernel_rfl))⟩
 f57:=⟨Tryz.f295.name,by decide,Tryz.func295.trans (congrArg some (by kernel_rfl))⟩
 t0:=Tryz.underlying0
 a0:=Tryz.isAgg0
 z0:=Tryz.sizeOf0
 v0:=Tryz.zeroValue0
 t3:=Tryz.underlying3
 a3:=Tryz.isAgg3
 z3:=Tryz.sizeOf3
 v3:=Tryz.zeroValue3
 t4:=Tryz.underlying4
 a4:=Tryz.isAgg4
 z4:=Tryz.sizeOf4
 v4:=Tryz.zeroValue4
 t5:=Tryz.underlying5
 a5:=Tryz.isAgg5
 z5:=Tryz.sizeOf5
 v5:=Tryz.zeroValue5
 t9:=Tryz.underlying9
 a9:=Tryz.isAgg9
 z9:=Tryz.sizeOf9
 v9:=Tryz.zeroValue9
 t22:=Tryz.underlying31
 a22:=Tryz.isAgg31
 z22:=Tryz.sizeOf31
 v22:=Tryz.zeroValue31
 t25:=Tryz.underlying149
 a25:=Tryz.isAgg149
 z25:=Tryz.sizeOf149
 v25:=Tryz.zeroValue149
 t39:=Tryz.underlying105
 a39:=Tryz.isAgg105
 z39:=Tryz.sizeOf105
 v39:=Tryz.zeroValue105
 t45:=Tryz.underlying281
 a45:=Tryz.isAgg281
 z45:=Tryz.sizeOf281
 v45:=Tryz.zeroValue281
 t46:=Tryz.underlying282
 a46:=Tryz.isAgg282
 z46:=Tryz.sizeOf282
 v46:=Tryz.zeroValue282
 t50:=Tryz.underlying131
 a50:=Tryz.isAgg131
 z50:=Tryz.sizeOf131
 v50:=Tryz.zeroValue131
 t53:=Tryz.underlying176
 a53:=Tryz.isAgg176
 z53:=Tryz.sizeOf176
 v53:=Tryz.zeroValue176
 t55:=Tryz.underlying179
 a55:=Tryz.isAgg179
 z55:=Tryz.sizeOf179
 v55:=Tryz.zeroValue179
 t66:=Tryz.underlying318
 a66:=Tryz.isAgg318
 z66:=Tryz.sizeOf318
 v66:=Tryz.zeroValue318
 t70:=Tryz.underlying322
 a70:=Tryz.isAgg322
 z70:=Tryz.sizeOf322
 v70:=Tryz.zeroValue322
 t76:=Tryz.underlying339
 a76:=Tryz.isAgg339
 z76:=Tryz.sizeOf339
 v76:=Tryz.zeroValue339
 t77:=Tryz.underlying340
 a77:=Tryz.isAgg340
 z77:=Tryz.sizeOf340
 v77:=Tryz.zeroValue340}
end Go.Proofs
namespace Go.Proofs
open Go.Shelf
def Tryz.laysNm224_ren:Go.Shelf.Ren:=⟨fun|24=>73|n=>n,fun|24=>33|9=>9|3=>3|4=>4|0=>0|n=>n,fun|n=>n⟩
theorem Tryz.laysNm224:Go.Proofs.Lays2.n24 Tryz.prog Tryz.laysNm224_ren:={
 mixed:=by kernel_rfl
 f24:=Tryz.func73.trans (congrArg some (by kernel_rfl))
 t0:=Tryz.underlying0
 a0:=Tryz.isAgg0
 z0:=Tryz.sizeOf0
 v0:=Tryz.zeroValue0
 t3:=Tryz.underlying3
 a3:=Tryz.isAgg3
 z3:=Tryz.sizeOf3
 v3:=Tryz.zeroValue3
 t4:=Tryz.underlying4
 a4:=Tryz.isAgg4
 z4:=Tryz.sizeOf4
 v4:=Tryz.zeroValue4
 t9:=Tryz.underlying9
 a9:=Tryz.isAgg9
 z9:=Tryz.sizeOf9
 v9:=Tryz.zeroValue9
 t24:=Tryz.underlying33
 a24:=Tryz.isAgg33
 z24:=Tryz.sizeOf33
 v24:=Tryz.zeroValue33
 i9:=by kernel_rfl}
open Go.RowKit Go.Lib Go.Sort in
theorem Tryz.slices_Delete_string(blk off cap i j:Nat)(zs:List (List UInt8))(w:World)(hH:Holds encStr w blk off zs.toArray)(AW:zs.length<=cap)(hm:cap<=9223372036854775807)(Bj:i<=j)(hj:j<=zs.length) :
  Calls Tryz.prog 73 #[.slice (some ⟨blk,off,none⟩) zs.length cap,.int .i64 i,.int .i64 j] w fun e w'=>e=.returned (.slice (some ⟨blk,off,none⟩) (zs.length-(j-i)) cap)/\∃q,w'=putRow encStr (Sort.ahead w q) blk off (zs.take i++zs.drop j++List.replicate (j-i) []).toArray:=Any.slices_Delete_string Tryz.laysNm224 blk off cap i j zs w hH AW hm Bj hj
end Go.Proofs
namespace Kl
def Ki(b:UInt8):Bool:=(decide (97<=b.toNat)&&decide (b.toNat<=122))||(decide (65<=b.toNat)&&decide (b.toNat<=90))
def Nv(b:UInt8):Bool:=(decide (48<=b.toNat)&&decide (b.toNat<=57))||decide (b.toNat=95)
def nameB:Bs→Bool
 | []=>false
 | b::l=>decide (l.length < 32) && (Ki b && l.all (fun c=>Ki c || Nv c))
def Ds{α:Type}(p:α→Bool)(l:List α):Int:=match l.findIdx? p with|some j=>(j:Int)|none=>-1
theorem nE{α:Type}{p:α→Bool}{l:List α}{j:Nat}(hj:j<l.length)(hno:∀q∈l.take j,p q=false)(h:p l[j]=true):Ds p l=(j:Int):=by
 unfold Ds
 have:l.findIdx? p=some j:=by rw [List.findIdx?_eq_some_iff_getElem];refine⟨hj,h,fun i hi=>?_⟩;rw [Bool.not_eq_true];refine hno l[i] ?_;rw [List.mem_take_iff_getElem];exact⟨i,by omega,rfl⟩
 rw [this]
theorem nG{α:Type}{p:α→Bool}{l:List α}(hno:∀q∈l,p q=false):Ds p l = -1:=by
 unfold Ds
 have:l.findIdx? p=none:=by rw [List.findIdx?_eq_none_iff];exact hno
 rw [this]
theorem nD{α:Type}(p:α→Bool)(l:List α):decide (0<=Ds p l)=l.any p:=by
 unfold Ds
 cases h:l.findIdx? p with
 | none=>
  rw [List.findIdx?_eq_none_iff]at h
  symm
  simp only [Int.reduceNeg,Int.reduceLE,decide_false,List.any_eq_false];intro x hx;rw [h x hx];simp
 | some j=>
  rw [List.findIdx?_eq_some_iff_getElem]at h;obtain⟨hj,h1,_⟩:=h;rw [decide_eq_true (by simp)]
  symm
  rw [List.any_eq_true];exact⟨_,List.getElem_mem hj,h1⟩
theorem Ak6{α:Type}(p:α→Bool)(l:List α):-1<=Ds p l:=by
 unfold Ds
 split<;>omega
theorem Ak7{α:Type}(p:α→Bool)(l:List α):Ds p l<(l.length:Int):=by
 unfold Ds
 split
 ·rename_i j h
  rw [List.findIdx?_eq_some_iff_getElem]at h;obtain⟨hj,_⟩:=h;omega
 ·omega
end Kl
namespace Go.Proofs.YtnddllipjippnaaGreatDoor
open Go.RowKit Kl
def AnS{α:Type} : Result α→World
 | .ok _ w=>w
 | .halt _ w=>w
theorem Af0{α:Type}(a:Ask α):∀(w:World),w.drawn<=(w.ask a).2.drawn:=by
 induction a with
 | done a=>intro w;exact As0 _
 | ask what range k ih=>
  intro w;unfold World.ask;simp only []
  split
  ·exact ih _ _
  ·exact AsA (Nat.le_succ w.drawn) (ih _ {w with drawn:=w.drawn+1})
theorem Apg(w:World)(c:Sys):w.drawn<=(w.sys c).2.drawn:=by
 have h:=Af0 (Kernel.perform c w.os) w;unfold World.sys
 split
 ·exact As0 _
 ·rename_i r os w' _ he
  rw [he]at h;exact h
theorem Ahr{ε α β:Type}{x:Except ε α}{f:α→Except ε β}{y:β}(h:(x >>= f)=.ok y):∃a,x=.ok a/\f a=.ok y:=by
 cases x with
 | error e=>cases h
 | ok a=>exact⟨a,rfl,h⟩
theorem Apz{p:Program}{w w':World}{a:Addr}{u:TypeId}{k:Addr}{v:Value}{at_:Bool}{l:List Addr}(h:w.viewStore p a u k v at_=.ok (w',l)):w'.drawn=w.drawn:=by
 unfold World.viewStore at h;simp only []at h
 repeat' first
  | (cases h;done)
  | (simp only [pure,Except.pure,Except.ok.injEq,Prod.mk.injEq]at h;obtain⟨rfl,_⟩:=h;rfl)
  | (obtain⟨_,_,h⟩:=Ahr h)
  | split at h
theorem Ah3{p:Program}{w w':World}{a:Addr}{v:Value}{at_:Bool}{l:List Addr}(h:w.farStore p a v at_=.ok (w',l)):w'.drawn=w.drawn:=by
 unfold World.farStore at h
 split at h
 ·split at h
  ·rename_i hv;simp only [Except.ok.injEq]at h;subst h;exact Apz hv
  ·cases h
 ·cases h
theorem AbA (p : Program) {α : Type} (s : Sem α) : ∀ (w : World), w.drawn ≤ (AnS (s.run p w)).drawn := by
  induction s with
  | pure a => intro w; exact As0 _
  | load m a k ih => intro w; simp only [Sem.run]; (repeat' split) <;> first | exact ih _ _ | exact As0 _
  | store m a v k ih =>
    intro w
    cases v <;> simp only [Sem.run] <;> first
      | exact As0 _
      | (split
         · split
           · exact As0 _
           · exact ih (w.setCell a _)
         · split
           · rename_i hf; rw [← Ah3 hf]; exact ih _
           · exact As0 _)
  | new o k ih => intro w; simp only [Sem.run]; exact ih w.heap.size { w with heap := w.heap.push o }
  | shape r k ih => intro w; simp only [Sem.run]; exact ih _ _
  | freeze a n k ih =>
    intro w; simp only [Sem.run]
    refine AsA (Nat.le_of_eq ?_) (ih (w.freeze a n))
    unfold World.freeze; split <;> rfl
  | frozen a k ih => intro w; simp only [Sem.run]; exact ih _ _
  | getObj r k ih => intro w; simp only [Sem.run]; split <;> first | exact ih _ _ | exact As0 _
  | setObj r o k ih => intro w; simp only [Sem.run]; split <;> first | exact ih { w with heap := w.heap.setIfInBounds r o } | exact As0 _
  | choose q k ih => intro w; simp only [Sem.run]; split <;> first | exact ih _ _ | exact AsA (Nat.le_succ w.drawn) (ih _ { w with drawn := w.drawn + 1 })
  | sys c k ih => intro w; simp only [Sem.run]; exact AsA (Apg w c) (ih _ _)
  | program k ih => intro w; simp only [Sem.run]; exact ih _ _
  | mark m k ih => intro w; simp only [Sem.run]; exact ih _
  | halt h => intro w; exact As0 _
theorem Ih{p:Program}{α:Type}{s:Sem α}{w w':World}{a:α}(h:s.run p w=.ok a w'):w.drawn<=w'.drawn:=by
 have:=AbA p s w;rw [h]at this;exact this
theorem ZG{p:Program}{α:Type}{s:Sem α}{w w':World}{a:Halt}(h:s.run p w=.halt a w'):w.drawn<=w'.drawn:=by
 have:=AbA p s w;rw [h]at this;exact this
theorem VP{p:Program}{α:Type}{s:Sem α}{w w':World}{a:α}{es es':Array Event}(h:s.runT p w es=(.ok a w',es')):w.drawn<=w'.drawn:=by
 have e:=Sem.runT_fst p s w es;rw [h]at e;exact Ih e.symm
theorem pS{p:Program}{α:Type}{s:Sem α}{w w':World}{a:Halt}{es es':Array Event}(h:s.runT p w es=(.halt a w',es')):w.drawn<=w'.drawn:=by
 have e:=Sem.runT_fst p s w es;rw [h]at e;exact ZG e.symm
theorem ZF{p:Program}{α:Type}{s:Sem α}{w w':World}{a:α}{es:Array Event}(h:(s.runT p w es).1=.ok a w'):w.drawn<=w'.drawn:=Ih ((Sem.runT_fst p s w es).symm.trans h)
theorem Ab8{p:Program}{α:Type}{s:Sem α}{w w':World}{a:Halt}{es:Array Event}(h:(s.runT p w es).1=.halt a w'):w.drawn<=w'.drawn:=ZG ((Sem.runT_fst p s w es).symm.trans h)
def Dg(w:World):GStep→Prop
 | .go _ w' _=>w.drawn<=w'.drawn
 | .comm _ _ _ _ w' _=>w.drawn<=w'.drawn
 | .spawn _ _ w' _=>w.drawn<=w'.drawn
 | .count _ w' _=>w.drawn<=w'.drawn
 | .timer _ _ w' _=>w.drawn<=w'.drawn
 | .alone _ _ w' _=>w.drawn<=w'.drawn
 | .newcoro _ _ _ w' _=>w.drawn<=w'.drawn
 | .coroswitch _ _ _ w' _=>w.drawn<=w'.drawn
 | .collect _ w' _=>w.drawn<=w'.drawn
 | .watch _ w' _=>w.drawn<=w'.drawn
 | .ended _ _ _=>True
theorem Lm{w:World}{es:Array Event}{g:GStep}(h:Dg w g):Dg w (GStep.after es g):=by cases g<;>exact h
theorem GT{w w':World}{g:GStep}(h:w.drawn<=w'.drawn)(k:Dg w' g):Dg w g:=by
 cases g<;>first|exact AsA h k|trivial
theorem Amp(fr:Frame)(l:List ByteArray)(m:String)(b:Bool)(w:World):Dg w (dieOf fr l m b w):=As0 _
theorem Zy(fr:Frame)(m:String)(w:World):Dg w (endThrow fr m w):=As0 _
theorem Amq(w:World)(fd:Nat)(t:ByteArray)(o:Outcome):Dg w (endWith w fd t o):=by
 unfold endWith;simp only []
 repeat' first
  | trivial
  | split
theorem oL(p:Program)(fr:Frame)(v:Value)(w:World):Dg w (endPrinting p fr v w):=by
 unfold endPrinting;simp only []
 repeat' first
  | trivial
  | exact Zy _ _ _
  | split
theorem Aa4(p:Program)(fr:Frame)(cs:List Frame)(d:Option Dying)(m:String)(w:World):Dg w (endFatal p fr cs d m w):=by
 unfold endFatal;simp only []
 repeat' first
  | trivial
  | (rename_i h;exact GT (Ih h) (Amp _ _ _ _ _))
  | split
theorem Amw(p:Program)(fr:Frame)(d:Dying)(f:Fatal)(w:World):Dg w (writeOn p fr d f w):=by
 unfold writeOn;simp only []
 repeat' first
  | trivial
  | (rename_i h;exact VP h)
  | (rename_i h;exact pS h)
  | split
theorem Amo(p:Program)(fr:Frame)(d:Dying)(w:World):Dg w (die p fr d w):=by
 unfold die;simp only []
 repeat' first
  | trivial
  | exact Amw _ _ _ _ _
  | exact Amq _ _ _ _
  | exact As0 _
  | (rename_i h;exact Ih h)
  | (rename_i h;exact VP h)
  | (rename_i h;exact GT (pS h) (oL _ _ _ _))
  | (rename_i h;exact Lm (ZF h))
  | (rename_i h;exact Lm (GT (Ab8 h) (oL _ _ _ _)))
  | split
theorem Ams{w:World}{c:Prop}[Decidable c]{a b:GStep}(ha:Dg w a)(hb:Dg w b):Dg w (if c then a else b):=by split<;>assumption
theorem oM(p:Program)(b:Bool)(fr:Frame)(cs:List Frame)(d:Option Dying)(v:Value)(w:World):Dg w (doReturn p b fr cs d v w):=by
 unfold doReturn;simp only []
 repeat' first
  | trivial
  | exact As0 _
  | split
theorem Amn(p:Program)(fr:Frame)(cs:List Frame)(dy:Option Dying)(d:Deferred)(w:World):Dg w (callDeferred p fr cs dy d w):=by
 unfold callDeferred;refine Ams trivial ?_
 ·generalize hx:(invoke d.target d.args).runT p w #[]=x;obtain⟨r,es⟩:=x;simp only [];refine Lm ?_
  cases r with
  | ok a w'=>
   have hd:=VP hx
   cases a<;>(try simp only [])<;>repeat' first
    | trivial
    | exact hd
    | (injections;done)
    | (injections;subst_vars;exact hd)
    | split
  | halt h w'=>
   have hd:=pS hx
   cases h<;>(try simp only [])<;>repeat' first
    | trivial
    | exact hd
    | (injections;done)
    | (injections;subst_vars;exact hd)
    | exact GT hd (Aa4 _ _ _ _ _ _)
    | exact GT hd (Zy _ _ _)
    | split
theorem oK(p:Program)(fr:Frame)(cs:List Frame)(d:Option Dying)(g:Nat)(w:World):Dg w (early p fr cs d g w):=by
 unfold early;simp only []
 repeat' first
  | trivial
  | exact As0 _
  | (refine GT (Ih (by assumption)) ?_)
  | split
theorem Amv (p : Program) (b : Bool) (fr : Frame) (cs : List Frame) (d : Option Dying) (w : World) : Dg w (unwind p b fr cs d w) := by
  unfold unwind
  split
  · generalize hx : (Instr.takeDeferred _).runT p w #[] = x
    obtain ⟨r, es⟩ := x
    simp only []
    refine Lm ?_
    cases r with
    | ok a w' => exact VP hx
    | halt h w' => trivial
  · exact Amn _ _ _ _ _ _
  · repeat' first
      | trivial
      | exact As0 _
      | (rename_i h; exact Ih h)
      | exact oL _ _ _ _
      | exact oM _ _ _ _ _ _ _
      | (generalize hx : (results _ _).runT p w #[] = x
         obtain ⟨r, es⟩ := x
         simp only []
         refine Lm ?_
         cases r with
         | ok a w' => exact GT (VP hx) (oM _ _ _ _ _ _ _)
         | halt h w' => cases h <;> trivial)
      | split
theorem Zx(p:Program)(b:Bool)(fr:Frame)(cs:List Frame)(d:Option Dying)(s:Sem Next)(w:World):Dg w (stepG.apply p b fr cs d s w):=by
 unfold stepG.apply
 have hr:(if b=true then s.runT p w #[] else (s.run p w,#[])).1=s.run p w:=by
  split
  ·exact Sem.runT_fst p s w #[]
  ·rfl
 generalize hx:(if b=true then s.runT p w #[] else (s.run p w,#[]))=x at hr;obtain⟨r,es⟩:=x;simp only []at hr;simp only [];refine Lm ?_
 cases r with
 | ok a w'=>
  have hd:=Ih hr.symm
  cases a<;>(try simp only [])<;>repeat' first
   | trivial
   | exact hd
   | (injections;done)
   | (injections;subst_vars;exact hd)
   | (injections;subst_vars;exact GT hd (oK _ _ _ _ _ _))
   | exact GT hd (Zy _ _ _)
   | split
 | halt h w'=>
  have hd:=ZG hr.symm
  cases h<;>(try simp only [])<;>repeat' first
   | trivial
   | exact hd
   | (injections;done)
   | (injections;subst_vars;exact hd)
   | (injections;subst_vars;exact GT hd (oK _ _ _ _ _ _))
   | exact GT hd (Aa4 _ _ _ _ _ _)
   | exact GT hd (Zy _ _ _)
   | exact GT hd (oK _ _ _ _ _ _)
   | split
theorem Amt(p:Program)(b:Bool)(fr:Frame)(cs:List Frame)(d:Option Dying)(w:World):Dg w (stepG.oper p b fr cs d w):=by
 unfold stepG.oper
 split
 ·trivial
 ·split<;>exact Zx _ _ _ _ _ _ _
theorem Aa3{α:Type}{w:World}(o:Option α)(a:GStep)(f:α→GStep)(ha:Dg w a)(h:∀x,Dg w (f x)):Dg w (o.elim a f):=by
 cases o
 ·exact ha
 ·exact h _
theorem Amr(p:Program)(m b:Bool)(fr:Frame)(cs:List Frame)(d:Option Dying)(w:World):Dg w (stepG.exec p m b fr cs d w):=by
 unfold stepG.exec;simp only []
 split
 all_goals repeat' first
  | trivial
  | exact As0 _
  | exact Amt _ _ _ _ _ _
  | exact Zx _ _ _ _ _ _ _
  | (rename_i h;exact Ih h)
  | refine Aa3 _ _ _ ?_ (fun _=>As0 _)
  | exact Aa3 _ _ _ trivial (fun _=>Zx _ _ _ _ _ _ _)
  | (rename_i h;exact Lm (GT (ZF h) (oM _ _ _ _ _ _ _)))
  | (rename_i h;exact Lm (GT (ZF h) (Zx _ _ _ _ _ _ _)))
  | (rename_i h;exact Lm (ZF h))
  | (rename_i h;exact Lm (Ab8 h))
  | split
theorem Amu(p:Program)(m:Bool)(g:Goroutine)(w:World)(b:Bool):Dg w (stepG p m g w b):=by
 obtain⟨fr,callers,status,dying,offers⟩:=g;simp only [stepG]
 split
 ·exact Amo _ _ _ _
 ·exact Amr _ _ _ _ _ _ _
 ·exact Amv _ _ _ _ _ _
/-! ### The machine -/
def Ou(w:World):Stepped→Prop
 | .next m=>w.drawn<=m.world.drawn
 | .ended _ _=>True
theorem PQ{w w':World}{g:Stepped}(h:w.drawn<=w'.drawn)(k:Ou w' g):Ou w g:=by
 cases g<;>first|exact AsA h k|trivial
def VC(w:World):Move→Prop
 | .goroutine m _=>w.drawn<=m.world.drawn
 | .machine s _=>Ou w s
theorem VD{w w':World}{g:Move}(h:w.drawn<=w'.drawn)(k:VC w' g):VC w g:=by
 cases g
 ·exact AsA h k
 ·exact PQ h k
theorem Ap3{rest:Rest}{cases:Array CommCase}{w w':World}(h:waitingAt rest cases w=some w'):w'.drawn=w.drawn:=by
 unfold waitingAt at h
 repeat' first
  | (cases h;done)
  | (simp only [As4]at h;subst h;rfl)
  | split at h
theorem Am0(p:Program)(rest:Rest)(gs:Array Goroutine)(i:Nat)(g:Goroutine)(cases:Array CommCase)(b:Bool)(shape:CommShape)(w:World):Ou w (communicate p rest gs i g cases b shape w).1:=by
 unfold communicate;simp only []
 repeat' first
  | trivial
  | exact As0 _
  | (refine PQ (Ih (by assumption)) ?_)
  | (refine PQ (ZG (by assumption)) ?_)
  | (rename_i h;exact Nat.le_of_eq (Ap3 h).symm)
  | split
theorem Aa6(p:Program)(gs:Array Goroutine)(rest:Rest)(w:World):Ou w (look p gs rest w):=by
 unfold look;simp only []
 repeat' first
  | trivial
  | exact As0 _
  | (refine PQ (Ih (by assumption)) ?_)
  | split
theorem Am2(p:Program)(m:Machine)(k:Nat):Ou m.world (serve p m k):=by
 unfold serve;simp only []
 repeat' first
  | trivial
  | exact As0 _
  | split
theorem Apk{m m':Machine}{op:TimerOp}{v:Value}(h:timerOp m op=.ok (v,m')):m'.world.drawn=m.world.drawn:=by
 have hd:∀(w:World) (c:Nat),(drain w c).2.drawn=w.drawn:=by intro w c;unfold drain;split<;>rfl
 have hr:∀(m:Machine) (k:Nat) (t:Timer) (a b:Nat),(retime m k t a b).2.world.drawn=m.world.drawn:=by
  intro m k t a b;unfold retime
  cases t.chan with
  | none=>rfl
  | some c=>exact hd _ _
 have hn:∀(m m0:Machine) (var:Addr) (f:Nat→Timer→Value×Machine),(∀k t,(f k t).2.world.drawn=m0.world.drawn)→∀{v m'},timerOp.named m var f=.ok (v,m')→m'.world.drawn=m0.world.drawn:=by
  intro m m0 var f hf v m' h;unfold timerOp.named at h
  split at h
  ·simp only [Except.ok.injEq]at h;have:=hf (by assumption) (m.rest.timers.getD (by assumption) default);rw [h]at this;exact this
  ·cases h
 have ho:∀{m m':Machine} {var:Addr},timerOp.opened m var=some m'→m'.world.drawn=m.world.drawn:=by
  intro m m' var h;unfold timerOp.opened at h
  repeat' first
   | (cases h;done)
   | (simp only [As4]at h;subst h;rfl)
   | split at h
 unfold timerOp at h;simp only []at h
 repeat' first
  | (cases h;done)
  | (simp only [Except.ok.injEq,Prod.mk.injEq]at h;obtain⟨_,rfl⟩:=h;rfl)
  | exact hn _ _ _ _ (fun k t=>hr _ _ _ _ _) h
  | (rename_i h1;exact(hn _ _ _ _ (fun k t=>hr _ _ _ _ _) h).trans (ho h1))
  | split at h
theorem Am1(p:Program)(m:Machine)(i:Nat)(b:Bool):Ou m.world (runT p m i b).1:=by
 simp only [runT];generalize m.gs.swapAt! _ _=gg;have hs:=Amu p (i == 0) gg.1 m.world b
 revert hs
 generalize stepG p _ gg.1 m.world b=s;intro hs
 cases s<;>simp only [Dg]at hs<;>(try simp only [])
 all_goals repeat' first
  | trivial
  | exact hs
  | exact PQ hs (Am0 _ _ _ _ _ _ _ _ _)
  | exact PQ hs (Aa6 _ _ _ _)
  | (rename_i h;exact AsA hs (Nat.le_of_eq (Apk h).symm))
  | split
theorem AeT{p:Program}{α:Type}{s:Sem α}{W w':World}{gs:Array Goroutine}{rest:Rest}{t:Nat}{a:α}(h:s.run p (Machine.advanceTo ⟨W,gs,rest⟩ t).world=.ok a w'):W.drawn<=w'.drawn:=by have:=Ih h;exact this
theorem oO(p:Program)(m:Machine):VC m.world (askOn p m):=by
 unfold askOn;simp only []
 repeat' first
  | trivial
  | exact As0 _
  | exact Am2 _ _ _
  | (refine VD (Ih (by assumption)) ?_)
  | (refine VD (AeT (by assumption)) ?_)
  | split
theorem Aa5(p:Program)(m:Machine):VC m.world (ask p m):=by
 unfold ask
 split
 ·split
  ·trivial
  ·refine VD (Ih (by assumption)) ?_;have:=Aa6 p m.gs m.rest (by assumption)
   split
   ·rename_i h;rw [h]at this;exact VD this (oO _ _)
   ·rename_i e _;cases e<;>first|exact absurd rfl (by assumption)|trivial
  ·exact VD (Ih (by assumption)) (oO _ _)
 ·exact oO _ _
theorem Amx(p:Program)(m:Machine):VC m.world (move p m):=by
 unfold move
 repeat' first
  | trivial
  | exact As0 _
  | exact Aa5 p _
  | exact Aa5 p {m with rest:={m.rest with slice:=none}}
  | split
theorem Am3(p:Program)(m:Machine):Ou m.world (step p m):=by
 have hm:=Amx p m;unfold step stepT
 cases h:move p m with
 | goroutine m1 i=>rw [h]at hm;exact PQ hm (Am1 p m1 i true)
 | machine s ops=>rw [h]at hm;exact hm
theorem Ab7(p:Program):∀(n:Nat) (m m':Machine),runN p n m=.next m'→m.world.drawn<=m'.world.drawn
 | 0,m,m',h=>by simp only [runN,Stepped.next.injEq]at h;rw [h];exact As0 _
 | n+1,m,m',h=>by
  have hs:=Am3 p m;unfold runN at h
  cases h1:step p m with
  | next m1=>rw [h1]at h hs;exact AsA hs (Ab7 p n m1 m' h)
  | ended o w=>rw [h1]at h;cases h
theorem Steps.drawn{P:Program}{m m':Machine}(h:Steps P m m'):m.world.drawn<=m'.world.drawn:=by
 obtain⟨n,hn⟩:=h;exact Ab7 P n m m' hn
theorem Calls.drawn{P:Program}{f:FuncId}{args:Array Value}{w:World}{R:Ending→World→Prop}(h:Calls P f args w R)(hr:∀e w',R e w'→∃v,e=.returned v):Calls P f args w fun e w'=>R e w'/\w.drawn<=w'.drawn:=by
 intro cs;obtain⟨e,w',fr,h1,h2,h3⟩:=h cs;obtain⟨v,rfl⟩:=hr e w' h1;exact⟨_,w',fr,⟨h1,Steps.drawn h2⟩,h2,h3⟩
theorem Ab.grow{w w':World}(h:Ab w w')(hd:w.drawn<=w'.drawn):∃q os,w'=Go.Sort.grow (w.drewN q) os:=by
 refine⟨w'.drawn-w.drawn,w'.heap.extract w.heap.size w'.heap.size,?_⟩
 have hh:w.heap++w'.heap.extract w.heap.size w'.heap.size=w'.heap:=by
  apply Array.ext_getElem?;intro i;rw [Array.getElem?_append]
  split
  ·rename_i hi;exact(h.block i hi).symm
  ·rename_i hi
   rw [Array.getElem?_extract]
   split
   ·congr 1;omega
   ·rw [Array.getElem?_eq_none (by omega)]
 have h1:=h.os;have h2:=h.tape;have h3:=h.output;unfold Go.Sort.grow World.drewN;simp only;rw [hh,Nat.add_sub_of_le hd,←h1,←h2,←h3]
end Go.Proofs.YtnddllipjippnaaGreatDoor
