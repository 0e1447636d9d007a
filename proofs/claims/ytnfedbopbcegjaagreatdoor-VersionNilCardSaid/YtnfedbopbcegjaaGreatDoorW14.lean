/- W14. -/
import Derived.Test.YtnfedbopbcegjaaGreatDoorW11
import Derived.Test.YtnfedbopbcegjaaGreatDoorRows
import Derived.LaidMore
import Derived.Stop.LaidErr
import Derived.Deep.DeepHandedRow
set_option maxRecDepth 100000
namespace Go.Proofs.YtnfedbopbcegjaaGreatDoor
open Go.RowKit Kl Go.ChangeShapes Go.WideShapes
theorem own:ownKnob Tryz.prog.godebug=none:=by kernel_rfl
theorem laidOut:laidOutB Tryz.prog=true:=by kernel_rfl
def QR:List (String×DataW Unit):=("math/bits.deBruijn32tab",Rows.laid_math_bits_deBruijn32tab)::("math/bits.deBruijn64tab",Rows.laid_math_bits_deBruijn64tab)::("internal/strconv.uint64pow10",Rows.laid_internal_strconv_uint64pow10)::("strconv.ErrRange",Rows.laid_strconv_ErrRange)::("strconv.ErrSyntax",Rows.laid_strconv_ErrSyntax) :: []
theorem AaC:Tryz.prog.globalNamed "internal/strconv.uint64pow10" = some 1:=by kernel_rfl
theorem AaD:Tryz.prog.globalNamed "strconv.ErrRange" = some 3:=by kernel_rfl
theorem AaE:Tryz.prog.globalNamed "strconv.ErrSyntax" = some 2:=by kernel_rfl
theorem star : "*" ++ "errors.errorString" = "*errors.errorString":=by decide
theorem xZ(u:TypeId)(h:Tryz.prog.typeName? 3 u=some "*errors.errorString"):u=364:=
 typeName_ptr_named (nm:= "errors.errorString") (by rw [star];kernel_rfl) (by kernel_rfl) (by decide) u (by rw [star];exact h)
theorem AeV{W:World}(hs:W.ShapedOpen Tryz.prog)(hL:laidMetH Tryz.prog QR W):Ak W:=by
 rw [MakeChecks.laidMetH_plain _ _ _ (by kernel_rfl)]at hL;have h3:=hL.tail.tail;obtain⟨a0,t0,hv0,_⟩:=laid_sentinel (g:=3) h3.tail AaD (by kernel_rfl) Tryz.underlying265 xZ Tryz.underlying364 Tryz.underlying366 rfl rfl Tryz.underlying9 (by kernel_rfl) (by kernel_rfl);obtain⟨a1,t1,Zb,_⟩:=laid_sentinel (g:=2) h3.tail.tail AaE (by kernel_rfl) Tryz.underlying265 xZ Tryz.underlying364 Tryz.underlying366 rfl rfl Tryz.underlying9 (by kernel_rfl) (by kernel_rfl);exact⟨hs,Lib.tabIs_of_head (t:=353) (e:=261) (n:=20) AaC (by kernel_rfl) Tryz.underlying353 Tryz.underlying261 (by kernel_rfl) (by kernel_rfl) h3,⟨_,_,Zb⟩,⟨_,_,hv0⟩⟩
/-! ### The arguments -/
theorem ut{w:World}{base:Nat}{t:TypeId}{k:IntKind}{v:Value}(ht:Tryz.prog.underlying t=some (.int k))(h:Cell.okWide Tryz.prog w .any base t v):∃n,v=.int k n/\k.has n:=by
 simp only [Cell.okWide,ht]at h
 cases v<;>simp_all [Cell.ok]
/-! ### What the row asks at its end -/
section
variable {H : Type} {enc : TypeId × Value → H} {P : Program}
theorem Af1{f:Func}{s:ChangeSpec}{apart fresh Ab2 again:Bool}{W W':World}{args:Array Value}{v:Value}{ds gs:List (DataW H)}{before pa pv:List MemPlace}
  (hW:DataW.Whole enc P f.params.toList s.vars apart W args.toList ds gs before)
  (hres:∀(b:Nat) (sp:Nat→Bool) (hd:Bool),DataW.TrodAll enc P W' b sp hd f.resultTypes.toList (v.resultList f.resultTypes.size) (s.fn H (ds++gs)).results [])
  (lZ:∀sp:Nat→Bool,(∀p∈before,sp p.block=true)→DataW.TrodAll enc P W' 0 sp true f.params.toList args.toList (s.fn H (ds++gs)).args pa)
  (sL:∀sp:Nat→Bool,(∀p∈before,sp p.block=true)→DataW.TrodVars enc P W' sp s.vars (s.fn H (ds++gs)).vars pv)
  (Kd:before=pa++pv) (hb:Below W.heap.size W W')
  (Ai:∀(j:Nat) (t:TypeId) (r:Value),f.resultTypes[j]?=some t→(v.resultList f.resultTypes.size)[j]?=some r→Value.okWide P W' .any 0 t r) :
  s.post enc P f apart fresh Ab2 again W args v W':=by
 have hlt:∀p∈before,p.block<W.heap.size:=fun p hp=>hW.lt p hp;have hold:∀p∈before,(fun b=>decide (b<W.heap.size)) p.block=true:=fun p hp=>(by simpa using hlt p hp);refine⟨ds,gs,before,[],pa,pv,hW,hres _ _ _,lZ _ hold,sL _ hold,World.keptBut_mono (fun p hp=>⟨hp,?_⟩) (hb.frame (·∈before)),fun _=>?_⟩
 ·rw [Kd,List.mem_append]at hp;exact Or.inr hp
 ·obtain⟨_,_,_,_,_,hz,hn⟩:=hW;refine⟨Ai,_,_,([]++pa)++pv,⟨[]++pa,pv,trodAll_append (lZ _ (fun _ _=>rfl)) (hres _ _ _),sL _ (fun _ _=>rfl),rfl,?_,?_⟩,?_⟩
  ·intro b off hp;have hin:MemPlace.cell b off∈before:=(by rw [Kd];simpa using hp);rw [hb.frozen (hlt _ hin)];exact hz b off hin
  ·intro ha;have:=hn ha;rw [Kd]at this
   simpa using this
  ·intro p hp _;rw [Kd]
   simpa using hp
end
theorem door_met(os:Os)(args:Array Value):laidMetH Tryz.prog QR ((World.doorLaid Tryz.prog 62 os).forCall (fun _ _=>0) ⟨#[],args,[]⟩).memory:=
 laidMetH_of_parts3 (fuel:=8) (laidMet_of_run' 8 (by kernel_rfl) (by kernel_rfl)) (by kernel_rfl) (by kernel_rfl)
theorem Aho{H:Type}{enc:TypeId×Value→H}{t:TypeId}(hr:Tryz.prog.readableRec t=true)(hrow:t<Tryz.prog.types.size){W W':World}{v:Value}{d:DataW H}{ps:List MemPlace}{sp:Nat→Bool}
  (h:DataW.Trod enc Tryz.prog W 0 (fun _=>true) true t v d ps) (hb:Below W.heap.size W W') (hlt:∀x∈ps,x.block<W.heap.size) (hsp:∀x∈ps,sp x.block=true):DataW.Trod enc Tryz.prog W' 0 sp true t v d ps:=
 WideElems.Trod_stays laidOut hr hrow h (fun x hx=>hb.same (hlt x hx)) hsp
end Go.Proofs.YtnfedbopbcegjaaGreatDoor
