/- K49: ShSL21. -/
import Derived.Test.YtgnejnampofhoaaGreatDoorK48
import Derived.Test.YtgnejnampofhoaaGreatDoorK14
import Derived.Test.YtgnejnampofhoaaGreatDoorK09
import Derived.Test.YtgnejnampofhoaaGreatDoorK07
import Derived.Test.YtgnejnampofhoaaGreatDoorK08
import Derived.Test.YtgnejnampofhoaaGreatDoorTie
import Derived.Test.YtgnejnampofhoaaGreatDoorCards
set_option maxRecDepth 100000
namespace Go.Proofs.YtgnejnampofhoaaGreatDoor
open Go.RowKit Kl Go.ChangeShapes Go.WideShapes
theorem Aeu{w:World}{base:Nat}{v:Value}(h:Value.okWide Tryz.prog w .any base 5 v):∃n:Nat,n<256/\v=.int .u8 (n:Nat):=by
 have k:Cell.okWide Tryz.prog w .any base 5 v:=(by simpa only [Value.okWide,Tryz.underlying5]using h);obtain⟨n,h1,h2⟩:=s8 Tryz.underlying5 k;have h3:0<=n/\n<=255:=h2;exact⟨n.toNat,by omega,by rw [h1];congr 1;omega⟩
theorem Agn(os:Os)(started:os.Started)(H:Type)(enc:TypeId×Value→H) :
  ReturnsInHanded {} Tryz.checked os 3 .any (fun w args=>(Rows.sheetLimitsSpec.pre enc Tryz.prog Tryz.f3 [] false w args/\laidMetH Tryz.prog RO w)/\sizedMet enc Tryz.prog Tryz.f3 (OpenSpec.ofChange Rows.sheetLimitsSpec) false w args)
   (Rows.sheetLimitsSpec.post enc Tryz.prog Tryz.f3 false true false false):=by
 refine returnsInHanded_of_row (C:=Tryz.checked) (s:=OpenSpec.ofChange Rows.sheetLimitsSpec) (F:=fun _ _ _=>0) (conds:=[]) (laid:=RO) own started (by kernel_rfl) Tryz.func3
  (ChangeSpec.witness_shaped (enc:=enc) (C:=Tryz.checked) (os:=os) (s:=Rows.sheetLimitsSpec) (X:=fun w _=>laidMetH Tryz.prog RO w) false (World.doorLaid Tryz.prog 62 os) #[.int .u8 0] 8 rfl (World.shaped_of_RefB (by kernel_rfl) (by kernel_rfl)) (by kernel_rfl) (by kernel_rfl) (by kernel_rfl) (door_met os _)) ?_
 intro W base args ds gs before tJ hW _ _ _ hL hS _;have hval:∀(j:Nat) t v,Tryz.f3.params[j]?=some t→args[j]?=some v→Value.okWide Tryz.prog W .any base t v:=tJ;have Yx:=hW;obtain⟨p,q,Q4,hV,rfl,hfz,Ci⟩:=hW;have hA:DataW.TrodAll enc Tryz.prog W 0 (fun _=>true) true Tryz.f3.params.toList args.toList ds p:=Q4;rw [Tryz.params3]at hA hval;obtain⟨v0,d0,rfl,rfl,h0⟩:=trodAll_one hA;obtain⟨rfl,rfl⟩:=trodVars_none hV;obtain⟨a,ha,rfl⟩:=Aeu (hval 0 _ v0 rfl rfl);have hlt:=fun x hx=>DataW.Whole.lt Yx x hx;clear Q4 tJ;simp only [List.append_nil]at Yx hlt;refine(Agj a ha W (Aeq hS hL)).mono fun e W' ⟨he,hx⟩=>?_;subst he;refine⟨_,rfl,AeM (pa:=p) (pv:=[]) Yx (fun _ _ _=>trodAll_mk1 (shut_bool Tryz.underlying4 _)) (fun sp hsp=>?_) (fun _ _=>rfl) (by simp) hx (ok_one (by kernel_rfl) rfl (okWide_bool_mk Tryz.underlying4 _))⟩;rw [Tryz.params3];exact trodAll_mk1 (AgR (by kernel_rfl) (of_decide_eq_true (by kernel_rfl)) h0 hx (fun x hxx=>hlt x hxx) (fun x hxx=>hsp x hxx))
theorem Ago:Rows.SheetLimitsSaid:=
 OpenClaim.holds_of_wide 3 Tryz.f3 rfl rfl rfl rfl rfl rfl rfl ⟨rfl,rfl,rfl,rfl,rfl⟩ rfl rfl rfl rfl rfl (by kernel_rfl) Tryz.func3 Agk
  (of_decide_eq_true (by kernel_rfl)) (by unfold Func.isWrapper;first|(rw [if_pos (by decide +kernel)];kernel_rfl)|(rw [if_neg (by decide +kernel)];exact⟨rfl,rfl⟩))
  (fun os started H enc _=>Agn os started H enc)
theorem sheetLimits_holds:Rows.SheetLimitsCardSaid:=
 Claim7.holds_tied_plain_at .later [] [.data,.data,.data,.sentinel,.sentinel] true (true,"cc102229ce94a82fcd59cf0e7aaf928c99bd5c7a0e3acad2b34f04565eb3f831") true
  Ago (fun _ h=>by cases h) (by kernel_rfl) (fun _ h=>by cases h) sheetLimits_row_tie rfl ⟨rfl,rfl⟩ (by kernel_rfl) rfl
  (fun f fn hf hfn=>by
   obtain rfl:f=3:=Option.some.inj ((show Tryz.prog.funcNamed "klippe/klippelaw46.SheetLimits" = some 3 by kernel_rfl).symm.trans hf) |>.symm;obtain rfl:fn=Tryz.f3:=(Option.some.inj (Tryz.func3.symm.trans hfn)).symm
   exact⟨Adv,fun j t ht=>by
    rw [Tryz.params3]at ht;have hm:t∈[5]:=(by simpa using Array.mem_of_getElem? ht);have hall:([5].all fun u=>!Tryz.prog.wantsStandIn u)=true:=by kernel_rfl
    exact(show Tryz.prog.wantsStandIn t=false by simpa using List.all_eq_true.1 hall t hm)⟩)
  Agl
#print axioms sheetLimits_holds
end Go.Proofs.YtgnejnampofhoaaGreatDoor
