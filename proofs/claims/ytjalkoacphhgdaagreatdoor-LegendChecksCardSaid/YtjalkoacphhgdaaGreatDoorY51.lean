/- Y51: LGZC. -/
import Derived.Test.YtjalkoacphhgdaaGreatDoorY50
import Derived.Test.YtjalkoacphhgdaaGreatDoorY46
import Derived.Test.YtjalkoacphhgdaaGreatDoorY08
import Derived.Test.YtjalkoacphhgdaaGreatDoorY09
import Derived.Test.YtjalkoacphhgdaaGreatDoorTie
import Derived.Test.YtjalkoacphhgdaaGreatDoorCards
set_option maxRecDepth 100000
namespace Go.Proofs.YtjalkoacphhgdaaGreatDoor
open Go.RowKit Kl Go.ChangeShapes Go.WideShapes
theorem AfH(os:Os)(started:os.Started)(H:Type)(enc:TypeId×Value→H) :
  ReturnsInHanded {} Tryz.checked os 6 .any (fun w args=>(Rows.legendChecksSpec.pre enc Tryz.prog Tryz.f6 [] false w args/\laidMetH Tryz.prog SH w)/\sizedMet enc Tryz.prog Tryz.f6 (OpenSpec.ofChange Rows.legendChecksSpec) false w args)
   (Rows.legendChecksSpec.post enc Tryz.prog Tryz.f6 false true false false):=by
 refine returnsInHanded_of_row (C:=Tryz.checked) (s:=OpenSpec.ofChange Rows.legendChecksSpec) (F:=fun _ _ _=>0) (conds:=[]) (laid:=SH) own started (by kernel_rfl) Tryz.func6
  (ChangeSpec.witness_shaped (enc:=enc) (C:=Tryz.checked) (os:=os) (s:=Rows.legendChecksSpec) (X:=fun w _=>laidMetH Tryz.prog SH w) false (World.doorLaid Tryz.prog 62 os) #[.slice none 0 0] 8 rfl (World.shaped_of_RefB (by kernel_rfl) (by kernel_rfl)) (by kernel_rfl) (by kernel_rfl) (by kernel_rfl) (door_met os _)) ?_
 intro W base args ds gs before xZ hW _ _ _ hL hS _;have hval:∀(j:Nat) t v,Tryz.f6.params[j]?=some t→args[j]?=some v→Value.okWide Tryz.prog W .any base t v:=xZ;have ZC:=hW;obtain⟨p,q,Rq,hV,rfl,hfz,Ci⟩:=hW;have hA:DataW.TrodAll enc Tryz.prog W 0 (fun _=>true) true Tryz.f6.params.toList args.toList ds p:=Rq;rw [Tryz.params6]at hA hval;obtain⟨v0,d0,rfl,rfl,h0⟩:=trodAll_one hA;obtain⟨rfl,rfl⟩:=trodVars_none hV;obtain⟨l,A,cap,rfl,Cw,hcm,hr⟩:=Ahd (hval 0 _ v0 rfl rfl) h0;have hlt:=fun x hx=>DataW.Whole.lt ZC x hx;clear Rq xZ;simp only [List.append_nil]at ZC hlt;refine(Aat l A cap W (AgZ hS hL) hr Cw hcm).mono fun e W' ⟨he,hx⟩=>?_;subst he;refine⟨_,rfl,AhE (pa:=p) (pv:=[]) ZC (fun _ _ _=>trodAll_mk1 (shut_bool Tryz.underlying4 _)) (fun sp hsp=>?_) (fun _ _=>rfl) (by simp) hx (ok_one (by kernel_rfl) rfl (okWide_bool_mk Tryz.underlying4 _))⟩;rw [Tryz.params6];exact trodAll_mk1 (AjS (by kernel_rfl) (of_decide_eq_true (by kernel_rfl)) h0 hx (fun x hxx=>hlt x hxx) (fun x hxx=>hsp x hxx))
theorem AfI:Rows.LegendChecksSaid:=
 OpenClaim.holds_of_wide 6 Tryz.f6 rfl rfl rfl rfl rfl rfl rfl ⟨rfl,rfl,rfl,rfl,rfl⟩ rfl rfl rfl rfl rfl (by kernel_rfl) Tryz.func6 AfF
  (of_decide_eq_true (by kernel_rfl)) (by unfold Func.isWrapper;first|(rw [if_pos (by decide +kernel)];kernel_rfl)|(rw [if_neg (by decide +kernel)];exact⟨rfl,rfl⟩))
  (fun os started H enc _=>AfH os started H enc)
theorem legendChecks_holds:Rows.LegendChecksCardSaid:=
 Claim7.holds_tied_plain_at .later [] [.data,.data,.data,.sentinel,.sentinel] true (true,"56e4cf88326fb5e512d1544700b88b3829c2e61c9bb533ae2bf7c5bf8c850bfe") true
  AfI (fun _ h=>by cases h) (by kernel_rfl) (fun _ h=>by cases h) legendChecks_row_tie rfl ⟨rfl,rfl⟩ (by kernel_rfl) rfl
  (fun f fn hf hfn=>by
   obtain rfl:f=6:=Option.some.inj ((show Tryz.prog.funcNamed "klippe/klippelaw50.LegendChecks" = some 6 by kernel_rfl).symm.trans hf) |>.symm;obtain rfl:fn=Tryz.f6:=(Option.some.inj (Tryz.func6.symm.trans hfn)).symm
   exact⟨AfV,fun j t ht=>by
    rw [Tryz.params6]at ht;have hm:t∈[26]:=(by simpa using Array.mem_of_getElem? ht);have hall:([26].all fun u=>!Tryz.prog.wantsStandIn u)=true:=by kernel_rfl
    exact(show Tryz.prog.wantsStandIn t=false by simpa using List.all_eq_true.1 hall t hm)⟩)
  AfG
#print axioms legendChecks_holds
end Go.Proofs.YtjalkoacphhgdaaGreatDoor
