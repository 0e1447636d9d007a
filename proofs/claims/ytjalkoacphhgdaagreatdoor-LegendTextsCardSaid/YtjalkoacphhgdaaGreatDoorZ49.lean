/- Z49: LGZT. -/
import Derived.Test.YtjalkoacphhgdaaGreatDoorZ48
import Derived.Test.YtjalkoacphhgdaaGreatDoorZ44
import Derived.Test.YtjalkoacphhgdaaGreatDoorZ06
import Derived.Test.YtjalkoacphhgdaaGreatDoorZ07
import Derived.Test.YtjalkoacphhgdaaGreatDoorTie
import Derived.Test.YtjalkoacphhgdaaGreatDoorCards
set_option maxRecDepth 100000
namespace Go.Proofs.YtjalkoacphhgdaaGreatDoor
open Go.RowKit Kl Go.ChangeShapes Go.WideShapes
theorem Agm(os:Os)(started:os.Started)(H:Type)(enc:TypeId×Value→H) :
  ReturnsInHanded {} Tryz.checked os 4 .any (fun w args=>(Rows.legendTextsSpec.pre enc Tryz.prog Tryz.f4 [] false w args/\laidMetH Tryz.prog SN w)/\sizedMet enc Tryz.prog Tryz.f4 (OpenSpec.ofChange Rows.legendTextsSpec) false w args)
   (Rows.legendTextsSpec.post enc Tryz.prog Tryz.f4 false true false false):=by
 refine returnsInHanded_of_row (C:=Tryz.checked) (s:=OpenSpec.ofChange Rows.legendTextsSpec) (F:=fun _ _ _=>0) (conds:=[]) (laid:=SN) own started (by kernel_rfl) Tryz.func4
  (ChangeSpec.witness_shaped (enc:=enc) (C:=Tryz.checked) (os:=os) (s:=Rows.legendTextsSpec) (X:=fun w _=>laidMetH Tryz.prog SN w) false (World.doorLaid Tryz.prog 62 os) #[.slice none 0 0,.string ⟨#[]⟩] 8 rfl (World.shaped_of_RefB (by kernel_rfl) (by kernel_rfl)) (by kernel_rfl) (by kernel_rfl) (by kernel_rfl) (door_met os _)) ?_
 intro W base args ds gs before yX hW _ _ _ hL hS _;have hval:∀(j:Nat) t v,Tryz.f4.params[j]?=some t→args[j]?=some v→Value.okWide Tryz.prog W .any base t v:=yX;have ZT:=hW;obtain⟨p,q,Rp,hV,rfl,hfz,BU⟩:=hW;have hA:DataW.TrodAll enc Tryz.prog W 0 (fun _=>true) true Tryz.f4.params.toList args.toList ds p:=Rp;rw [Tryz.params4]at hA hval;obtain⟨v0,v1,d0,d1,p0,p1,rfl,rfl,rfl,h0,h1⟩:=trodAll_two hA;obtain⟨rfl,rfl⟩:=trodVars_none hV;obtain⟨l,A,cap,rfl,Cu,hcm,hr⟩:=AhH (hval 0 _ v0 rfl rfl) h0;obtain⟨u,rfl⟩:=AaJ Tryz.underlying9 (show Cell.okWide Tryz.prog W .any base 9 v1 by have:=hval 1 9 v1 rfl rfl;simpa only [Value.okWide,Tryz.underlying9]using this);have hlt:=fun x hx=>DataW.Whole.lt ZT x hx;clear Rp yX;simp only [List.append_nil]at ZT hlt;refine(Aku l A cap u W (AhE hS hL) hr Cu hcm).mono fun e W' ⟨he,hx⟩=>?_;subst he;refine⟨_,rfl,Aiq (pa:=p0++p1) (pv:=[]) ZT (fun _ _ _=>trodAll_mk1 (shut_bool Tryz.underlying4 _)) (fun sp hsp=>?_) (fun _ _=>rfl) (by simp) hx (ok_one (by kernel_rfl) rfl (okWide_bool_mk Tryz.underlying4 _))⟩;rw [Tryz.params4]
 exact trodAll_mk2 (pj (by kernel_rfl) (of_decide_eq_true (by kernel_rfl)) h0 hx (fun x hxx=>hlt x (List.mem_append_left _ hxx)) (fun x hxx=>hsp x (List.mem_append_left _ hxx)))
  (pj (by kernel_rfl) (of_decide_eq_true (by kernel_rfl)) h1 hx (fun x hxx=>hlt x (List.mem_append_right _ hxx)) (fun x hxx=>hsp x (List.mem_append_right _ hxx)))
theorem Agn:Rows.LegendTextsSaid:=
 OpenClaim.holds_of_wide 4 Tryz.f4 rfl rfl rfl rfl rfl rfl rfl ⟨rfl,rfl,rfl,rfl,rfl⟩ rfl rfl rfl rfl rfl (by kernel_rfl) Tryz.func4 Agk
  (of_decide_eq_true (by kernel_rfl)) (by unfold Func.isWrapper;first|(rw [if_pos (by decide +kernel)];kernel_rfl)|(rw [if_neg (by decide +kernel)];exact⟨rfl,rfl⟩))
  (fun os started H enc _=>Agm os started H enc)
theorem legendTexts_holds:Rows.LegendTextsCardSaid:=
 Claim7.holds_tied_plain_at .later [] [.data,.data,.data,.sentinel,.sentinel] true (true,"56e4cf88326fb5e512d1544700b88b3829c2e61c9bb533ae2bf7c5bf8c850bfe") true
  Agn (fun _ h=>by cases h) (by kernel_rfl) (fun _ h=>by cases h) legendTexts_row_tie rfl ⟨rfl,rfl⟩ (by kernel_rfl) rfl
  (fun f fn hf hfn=>by
   obtain rfl:f=4:=Option.some.inj ((show Tryz.prog.funcNamed "klippe/klippelaw50.LegendTexts" = some 4 by kernel_rfl).symm.trans hf) |>.symm;obtain rfl:fn=Tryz.f4:=(Option.some.inj (Tryz.func4.symm.trans hfn)).symm
   exact⟨Ag1,fun j t ht=>by
    rw [Tryz.params4]at ht;have hm:t∈[43,9]:=(by simpa using Array.mem_of_getElem? ht);have hall:([43,9].all fun u=>!Tryz.prog.wantsStandIn u)=true:=by kernel_rfl
    exact(show Tryz.prog.wantsStandIn t=false by simpa using List.all_eq_true.1 hall t hm)⟩)
  Agl
#print axioms legendTexts_holds
end Go.Proofs.YtjalkoacphhgdaaGreatDoor
