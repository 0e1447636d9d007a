/- W50: ShVBLZ. -/
import Derived.Test.YtnfedbopbcegjaaGreatDoorW49
import Derived.Test.YtnfedbopbcegjaaGreatDoorW14
import Derived.Test.YtnfedbopbcegjaaGreatDoorW08
import Derived.Test.YtnfedbopbcegjaaGreatDoorW09
import Derived.Test.YtnfedbopbcegjaaGreatDoorTie
import Derived.Test.YtnfedbopbcegjaaGreatDoorCards
set_option maxRecDepth 100000
namespace Go.Proofs.YtnfedbopbcegjaaGreatDoor
open Go.RowKit Kl Go.ChangeShapes Go.WideShapes
theorem AeW{w:World}{base:Nat}{v:Value}(h:Value.okWide Tryz.prog w .any base 5 v):∃n:Nat,n<256/\v=.int .u8 (n:Nat):=by
 have k:Cell.okWide Tryz.prog w .any base 5 v:=(by simpa only [Value.okWide,Tryz.underlying5]using h);obtain⟨n,h1,h2⟩:=ut Tryz.underlying5 k;have h3:0<=n/\n<=255:=h2;exact⟨n.toNat,by omega,by rw [h1];congr 1;omega⟩
theorem Ahz(os:Os)(started:os.Started)(H:Type)(enc:TypeId×Value→H) :
  ReturnsInHanded {} Tryz.checked os 3 .any (fun w args=>(Rows.versionLimitsSpec.pre enc Tryz.prog Tryz.f3 [] false w args/\laidMetH Tryz.prog QR w)/\sizedMet enc Tryz.prog Tryz.f3 (OpenSpec.ofChange Rows.versionLimitsSpec) false w args)
   (Rows.versionLimitsSpec.post enc Tryz.prog Tryz.f3 false true false false):=by
 refine returnsInHanded_of_row (C:=Tryz.checked) (s:=OpenSpec.ofChange Rows.versionLimitsSpec) (F:=fun _ _ _=>0) (conds:=[]) (laid:=QR) own started (by kernel_rfl) Tryz.func3
  (ChangeSpec.witness_shaped (enc:=enc) (C:=Tryz.checked) (os:=os) (s:=Rows.versionLimitsSpec) (X:=fun w _=>laidMetH Tryz.prog QR w) false (World.doorLaid Tryz.prog 62 os) #[.int .u8 0] 8 rfl (World.shaped_of_RefB (by kernel_rfl) (by kernel_rfl)) (by kernel_rfl) (by kernel_rfl) (by kernel_rfl) (door_met os _)) ?_
 intro W base args ds gs before sK hW _ _ _ hL hS _;have hval:∀(j:Nat) t v,Tryz.f3.params[j]?=some t→args[j]?=some v→Value.okWide Tryz.prog W .any base t v:=sK;have Xq:=hW;obtain⟨p,q,Mq,hV,rfl,hfz,Ca⟩:=hW;have hA:DataW.TrodAll enc Tryz.prog W 0 (fun _=>true) true Tryz.f3.params.toList args.toList ds p:=Mq;rw [Tryz.params3]at hA hval;obtain⟨v0,d0,rfl,rfl,h0⟩:=trodAll_one hA;obtain⟨rfl,rfl⟩:=trodVars_none hV;obtain⟨a,ha,rfl⟩:=AeW (hval 0 _ v0 rfl rfl);have hlt:=fun x hx=>DataW.Whole.lt Xq x hx;clear Mq sK;simp only [List.append_nil]at Xq hlt;refine(AdP a W (AeV hS hL)).mono fun e W' ⟨he,hx⟩=>?_;subst he;refine⟨_,rfl,Af1 (pa:=p) (pv:=[]) Xq (fun _ _ _=>trodAll_mk1 (shut_bool Tryz.underlying4 _)) (fun sp hsp=>?_) (fun _ _=>rfl) (by simp) hx (ok_one (by kernel_rfl) rfl (okWide_bool_mk Tryz.underlying4 _))⟩;rw [Tryz.params3];exact trodAll_mk1 (Aho (by kernel_rfl) (of_decide_eq_true (by kernel_rfl)) h0 hx (fun x hxx=>hlt x hxx) (fun x hxx=>hsp x hxx))
theorem Ah0:Rows.VersionLimitsSaid:=
 OpenClaim.holds_of_wide 3 Tryz.f3 rfl rfl rfl rfl rfl rfl rfl ⟨rfl,rfl,rfl,rfl,rfl⟩ rfl rfl rfl rfl rfl (by kernel_rfl) Tryz.func3 Ahx
  (of_decide_eq_true (by kernel_rfl)) (by unfold Func.isWrapper;first|(rw [if_pos (by decide +kernel)];kernel_rfl)|(rw [if_neg (by decide +kernel)];exact⟨rfl,rfl⟩))
  (fun os started H enc _=>Ahz os started H enc)
theorem versionLimits_holds:Rows.VersionLimitsCardSaid:=
 Claim7.holds_tied_plain_at .later [] [.data,.data,.data,.sentinel,.sentinel] true (true,"9ad3f0d68d6bb8f4370ab1eb9c9ad734248ecfa57899651914af405a8e365d92") true
  Ah0 (fun _ h=>by cases h) (by kernel_rfl) (fun _ h=>by cases h) versionLimits_row_tie rfl ⟨rfl,rfl⟩ (by kernel_rfl) rfl
  (fun f fn hf hfn=>by
   obtain rfl:f=3:=Option.some.inj ((show Tryz.prog.funcNamed "klippe/klippelaw47.VersionLimits" = some 3 by kernel_rfl).symm.trans hf) |>.symm;obtain rfl:fn=Tryz.f3:=(Option.some.inj (Tryz.func3.symm.trans hfn)).symm
   exact⟨Aeb,fun j t ht=>by
    rw [Tryz.params3]at ht;have hm:t∈[5]:=(by simpa using Array.mem_of_getElem? ht);have hall:([5].all fun u=>!Tryz.prog.wantsStandIn u)=true:=by kernel_rfl
    exact(show Tryz.prog.wantsStandIn t=false by simpa using List.all_eq_true.1 hall t hm)⟩)
  Ahy
#print axioms versionLimits_holds
end Go.Proofs.YtnfedbopbcegjaaGreatDoor
