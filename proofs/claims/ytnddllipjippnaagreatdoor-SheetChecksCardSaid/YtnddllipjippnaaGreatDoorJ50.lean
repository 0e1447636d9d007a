/- J50: KI8. -/
import Derived.Test.YtnddllipjippnaaGreatDoorJ49
import Derived.Test.YtnddllipjippnaaGreatDoorJ07
import Derived.Test.YtnddllipjippnaaGreatDoorJ08
import Derived.Test.YtnddllipjippnaaGreatDoorTie
import Derived.Test.YtnddllipjippnaaGreatDoorCards
set_option maxRecDepth 100000
namespace Go.Proofs.YtnddllipjippnaaGreatDoor
open Go.RowKit Kl Go.ChangeShapes Go.WideShapes
theorem AkL(os:Os)(started:os.Started)(H:Type)(enc:TypeId×Value→H) :
  ReturnsInHanded {} Tryz.checked os 3 .any (fun w args=>(Rows.sheetChecksSpec.pre enc Tryz.prog Tryz.f3 [] false w args/\laidMetH Tryz.prog Ul w)/\sizedMet enc Tryz.prog Tryz.f3 (OpenSpec.ofChange Rows.sheetChecksSpec) false w args)
   (Rows.sheetChecksSpec.post enc Tryz.prog Tryz.f3 false true false false):=by
 refine returnsInHanded_of_row (C:=Tryz.checked) (s:=OpenSpec.ofChange Rows.sheetChecksSpec) (F:=fun _ _ _=>0) (conds:=[]) (laid:=Ul) own started (by kernel_rfl) Tryz.func3
  (ChangeSpec.witness_shaped (enc:=enc) (C:=Tryz.checked) (os:=os) (s:=Rows.sheetChecksSpec) (X:=fun w _=>laidMetH Tryz.prog Ul w) false (World.doorLaid Tryz.prog 62 os) #[.agg #[.int .i64 0,.string ⟨#[]⟩,.string ⟨#[]⟩,.string ⟨#[]⟩,.string ⟨#[]⟩,.string ⟨#[]⟩,.string ⟨#[]⟩,.string ⟨#[]⟩]] 8 rfl (World.shaped_of_RefB (by kernel_rfl) (by kernel_rfl)) (by kernel_rfl) (by kernel_rfl) (by kernel_rfl) (door_met os _)) ?_
 intro W base args ds gs before ia hW _ _ _ hL hS _;have hval:∀(j:Nat) t v,Tryz.f3.params[j]?=some t→args[j]?=some v→Value.okWide Tryz.prog W .any base t v:=ia;have cV:=hW;obtain⟨p,q,SB,hV,rfl,hfz,C6⟩:=hW;have hA:DataW.TrodAll enc Tryz.prog W 0 (fun _=>true) true Tryz.f3.params.toList args.toList ds p:=SB;rw [Tryz.params3]at hA hval;obtain⟨v0,d0,rfl,rfl,h0⟩:=trodAll_one hA;obtain⟨rfl,rfl⟩:=trodVars_none hV;obtain⟨ek,ea,eb,ep,eu,rfl⟩:=AiG (hval 0 _ v0 rfl rfl);have hlt:=fun x hx=>DataW.Whole.lt cV x hx;clear SB ia;simp only [List.append_nil]at cV hlt;refine(AkI ek ea eb ep eu W (AiD hS hL)).mono fun e W' ⟨he,hx⟩=>?_;subst he;refine⟨_,rfl,Ajo (pa:=p) (pv:=[]) cV (fun _ _ _=>trodAll_mk1 (shut_bool Tryz.underlying4 _)) (fun sp hsp=>?_) (fun _ _=>rfl) (by simp) hx (ok_one (by kernel_rfl) rfl (okWide_bool_mk Tryz.underlying4 _))⟩;rw [Tryz.params3];exact trodAll_mk1 (Al1 (by kernel_rfl) (of_decide_eq_true (by kernel_rfl)) h0 hx (fun x hxx=>hlt x hxx) (fun x hxx=>hsp x hxx))
theorem AkM:Rows.SheetChecksSaid:=
 OpenClaim.holds_of_wide 3 Tryz.f3 rfl rfl rfl rfl rfl rfl rfl ⟨rfl,rfl,rfl,rfl,rfl⟩ rfl rfl rfl rfl rfl (by kernel_rfl) Tryz.func3 AkJ
  (of_decide_eq_true (by kernel_rfl)) (by unfold Func.isWrapper;first|(rw [if_pos (by decide +kernel)];kernel_rfl)|(rw [if_neg (by decide +kernel)];exact⟨rfl,rfl⟩))
  (fun os started H enc _=>AkL os started H enc)
theorem sheetChecks_holds:Rows.SheetChecksCardSaid:=
 Claim7.holds_tied_plain_at .later [] [.data,.data,.data,.sentinel,.sentinel] true (true,"48e0eb4d346693da6dcda4d0971d324852c71d1df8a61c58d3724b11998674f5") true
  AkM (fun _ h=>by cases h) (by kernel_rfl) (fun _ h=>by cases h) sheetChecks_row_tie rfl ⟨rfl,rfl⟩ (by kernel_rfl) rfl
  (fun f fn hf hfn=>by
   obtain rfl:f=3:=Option.some.inj ((show Tryz.prog.funcNamed "klippe/klippelaw46.SheetChecks" = some 3 by kernel_rfl).symm.trans hf) |>.symm;obtain rfl:fn=Tryz.f3:=(Option.some.inj (Tryz.func3.symm.trans hfn)).symm
   exact⟨AhI,fun j t ht=>by
    rw [Tryz.params3]at ht;have hm:t∈[26]:=(by simpa using Array.mem_of_getElem? ht);have hall:([26].all fun u=>!Tryz.prog.wantsStandIn u)=true:=by kernel_rfl
    exact(show Tryz.prog.wantsStandIn t=false by simpa using List.all_eq_true.1 hall t hm)⟩)
  AkK
#print axioms sheetChecks_holds
end Go.Proofs.YtnddllipjippnaaGreatDoor
