/- U46: ShLEZ. -/
import Derived.Test.YtbejphgbbpplbaaGreatDoorU45
import Derived.Test.YtbejphgbbpplbaaGreatDoorU42
import Derived.Test.YtbejphgbbpplbaaGreatDoorU09
import Derived.Test.YtbejphgbbpplbaaGreatDoorU10
import Derived.Test.YtbejphgbbpplbaaGreatDoorTie
import Derived.Test.YtbejphgbbpplbaaGreatDoorCards
set_option maxRecDepth 100000
namespace Go.Proofs.YtbejphgbbpplbaaGreatDoor
open Go.RowKit Kl Go.ChangeShapes Go.WideShapes
theorem Akg(os:Os)(started:os.Started)(H:Type)(enc:TypeId×Value→H) :
  ReturnsInHanded {} Tryz.checked os 6 .any (fun w args=>(Rows.legendErrorsSpec.pre enc Tryz.prog Tryz.f6 [] false w args/\laidMetH Tryz.prog U2 w)/\sizedMet enc Tryz.prog Tryz.f6 (OpenSpec.ofChange Rows.legendErrorsSpec) false w args)
   (Rows.legendErrorsSpec.post enc Tryz.prog Tryz.f6 false true false false):=by
 refine returnsInHanded_of_row (C:=Tryz.checked) (s:=OpenSpec.ofChange Rows.legendErrorsSpec) (F:=fun _ _ _=>0) (conds:=[]) (laid:=U2) own started (by kernel_rfl) Tryz.func6
  (ChangeSpec.witness_shaped (enc:=enc) (C:=Tryz.checked) (os:=os) (s:=Rows.legendErrorsSpec) (X:=fun w _=>laidMetH Tryz.prog U2 w) false (World.doorLaid Tryz.prog 62 os) #[.slice none 0 0,.int .u8 0,NT ⟨0,0,List.replicate 27 0⟩] 8 rfl (World.shaped_of_RefB (by kernel_rfl) (by kernel_rfl)) (by kernel_rfl) (by kernel_rfl) (by kernel_rfl) (door_met os _)) ?_
 intro W base args ds gs before ol hW _ _ _ hL hS _;have hval:∀(j:Nat) t v,Tryz.f6.params[j]?=some t→args[j]?=some v→Value.okWide Tryz.prog W .any base t v:=ol;have eW:=hW;obtain⟨p,q,O2,hV,rfl,hfz,Cr⟩:=hW;have hA:DataW.TrodAll enc Tryz.prog W 0 (fun _=>true) true Tryz.f6.params.toList args.toList ds p:=O2;rw [Tryz.params6]at hA hval;obtain⟨v0,v1,v2,d0,d1,d2,p0,p1,p2,rfl,rfl,rfl,h0,h1,h2⟩:=trodAll_three hA;obtain⟨rfl,rfl⟩:=trodVars_none hV;obtain⟨l,A,cap,rfl,DI,hcm,hr⟩:=AlL (hval 0 _ v0 rfl rfl) h0;obtain⟨a,ha,rfl⟩:=AlN (hval 1 _ v1 rfl rfl);obtain⟨pl,hpl,rfl⟩:=AlM (hval 2 _ v2 rfl rfl);have hlt:=fun x hx=>DataW.Whole.lt eW x hx;clear O2 ol;simp only [List.append_nil]at eW hlt;refine(Agk l A cap a ha pl hpl W (AlJ hS hL) hr DI hcm).mono fun e W' ⟨he,hx⟩=>?_;subst he;refine⟨_,rfl,Am0 (pa:=p0++p1++p2) (pv:=[]) eW (fun _ _ _=>trodAll_mk1 (shut_bool Tryz.underlying4 _)) (fun sp hsp=>?_) (fun _ _=>rfl) (by simp) hx (ok_one (by kernel_rfl) rfl (okWide_bool_mk Tryz.underlying4 _))⟩;rw [Tryz.params6];rw [List.append_assoc]
 exact trodAll_mk3 (oL (by kernel_rfl) (of_decide_eq_true (by kernel_rfl)) h0 hx (fun x hxx=>hlt x (List.mem_append_left _ (List.mem_append_left _ hxx))) (fun x hxx=>hsp x (List.mem_append_left _ (List.mem_append_left _ hxx))))
  (oL (by kernel_rfl) (of_decide_eq_true (by kernel_rfl)) h1 hx (fun x hxx=>hlt x (List.mem_append_left _ (List.mem_append_right _ hxx))) (fun x hxx=>hsp x (List.mem_append_left _ (List.mem_append_right _ hxx))))
  (oL (by kernel_rfl) (of_decide_eq_true (by kernel_rfl)) h2 hx (fun x hxx=>hlt x (List.mem_append_right _ hxx)) (fun x hxx=>hsp x (List.mem_append_right _ hxx)))
theorem Akh:Rows.LegendErrorsSaid:=
 OpenClaim.holds_of_wide 6 Tryz.f6 rfl rfl rfl rfl rfl rfl rfl ⟨rfl,rfl,rfl,rfl,rfl⟩ rfl rfl rfl rfl rfl (by kernel_rfl) Tryz.func6 Ake
  (of_decide_eq_true (by kernel_rfl)) (by unfold Func.isWrapper;first|(rw [if_pos (by decide +kernel)];kernel_rfl)|(rw [if_neg (by decide +kernel)];exact⟨rfl,rfl⟩))
  (fun os started H enc _=>Akg os started H enc)
theorem legendErrors_holds:Rows.LegendErrorsCardSaid:=
 Claim7.holds_tied_plain_at .later [] [.data,.data,.data,.sentinel,.sentinel] true (true,"2a394e065e92f1c12816c63cbfb16afb2bc42397f49c55debc8ee159a4d9c362") true
  Akh (fun _ h=>by cases h) (by kernel_rfl) (fun _ h=>by cases h) legendErrors_row_tie rfl ⟨rfl,rfl⟩ (by kernel_rfl) rfl
  (fun f fn hf hfn=>by
   obtain rfl:f=6:=Option.some.inj ((show Tryz.prog.funcNamed "klippe/klippelaw50.LegendErrors" = some 6 by kernel_rfl).symm.trans hf) |>.symm;obtain rfl:fn=Tryz.f6:=(Option.some.inj (Tryz.func6.symm.trans hfn)).symm
   exact⟨Ak2,fun j t ht=>by
    rw [Tryz.params6]at ht;have hm:t∈[65,5,51]:=(by simpa using Array.mem_of_getElem? ht);have hall:([65,5,51].all fun u=>!Tryz.prog.wantsStandIn u)=true:=by kernel_rfl
    exact(show Tryz.prog.wantsStandIn t=false by simpa using List.all_eq_true.1 hall t hm)⟩)
  Akf
#print axioms legendErrors_holds
end Go.Proofs.YtbejphgbbpplbaaGreatDoor
