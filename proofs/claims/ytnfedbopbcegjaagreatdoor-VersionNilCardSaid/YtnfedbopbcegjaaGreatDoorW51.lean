/- W51: ShVBNZ. -/
import Derived.Test.YtnfedbopbcegjaaGreatDoorW50
import Derived.Test.YtnfedbopbcegjaaGreatDoorW14
import Derived.Test.YtnfedbopbcegjaaGreatDoorW08
import Derived.Test.YtnfedbopbcegjaaGreatDoorW09
import Derived.Test.YtnfedbopbcegjaaGreatDoorTie
import Derived.Test.YtnfedbopbcegjaaGreatDoorCards
set_option maxRecDepth 100000
namespace Go.Proofs.YtnfedbopbcegjaaGreatDoor
open Go.RowKit Kl Go.ChangeShapes Go.WideShapes
theorem cell_strV{w:World}{base:Nat}{t:TypeId}{v:Value}(ht:Tryz.prog.underlying t=some .string)(h:Cell.okWide Tryz.prog w .any base t v):∃l:Bs,v=S l:=by
 simp only [Cell.okWide,ht]at h
 cases v<;>simp_all [Cell.ok]
 case string s=>exact⟨s.data.toList,by cases s;simp⟩
theorem open_i64{w:World}{base:Nat}{v:Value}(h:Value.okWide Tryz.prog w .any base 3 v):∃n:Int,v=.int .i64 n:=by
 have k:Cell.okWide Tryz.prog w .any base 3 v:=(by simpa only [Value.okWide,Tryz.underlying3]using h);obtain⟨n,h1,h2⟩:=ut Tryz.underlying3 k;exact⟨n,h1⟩
theorem versionNil_lifted(os:Os)(started:os.Started)(H:Type)(enc:TypeId×Value→H) :
  ReturnsInHanded {} Tryz.checked os 4 .any (fun w args=>(Rows.versionNilSpec.pre enc Tryz.prog Tryz.f4 [] false w args/\laidMetH Tryz.prog QR w)/\sizedMet enc Tryz.prog Tryz.f4 (OpenSpec.ofChange Rows.versionNilSpec) false w args)
   (Rows.versionNilSpec.post enc Tryz.prog Tryz.f4 false true false false):=by
 refine returnsInHanded_of_row (C:=Tryz.checked) (s:=OpenSpec.ofChange Rows.versionNilSpec) (F:=fun _ _ _=>0) (conds:=[]) (laid:=QR) own started (by kernel_rfl) Tryz.func4
  (ChangeSpec.witness_shaped (enc:=enc) (C:=Tryz.checked) (os:=os) (s:=Rows.versionNilSpec) (X:=fun w _=>laidMetH Tryz.prog QR w) false (World.doorLaid Tryz.prog 62 os) #[.string ⟨#[]⟩,.int .i64 0] 8 rfl (World.shaped_of_RefB (by kernel_rfl) (by kernel_rfl)) (by kernel_rfl) (by kernel_rfl) (by kernel_rfl) (door_met os _)) ?_
 intro W base args ds gs before sK hW _ _ _ hL hS _;have hval:∀(j:Nat) t v,Tryz.f4.params[j]?=some t→args[j]?=some v→Value.okWide Tryz.prog W .any base t v:=sK;have Xq:=hW;obtain⟨p,q,Mq,hV,rfl,hfz,Ca⟩:=hW;have hA:DataW.TrodAll enc Tryz.prog W 0 (fun _=>true) true Tryz.f4.params.toList args.toList ds p:=Mq;rw [Tryz.params4]at hA hval;obtain⟨v0,v1,d0,d1,p0,p1,rfl,rfl,rfl,h0,h1⟩:=trodAll_two hA;obtain⟨rfl,rfl⟩:=trodVars_none hV;obtain⟨u,rfl⟩:=cell_strV Tryz.underlying9 (show Cell.okWide Tryz.prog W .any base 9 v0 by have:=hval 0 9 v0 rfl rfl;simpa only [Value.okWide,Tryz.underlying9]using this);obtain⟨n,rfl⟩:=open_i64 (hval 1 _ v1 rfl rfl);have hlt:=fun x hx=>DataW.Whole.lt Xq x hx;clear Mq sK;simp only [List.append_nil]at Xq hlt;refine(nil47_c u n W (AeV hS hL)).mono fun e W' ⟨he,hx⟩=>?_;subst he;refine⟨_,rfl,Af1 (pa:=p0++p1) (pv:=[]) Xq (fun _ _ _=>trodAll_mk1 (shut_bool Tryz.underlying4 _)) (fun sp hsp=>?_) (fun _ _=>rfl) (by simp) hx (ok_one (by kernel_rfl) rfl (okWide_bool_mk Tryz.underlying4 _))⟩;rw [Tryz.params4]
 exact trodAll_mk2 (Aho (by kernel_rfl) (of_decide_eq_true (by kernel_rfl)) h0 hx (fun x hxx=>hlt x (List.mem_append_left _ hxx)) (fun x hxx=>hsp x (List.mem_append_left _ hxx)))
  (Aho (by kernel_rfl) (of_decide_eq_true (by kernel_rfl)) h1 hx (fun x hxx=>hlt x (List.mem_append_right _ hxx)) (fun x hxx=>hsp x (List.mem_append_right _ hxx)))
theorem versionNil_said:Rows.VersionNilSaid:=
 OpenClaim.holds_of_wide 4 Tryz.f4 rfl rfl rfl rfl rfl rfl rfl ⟨rfl,rfl,rfl,rfl,rfl⟩ rfl rfl rfl rfl rfl (by kernel_rfl) Tryz.func4 versionNil_closed
  (of_decide_eq_true (by kernel_rfl)) (by unfold Func.isWrapper;first|(rw [if_pos (by decide +kernel)];kernel_rfl)|(rw [if_neg (by decide +kernel)];exact⟨rfl,rfl⟩))
  (fun os started H enc _=>versionNil_lifted os started H enc)
theorem versionNil_holds:Rows.VersionNilCardSaid:=
 Claim7.holds_tied_plain_at .later [] [.data,.data,.data,.sentinel,.sentinel] true (true,"9ad3f0d68d6bb8f4370ab1eb9c9ad734248ecfa57899651914af405a8e365d92") true
  versionNil_said (fun _ h=>by cases h) (by kernel_rfl) (fun _ h=>by cases h) versionNil_row_tie rfl ⟨rfl,rfl⟩ (by kernel_rfl) rfl
  (fun f fn hf hfn=>by
   obtain rfl:f=4:=Option.some.inj ((show Tryz.prog.funcNamed "klippe/klippelaw47.VersionNil" = some 4 by kernel_rfl).symm.trans hf) |>.symm;obtain rfl:fn=Tryz.f4:=(Option.some.inj (Tryz.func4.symm.trans hfn)).symm
   exact⟨Aeb,fun j t ht=>by
    rw [Tryz.params4]at ht;have hm:t∈[9,3]:=(by simpa using Array.mem_of_getElem? ht);have hall:([9,3].all fun u=>!Tryz.prog.wantsStandIn u)=true:=by kernel_rfl
    exact(show Tryz.prog.wantsStandIn t=false by simpa using List.all_eq_true.1 hall t hm)⟩)
  versionNil_goes
#print axioms versionNil_holds
end Go.Proofs.YtnfedbopbcegjaaGreatDoor
