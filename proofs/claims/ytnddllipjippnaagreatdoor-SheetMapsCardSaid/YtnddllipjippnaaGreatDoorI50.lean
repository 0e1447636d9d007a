/- I50: ShKK7. -/
import Derived.Test.YtnddllipjippnaaGreatDoorI49
import Derived.Test.YtnddllipjippnaaGreatDoorI37
import Derived.Test.YtnddllipjippnaaGreatDoorI09
import Derived.Test.YtnddllipjippnaaGreatDoorI07
import Derived.Test.YtnddllipjippnaaGreatDoorI08
import Derived.Test.YtnddllipjippnaaGreatDoorTie
import Derived.Test.YtnddllipjippnaaGreatDoorCards
set_option maxRecDepth 100000
namespace Go.Proofs.YtnddllipjippnaaGreatDoor
open Go.RowKit Kl Go.ChangeShapes Go.WideShapes
theorem Ao2(os:Os)(started:os.Started)(H:Type)(enc:TypeId×Value→H) :
  ReturnsInHanded {} Tryz.checked os 4 .any (fun w args=>(Rows.sheetMapsSpec.pre enc Tryz.prog Tryz.f4 [] false w args/\laidMetH Tryz.prog Vt w)/\sizedMet enc Tryz.prog Tryz.f4 (OpenSpec.ofChange Rows.sheetMapsSpec) false w args)
   (Rows.sheetMapsSpec.post enc Tryz.prog Tryz.f4 false true false false):=by
 refine returnsInHanded_of_row (C:=Tryz.checked) (s:=OpenSpec.ofChange Rows.sheetMapsSpec) (F:=fun _ _ _=>0) (conds:=[]) (laid:=Vt) own started (by kernel_rfl) Tryz.func4
  (ChangeSpec.witness_shaped (enc:=enc) (C:=Tryz.checked) (os:=os) (s:=Rows.sheetMapsSpec) (X:=fun w _=>laidMetH Tryz.prog Vt w) false (World.doorLaid Tryz.prog 62 os) #[O1 ⟨0,0,List.replicate 27 0⟩,.int .u8 0,.int .u8 0] 8 rfl (World.shaped_of_RefB (by kernel_rfl) (by kernel_rfl)) (by kernel_rfl) (by kernel_rfl) (by kernel_rfl) (door_met os _)) ?_
 intro W base args ds gs before uz hW _ _ _ hL hS _;have hval:∀(j:Nat) t v,Tryz.f4.params[j]?=some t→args[j]?=some v→Value.okWide Tryz.prog W .any base t v:=uz;have iK:=hW;obtain⟨p,q,OU,hV,rfl,hfz,CN⟩:=hW;have hA:DataW.TrodAll enc Tryz.prog W 0 (fun _=>true) true Tryz.f4.params.toList args.toList ds p:=OU;rw [Tryz.params4]at hA hval;obtain⟨v0,v1,v2,d0,d1,d2,p0,p1,p2,rfl,rfl,rfl,h0,h1,h2⟩:=trodAll_three hA;obtain⟨rfl,rfl⟩:=trodVars_none hV;obtain⟨pl,hpl,rfl⟩:=Am8 (hval 0 _ v0 rfl rfl);obtain⟨a,ha,rfl⟩:=Aa9 (hval 1 _ v1 rfl rfl);obtain⟨b,hb,rfl⟩:=Aa9 (hval 2 _ v2 rfl rfl);have hlt:=fun x hx=>DataW.Whole.lt iK x hx;clear OU uz;simp only [List.append_nil]at iK hlt;refine(Aoz pl hpl a ha b hb W (Am4 hS hL)).mono fun e W' ⟨he,hx⟩=>?_;subst he;refine⟨_,rfl,Ani (pa:=p0++p1++p2) (pv:=[]) iK (fun _ _ _=>trodAll_mk1 (shut_bool Tryz.underlying4 _)) (fun sp hsp=>?_) (fun _ _=>rfl) (by simp) hx (ok_one (by kernel_rfl) rfl (okWide_bool_mk Tryz.underlying4 _))⟩;rw [Tryz.params4];rw [List.append_assoc]
 exact trodAll_mk3 (qP (by kernel_rfl) (of_decide_eq_true (by kernel_rfl)) h0 hx (fun x hxx=>hlt x (List.mem_append_left _ (List.mem_append_left _ hxx))) (fun x hxx=>hsp x (List.mem_append_left _ (List.mem_append_left _ hxx))))
  (qP (by kernel_rfl) (of_decide_eq_true (by kernel_rfl)) h1 hx (fun x hxx=>hlt x (List.mem_append_left _ (List.mem_append_right _ hxx))) (fun x hxx=>hsp x (List.mem_append_left _ (List.mem_append_right _ hxx))))
  (qP (by kernel_rfl) (of_decide_eq_true (by kernel_rfl)) h2 hx (fun x hxx=>hlt x (List.mem_append_right _ hxx)) (fun x hxx=>hsp x (List.mem_append_right _ hxx)))
theorem Ao3:Rows.SheetMapsSaid:=
 OpenClaim.holds_of_wide 4 Tryz.f4 rfl rfl rfl rfl rfl rfl rfl ⟨rfl,rfl,rfl,rfl,rfl⟩ rfl rfl rfl rfl rfl (by kernel_rfl) Tryz.func4 Ao0
  (of_decide_eq_true (by kernel_rfl)) (by unfold Func.isWrapper;first|(rw [if_pos (by decide +kernel)];kernel_rfl)|(rw [if_neg (by decide +kernel)];exact⟨rfl,rfl⟩))
  (fun os started H enc _=>Ao2 os started H enc)
theorem sheetMaps_holds:Rows.SheetMapsCardSaid:=
 Claim7.holds_tied_plain_at .later [] [.data,.data,.data,.sentinel,.sentinel] true (true,"48e0eb4d346693da6dcda4d0971d324852c71d1df8a61c58d3724b11998674f5") true
  Ao3 (fun _ h=>by cases h) (by kernel_rfl) (fun _ h=>by cases h) sheetMaps_row_tie rfl ⟨rfl,rfl⟩ (by kernel_rfl) rfl
  (fun f fn hf hfn=>by
   obtain rfl:f=4:=Option.some.inj ((show Tryz.prog.funcNamed "klippe/klippelaw46.SheetMaps" = some 4 by kernel_rfl).symm.trans hf) |>.symm;obtain rfl:fn=Tryz.f4:=(Option.some.inj (Tryz.func4.symm.trans hfn)).symm
   exact⟨Al3,fun j t ht=>by
    rw [Tryz.params4]at ht;have hm:t∈[46,5,5]:=(by simpa using Array.mem_of_getElem? ht);have hall:([46,5,5].all fun u=>!Tryz.prog.wantsStandIn u)=true:=by kernel_rfl
    exact(show Tryz.prog.wantsStandIn t=false by simpa using List.all_eq_true.1 hall t hm)⟩)
  Ao1
#print axioms sheetMaps_holds
end Go.Proofs.YtnddllipjippnaaGreatDoor
