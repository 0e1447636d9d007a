/- X52: LGZO. -/
import Derived.Test.YtjalkoacphhgdaaGreatDoorX51
import Derived.Test.YtjalkoacphhgdaaGreatDoorX08
import Derived.Test.YtjalkoacphhgdaaGreatDoorX09
import Derived.Test.YtjalkoacphhgdaaGreatDoorTie
import Derived.Test.YtjalkoacphhgdaaGreatDoorCards
set_option maxRecDepth 100000
namespace Go.Proofs.YtjalkoacphhgdaaGreatDoor
open Go.RowKit Kl Go.ChangeShapes Go.WideShapes
theorem Aje(os:Os)(started:os.Started)(H:Type)(enc:TypeId×Value→H) :
  ReturnsInHanded {} Tryz.checked os 5 .any (fun w args=>(Rows.legendOrdersSpec.pre enc Tryz.prog Tryz.f5 [] false w args/\laidMetH Tryz.prog TK w)/\sizedMet enc Tryz.prog Tryz.f5 (OpenSpec.ofChange Rows.legendOrdersSpec) false w args)
   (Rows.legendOrdersSpec.post enc Tryz.prog Tryz.f5 false true false false):=by
 refine returnsInHanded_of_row (C:=Tryz.checked) (s:=OpenSpec.ofChange Rows.legendOrdersSpec) (F:=fun _ _ _=>0) (conds:=[]) (laid:=TK) own started (by kernel_rfl) Tryz.func5
  (ChangeSpec.witness_shaped (enc:=enc) (C:=Tryz.checked) (os:=os) (s:=Rows.legendOrdersSpec) (X:=fun w _=>laidMetH Tryz.prog TK w) false (World.doorLaid Tryz.prog 62 os) #[.slice none 0 0,N8 none 0 0 []] 8 rfl (World.shaped_of_RefB (by kernel_rfl) (by kernel_rfl)) (by kernel_rfl) (by kernel_rfl) (by kernel_rfl) (door_met os _)) ?_
 intro W base args ds gs before jl hW _ _ hsz hL hS _;have hval:∀(j:Nat) t v,Tryz.f5.params[j]?=some t→args[j]?=some v→Value.okWide Tryz.prog W .any base t v:=jl;have dF:=hW;obtain⟨p,q,Sv,hV,rfl,hfz,Cc⟩:=hW;have hA:DataW.TrodAll enc Tryz.prog W 0 (fun _=>true) true Tryz.f5.params.toList args.toList ds p:=Sv;rw [Tryz.params5]at hA hval;obtain⟨v0,v1,d0,d1,p0,p1,rfl,rfl,rfl,h0,h1⟩:=trodAll_two hA;obtain⟨rfl,rfl⟩:=trodVars_none hV;obtain⟨l,A,cap,rfl,C4,hcm,hr⟩:=AkI (hval 0 _ v0 rfl rfl) h0
 have hwt:∀n∈d1.weights Tryz.prog 56,n<=reachBytes:=fun n hn=>by
  have hm:=DataW.weights_mem_each (P:=Tryz.prog) (ts:=Tryz.f5.params.toList++(OpenSpec.ofChange Rows.legendOrdersSpec).bare.plain.varTypes Tryz.prog) (ds:=[d0,d1] ++ []) (j:=1) (t:=56) (d:=d1) (by kernel_rfl) rfl n hn
  simpa using List.all_eq_true.1 hsz n hm
 obtain⟨us,bs,B,Adh,rfl,T9,hB⟩:=AkK (hval 1 _ v1 rfl rfl) h1 hwt;have hlt:=fun x hx=>DataW.Whole.lt dF x hx;clear Sv jl;simp only [List.append_nil]at dF hlt;refine(AkR l A cap us bs B Adh W (AkG hS hL) hr C4 hcm hB T9).mono fun e W' ⟨he,hx⟩=>?_;subst he;refine⟨_,rfl,Aly (pa:=p0++p1) (pv:=[]) dF (fun _ _ _=>trodAll_mk1 (shut_bool Tryz.underlying4 _)) (fun sp hsp=>?_) (fun _ _=>rfl) (by simp) hx (ok_one (by kernel_rfl) rfl (okWide_bool_mk Tryz.underlying4 _))⟩;rw [Tryz.params5]
 exact trodAll_mk2 (zk (by kernel_rfl) (of_decide_eq_true (by kernel_rfl)) h0 hx (fun x hxx=>hlt x (List.mem_append_left _ hxx)) (fun x hxx=>hsp x (List.mem_append_left _ hxx)))
  (zk (by kernel_rfl) (of_decide_eq_true (by kernel_rfl)) h1 hx (fun x hxx=>hlt x (List.mem_append_right _ hxx)) (fun x hxx=>hsp x (List.mem_append_right _ hxx)))
theorem Ajf:Rows.LegendOrdersSaid:=
 OpenClaim.holds_of_wide 5 Tryz.f5 rfl rfl rfl rfl rfl rfl rfl ⟨rfl,rfl,rfl,rfl,rfl⟩ rfl rfl rfl rfl rfl (by kernel_rfl) Tryz.func5 Ajc
  (of_decide_eq_true (by kernel_rfl)) (by unfold Func.isWrapper;first|(rw [if_pos (by decide +kernel)];kernel_rfl)|(rw [if_neg (by decide +kernel)];exact⟨rfl,rfl⟩))
  (fun os started H enc _=>Aje os started H enc)
theorem legendOrders_holds:Rows.LegendOrdersCardSaid:=
 Claim7.holds_tied_plain_at .later [] [.data,.data,.data,.sentinel,.sentinel] true (true,"56e4cf88326fb5e512d1544700b88b3829c2e61c9bb533ae2bf7c5bf8c850bfe") true
  Ajf (fun _ h=>by cases h) (by kernel_rfl) (fun _ h=>by cases h) legendOrders_row_tie rfl ⟨rfl,rfl⟩ (by kernel_rfl) rfl
  (fun f fn hf hfn=>by
   obtain rfl:f=5:=Option.some.inj ((show Tryz.prog.funcNamed "klippe/klippelaw50.LegendOrders" = some 5 by kernel_rfl).symm.trans hf) |>.symm;obtain rfl:fn=Tryz.f5:=(Option.some.inj (Tryz.func5.symm.trans hfn)).symm
   exact⟨Ajw,fun j t ht=>by
    rw [Tryz.params5]at ht;have hm:t∈[43,56]:=(by simpa using Array.mem_of_getElem? ht);have hall:([43,56].all fun u=>!Tryz.prog.wantsStandIn u)=true:=by kernel_rfl
    exact(show Tryz.prog.wantsStandIn t=false by simpa using List.all_eq_true.1 hall t hm)⟩)
  Ajd
#print axioms legendOrders_holds
end Go.Proofs.YtjalkoacphhgdaaGreatDoor
