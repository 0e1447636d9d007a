/- V51: LMZ. -/
import Derived.Test.YtbejphgbbpplbaaGreatDoorV50
import Derived.Test.YtbejphgbbpplbaaGreatDoorV37
import Derived.Test.YtbejphgbbpplbaaGreatDoorV08
import Derived.Test.YtbejphgbbpplbaaGreatDoorV09
import Derived.Test.YtbejphgbbpplbaaGreatDoorTie
import Derived.Test.YtbejphgbbpplbaaGreatDoorCards
set_option maxRecDepth 100000
namespace Go.Proofs.YtbejphgbbpplbaaGreatDoor
open Go.RowKit Kl Go.ChangeShapes Go.WideShapes
theorem ik{w:World}{base:Nat}{v:Value}(h:Value.okWide Tryz.prog w .any base 5 v):∃n:Nat,n<256/\v=.int .u8 (n:Nat):=by
 have k:Cell.okWide Tryz.prog w .any base 5 v:=(by simpa only [Value.okWide,Tryz.underlying5]using h);obtain⟨n,h1,h2⟩:=AaF Tryz.underlying5 k;have h3:0<=n/\n<=255:=h2;exact⟨n.toNat,by omega,by rw [h1];congr 1;omega⟩
theorem AfX(os:Os)(started:os.Started)(H:Type)(enc:TypeId×Value→H) :
  ReturnsInHanded {} Tryz.checked os 3 .any (fun w args=>(Rows.legendManySpec.pre enc Tryz.prog Tryz.f3 [] false w args/\laidMetH Tryz.prog SK w)/\sizedMet enc Tryz.prog Tryz.f3 (OpenSpec.ofChange Rows.legendManySpec) false w args)
   (Rows.legendManySpec.post enc Tryz.prog Tryz.f3 false true false false):=by
 refine returnsInHanded_of_row (C:=Tryz.checked) (s:=OpenSpec.ofChange Rows.legendManySpec) (F:=fun _ _ _=>0) (conds:=[]) (laid:=SK) own started (by kernel_rfl) Tryz.func3
  (ChangeSpec.witness_shaped (enc:=enc) (C:=Tryz.checked) (os:=os) (s:=Rows.legendManySpec) (X:=fun w _=>laidMetH Tryz.prog SK w) false (World.doorLaid Tryz.prog 62 os) #[.int .u8 0,.int .u8 0] 8 rfl (World.shaped_of_RefB (by kernel_rfl) (by kernel_rfl)) (by kernel_rfl) (by kernel_rfl) (by kernel_rfl) (door_met os _)) ?_
 intro W base args ds gs before yX hW _ _ _ hL hS _;have hval:∀(j:Nat) t v,Tryz.f3.params[j]?=some t→args[j]?=some v→Value.okWide Tryz.prog W .any base t v:=yX;have ZM:=hW;obtain⟨p,q,Rs,hV,rfl,hfz,Cj⟩:=hW;have hA:DataW.TrodAll enc Tryz.prog W 0 (fun _=>true) true Tryz.f3.params.toList args.toList ds p:=Rs;rw [Tryz.params3]at hA hval;obtain⟨v0,v1,d0,d1,p0,p1,rfl,rfl,rfl,h0,h1⟩:=trodAll_two hA;obtain⟨rfl,rfl⟩:=trodVars_none hV;obtain⟨a,ha,rfl⟩:=ik (hval 0 _ v0 rfl rfl);obtain⟨b,hb,rfl⟩:=ik (hval 1 _ v1 rfl rfl);have hlt:=fun x hx=>DataW.Whole.lt ZM x hx;clear Rs yX;simp only [List.append_nil]at ZM hlt;refine(Ag9 a b ha hb W (Ah2 hS hL)).mono fun e W' ⟨he,hx⟩=>?_;subst he;refine⟨_,rfl,Aie (pa:=p0++p1) (pv:=[]) ZM (fun _ _ _=>trodAll_mk1 (shut_bool Tryz.underlying4 _)) (fun sp hsp=>?_) (fun _ _=>rfl) (by simp) hx (ok_one (by kernel_rfl) rfl (okWide_bool_mk Tryz.underlying4 _))⟩;rw [Tryz.params3]
 exact trodAll_mk2 (pp (by kernel_rfl) (of_decide_eq_true (by kernel_rfl)) h0 hx (fun x hxx=>hlt x (List.mem_append_left _ hxx)) (fun x hxx=>hsp x (List.mem_append_left _ hxx)))
  (pp (by kernel_rfl) (of_decide_eq_true (by kernel_rfl)) h1 hx (fun x hxx=>hlt x (List.mem_append_right _ hxx)) (fun x hxx=>hsp x (List.mem_append_right _ hxx)))
theorem AfY:Rows.LegendManySaid:=
 OpenClaim.holds_of_wide 3 Tryz.f3 rfl rfl rfl rfl rfl rfl rfl ⟨rfl,rfl,rfl,rfl,rfl⟩ rfl rfl rfl rfl rfl (by kernel_rfl) Tryz.func3 AfV
  (of_decide_eq_true (by kernel_rfl)) (by unfold Func.isWrapper;first|(rw [if_pos (by decide +kernel)];kernel_rfl)|(rw [if_neg (by decide +kernel)];exact⟨rfl,rfl⟩))
  (fun os started H enc _=>AfX os started H enc)
theorem legendMany_holds:Rows.LegendManyCardSaid:=
 Claim7.holds_tied_plain_at .later [] [.data,.data,.data,.sentinel,.sentinel] true (true,"2a394e065e92f1c12816c63cbfb16afb2bc42397f49c55debc8ee159a4d9c362") true
  AfY (fun _ h=>by cases h) (by kernel_rfl) (fun _ h=>by cases h) legendMany_row_tie rfl ⟨rfl,rfl⟩ (by kernel_rfl) rfl
  (fun f fn hf hfn=>by
   obtain rfl:f=3:=Option.some.inj ((show Tryz.prog.funcNamed "klippe/klippelaw50.LegendMany" = some 3 by kernel_rfl).symm.trans hf) |>.symm;obtain rfl:fn=Tryz.f3:=(Option.some.inj (Tryz.func3.symm.trans hfn)).symm
   exact⟨Agq,fun j t ht=>by
    rw [Tryz.params3]at ht;have hm:t∈[5,5]:=(by simpa using Array.mem_of_getElem? ht);have hall:([5,5].all fun u=>!Tryz.prog.wantsStandIn u)=true:=by kernel_rfl
    exact(show Tryz.prog.wantsStandIn t=false by simpa using List.all_eq_true.1 hall t hm)⟩)
  AfW
#print axioms legendMany_holds
end Go.Proofs.YtbejphgbbpplbaaGreatDoor
