/- The law DrawingEdges (klippelaw54) answers true for every canvas, every plan of a map and either choice: no condition. -/
import Derived.Test.YtdaefncphfeaeaaGreatDoorZ51
import Derived.Test.YtdaefncphfeaeaaGreatDoorTie
import Derived.Test.YtdaefncphfeaeaaGreatDoorCards
set_option maxRecDepth 100000
namespace Go.Proofs.YtdaefncphfeaeaaGreatDoor
open Go.RowKit Kl Go.ChangeShapes Go.WideShapes
theorem door_met(os:Os)(args:Array Value):laidMetH Tryz.prog UQ ((World.doorLaid Tryz.prog 62 os).forCall (fun _ _=>0) ⟨#[],args,[]⟩).memory:=
 laidMetH_of_parts3 (fuel:=8) (laidMet_of_run' 8 (by kernel_rfl) (by kernel_rfl)) (by kernel_rfl) (by kernel_rfl)
theorem pF{H:Type}{enc:TypeId×Value→H}{t:TypeId}(hr:Tryz.prog.readableRec t=true)(hrow:t<Tryz.prog.types.size){W W':World}{v:Value}{d:DataW H}{ps:List MemPlace}{sp:Nat→Bool}
  (h:DataW.Trod enc Tryz.prog W 0 (fun _=>true) true t v d ps) (hb:Below W.heap.size W W') (hlt:∀x∈ps,x.block<W.heap.size) (hsp:∀x∈ps,sp x.block=true):DataW.Trod enc Tryz.prog W' 0 sp true t v d ps:=
 WideElems.Trod_stays laidOut hr hrow h (fun x hx=>hb.same (hlt x hx)) hsp
theorem Af5:Tryz.prog.cellTypes Tryz.prog.depth 31=some (List.replicate 29 5):=by kernel_rfl
theorem Af3:Tryz.prog.cellsOf 31=29:=by kernel_rfl
theorem u8s:∀l:List Value,(∀x∈l,∃n:Nat,n<256/\x=.int .u8 (n:Nat))→∃ns:List Nat,(∀n∈ns,n<256)/\l=ns.map fun n:Nat=>Value.int .u8 (n:Int)
 | [],_=>⟨[],by simp,rfl⟩
 | x::l,h=>by
  obtain⟨ns,h1,rfl⟩:=u8s l fun y hy=>h y (List.mem_cons_of_mem _ hy);obtain⟨n,hn,rfl⟩:=h x List.mem_cons_self;refine⟨n::ns,?_,rfl⟩;intro m hm
  rcases List.mem_cons.1 hm with e|e
  ·rw [e];exact hn
  ·exact h1 m e
theorem AlG{w:World}{base:Nat}{v:Value}(h:Value.okWide Tryz.prog w .any base 31 v):∃p:Pl,p.Ok/\v=Lm p:=by
 simp only [Value.okWide,Tryz.underlying31]at h;obtain⟨cs,rfl,hsz,ts,UA,_,hall⟩:=h;rw [Af5]at UA;obtain rfl:=Option.some.inj UA;rw [Af3]at hsz;obtain⟨l⟩:=cs;have hl:l.length=29:=hsz
 have hc:∀x∈l,∃n:Nat,n<256/\x=.int .u8 (n:Nat):=by
  intro x hx;obtain⟨j,hj,rfl⟩:=List.getElem_of_mem hx;obtain⟨u,e,k⟩:=hall j l[j] (by simp [hj])
  have hu:u=5:=by
   rw [List.getElem?_replicate]at e
   split at e
   ·exact(Option.some.inj e).symm
   ·cases e
  subst hu;obtain⟨n,h1,h2⟩:=O9 Tryz.underlying5 k;have h3:0<=n/\n<=255:=h2;exact⟨n.toNat,by omega,by rw [h1];congr 1;omega⟩
 obtain⟨ns,h1,rfl⟩:=u8s l hc;rw [List.length_map]at hl
 match ns,hl,h1 with
 | c::r::k,hl,h1=>exact⟨⟨c,r,k⟩,⟨h1 c (by simp),h1 r (by simp),by simpa using hl,fun x hx=>h1 x (by simp [hx])⟩,rfl⟩
theorem AeY{w:World}{base:Nat}{t:TypeId}{v:Value}(ht:Tryz.prog.underlying t=some .bool)(h:Cell.okWide Tryz.prog w .any base t v):∃b,v=.bool b:=by
 simp only [Cell.okWide,ht]at h
 cases v<;>simp_all [Cell.ok]
theorem Agh(os:Os)(started:os.Started)(H:Type)(enc:TypeId×Value→H) :
  ReturnsInHanded {} Tryz.checked os 4 .any (fun w args=>(Rows.drawingEdgesSpec.pre enc Tryz.prog Tryz.f4 [] false w args/\laidMetH Tryz.prog UQ w)/\sizedMet enc Tryz.prog Tryz.f4 (OpenSpec.ofChange Rows.drawingEdgesSpec) false w args)
   (Rows.drawingEdgesSpec.post enc Tryz.prog Tryz.f4 false true false false):=by
 refine returnsInHanded_of_row (C:=Tryz.checked) (s:=OpenSpec.ofChange Rows.drawingEdgesSpec) (F:=fun _ _ _=>0) (conds:=[]) (laid:=UQ) own started (by kernel_rfl) Tryz.func4
  (ChangeSpec.witness_shaped (enc:=enc) (C:=Tryz.checked) (os:=os) (s:=Rows.drawingEdgesSpec) (X:=fun w _=>laidMetH Tryz.prog UQ w) false (World.doorLaid Tryz.prog 62 os) #[Ng ⟨0,0,0,0,0,0⟩,Lm ⟨0,0,List.replicate 27 0⟩,.bool false] 8 rfl (World.shaped_of_RefB (by kernel_rfl) (by kernel_rfl)) (by kernel_rfl) (by kernel_rfl) (by kernel_rfl) (door_met os _)) ?_
 intro W base args ds gs before qx hW _ _ _ hL hS _;have hval:∀(j:Nat) t v,Tryz.f4.params[j]?=some t→args[j]?=some v→Value.okWide Tryz.prog W .any base t v:=qx;have fX:=hW;obtain⟨p,q,OL,hV,rfl,hfz,IA⟩:=hW;have hA:DataW.TrodAll enc Tryz.prog W 0 (fun _=>true) true Tryz.f4.params.toList args.toList ds p:=OL;rw [Tryz.params4]at hA hval;obtain⟨v0,v1,v2,d0,d1,d2,p0,p1,p2,rfl,rfl,rfl,h0,h1,h2⟩:=trodAll_three hA;obtain⟨rfl,rfl⟩:=trodVars_none hV;obtain⟨f,hf,rfl⟩:=AlF (hval 0 _ v0 rfl rfl);obtain⟨pl,hpl,rfl⟩:=AlG (hval 1 _ v1 rfl rfl);obtain⟨wrong,rfl⟩:=AeY Tryz.underlying4 (show Cell.okWide Tryz.prog W .any base 4 v2 by have:=hval 2 4 v2 rfl rfl;simpa only [Value.okWide,Tryz.underlying4]using this);have hlt:=fun x hx=>DataW.Whole.lt fX x hx;clear OL qx;simp only [List.append_nil]at fX hlt;refine(Agf f hf pl hpl wrong W (AlA hS hL)).mono fun e W' ⟨he,hx⟩=>?_;subst he;refine⟨_,rfl,Amm (pa:=p0++p1++p2) (pv:=[]) fX (fun _ _ _=>trodAll_mk1 (shut_bool Tryz.underlying4 _)) (fun sp hsp=>?_) (fun _ _=>rfl) (by simp) hx (ok_one (by kernel_rfl) rfl (okWide_bool_mk Tryz.underlying4 _))⟩;rw [Tryz.params4];rw [List.append_assoc]
 exact trodAll_mk3 (pF (by kernel_rfl) (of_decide_eq_true (by kernel_rfl)) h0 hx (fun x hxx=>hlt x (List.mem_append_left _ (List.mem_append_left _ hxx))) (fun x hxx=>hsp x (List.mem_append_left _ (List.mem_append_left _ hxx))))
  (pF (by kernel_rfl) (of_decide_eq_true (by kernel_rfl)) h1 hx (fun x hxx=>hlt x (List.mem_append_left _ (List.mem_append_right _ hxx))) (fun x hxx=>hsp x (List.mem_append_left _ (List.mem_append_right _ hxx))))
  (pF (by kernel_rfl) (of_decide_eq_true (by kernel_rfl)) h2 hx (fun x hxx=>hlt x (List.mem_append_right _ hxx)) (fun x hxx=>hsp x (List.mem_append_right _ hxx)))
theorem Agj:Rows.DrawingEdgesSaid:=
 OpenClaim.holds_of_wide 4 Tryz.f4 rfl rfl rfl rfl rfl rfl rfl ⟨rfl,rfl,rfl,rfl,rfl⟩ rfl rfl rfl rfl rfl (by kernel_rfl) Tryz.func4 Agg
  (of_decide_eq_true (by kernel_rfl)) (by unfold Func.isWrapper;first|(rw [if_pos (by decide +kernel)];kernel_rfl)|(rw [if_neg (by decide +kernel)];exact⟨rfl,rfl⟩))
  (fun os started H enc _=>Agh os started H enc)
theorem drawingEdges_holds:Rows.DrawingEdgesCardSaid:=
 Claim7.holds_tied_plain_at .later [] [.data,.data,.data,.sentinel,.sentinel] true (true,"1caddf7d13eff4caf28d6f9766f237c762b05854193dbb40576d1375fc98d2a5") true
  Agj (fun _ h=>by cases h) (by kernel_rfl) (fun _ h=>by cases h) drawingEdges_row_tie rfl ⟨rfl,rfl⟩ (by kernel_rfl) rfl
  (fun f fn hf hfn=>by
   obtain rfl:f=4:=Option.some.inj ((show Tryz.prog.funcNamed "klippe/klippelaw54.DrawingEdges" = some 4 by kernel_rfl).symm.trans hf) |>.symm;obtain rfl:fn=Tryz.f4:=(Option.some.inj (Tryz.func4.symm.trans hfn)).symm
   exact⟨by kernel_rfl,fun j t ht=>by
    rw [Tryz.params4]at ht;have hm:t∈[26,31,4]:=(by simpa using Array.mem_of_getElem? ht);have hall:([26,31,4].all fun u=>!Tryz.prog.wantsStandIn u)=true:=by kernel_rfl
    exact(show Tryz.prog.wantsStandIn t=false by simpa using List.all_eq_true.1 hall t hm)⟩)
  (by kernel_rfl)
#print axioms drawingEdges_holds
end Go.Proofs.YtdaefncphfeaeaaGreatDoor
