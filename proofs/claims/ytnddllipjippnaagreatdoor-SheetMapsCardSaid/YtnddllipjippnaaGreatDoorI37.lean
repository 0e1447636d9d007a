/- I37: ShLEP. -/
import Derived.Test.YtnddllipjippnaaGreatDoorI14
import Derived.Test.YtnddllipjippnaaGreatDoorI36
set_option maxRecDepth 100000
namespace Go.Proofs.YtnddllipjippnaaGreatDoor
open Go.RowKit Kl Go.ChangeShapes Go.WideShapes
theorem Ag3:Tryz.prog.cellTypes Tryz.prog.depth 46=some (List.replicate 29 5):=by kernel_rfl
theorem Ag2:Tryz.prog.cellsOf 46=29:=by kernel_rfl
theorem u8s:∀l:List Value,(∀x∈l,∃n:Nat,n<256/\x=.int .u8 (n:Nat))→∃ns:List Nat,(∀n∈ns,n<256)/\l=ns.map fun n:Nat=>Value.int .u8 (n:Int)
 | [],_=>⟨[],by simp,rfl⟩
 | x::l,h=>by
  obtain⟨ns,h1,rfl⟩:=u8s l fun y hy=>h y (List.mem_cons_of_mem _ hy);obtain⟨n,hn,rfl⟩:=h x List.mem_cons_self;refine⟨n::ns,?_,rfl⟩;intro m hm
  rcases List.mem_cons.1 hm with e|e
  ·rw [e];exact hn
  ·exact h1 m e
theorem Am8{w:World}{base:Nat}{v:Value}(h:Value.okWide Tryz.prog w .any base 46 v):∃p:Pl,p.Ok/\v=O1 p:=by
 simp only [Value.okWide,Tryz.underlying46]at h;obtain⟨cs,rfl,hsz,ts,uh,_,hall⟩:=h;rw [Ag3]at uh;obtain rfl:=Option.some.inj uh;rw [Ag2]at hsz;obtain⟨l⟩:=cs;have hl:l.length=29:=hsz
 have hc:∀x∈l,∃n:Nat,n<256/\x=.int .u8 (n:Nat):=by
  intro x hx;obtain⟨j,hj,rfl⟩:=List.getElem_of_mem hx;obtain⟨u,e,k⟩:=hall j l[j] (by simp [hj])
  have hu:u=5:=by
   rw [List.getElem?_replicate]at e
   split at e
   ·exact(Option.some.inj e).symm
   ·cases e
  subst hu;obtain⟨n,h1,h2⟩:=wF Tryz.underlying5 k;have h3:0<=n/\n<=255:=h2;exact⟨n.toNat,by omega,by rw [h1];congr 1;omega⟩
 obtain⟨ns,h1,rfl⟩:=u8s l hc;rw [List.length_map]at hl
 match ns,hl,h1 with
 | c::r::k,hl,h1=>exact⟨⟨c,r,k⟩,⟨h1 c (by simp),h1 r (by simp),by simpa using hl,fun x hx=>h1 x (by simp [hx])⟩,rfl⟩
theorem Aa9{w:World}{base:Nat}{v:Value}(h:Value.okWide Tryz.prog w .any base 5 v):∃n:Nat,n<256/\v=.int .u8 (n:Nat):=by
 have k:Cell.okWide Tryz.prog w .any base 5 v:=(by simpa only [Value.okWide,Tryz.underlying5]using h);obtain⟨n,h1,h2⟩:=wF Tryz.underlying5 k;have h3:0<=n/\n<=255:=h2;exact⟨n.toNat,by omega,by rw [h1];congr 1;omega⟩
end Go.Proofs.YtnddllipjippnaaGreatDoor
