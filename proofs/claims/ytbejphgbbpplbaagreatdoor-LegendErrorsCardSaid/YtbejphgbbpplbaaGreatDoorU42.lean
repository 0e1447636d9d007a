/- U42: ShLGB. -/
import Derived.Test.YtbejphgbbpplbaaGreatDoorU41
set_option maxRecDepth 100000
namespace Go.Proofs.YtbejphgbbpplbaaGreatDoor
open Go.RowKit Kl Go.ChangeShapes Go.WideShapes
theorem cells4{W:World}{b o:Nat}{c:List Value}(h:W.cells? 0 ⟨b,o,none⟩ 4=some c):∃x0 x1 x2 x3,c = [x0,x1,x2,x3]/\W.cell? ⟨b,o,none⟩=some x0/\W.cell? ⟨b,o+1,none⟩=some x1/\W.cell? ⟨b,o+2,none⟩=some x2/\W.cell? ⟨b,o+3,none⟩=some x3:=by
 unfold World.cells? at h;simp only [Nat.zero_le,if_true,List.range_succ,List.range_zero,List.nil_append,List.cons_append,List.mapM_cons,List.mapM_nil,Addr.add_lit,Nat.add_zero]at h
 cases e0:W.cell? ⟨b,o,none⟩with
 | none=>simp [e0]at h
 | some x0=>
  cases e1:W.cell? ⟨b,o+1,none⟩with
  | none=>simp [e0,e1]at h
  | some x1=>
   cases e2:W.cell? ⟨b,o+2,none⟩with
   | none=>simp [e0,e1,e2]at h
   | some x2=>
    cases e3:W.cell? ⟨b,o+3,none⟩with
    | none=>simp [e0,e1,e2,e3]at h
    | some x3=>simp [e0,e1,e2,e3]at h;exact⟨x0,x1,x2,x3,h.symm,rfl,rfl,rfl,rfl⟩
theorem YZ{n:Int}(h:(Lit.int .u8 n).wf=true):∃u:UInt8,n=(u.toNat:Nat):=by
 have h1:IntKind.u8.min<=n/\n<=IntKind.u8.max:=(by simpa [Lit.wf]using h);have h2:0<=n/\n<=255:=h1;exact⟨UInt8.ofNat n.toNat,by rw [UInt8.toNat_ofNat'];omega⟩
section
variable {H : Type} {enc : TypeId × Value → H} {W : World} {sp : Nat → Bool} {held : Bool}
theorem Af9{n i:Nat}{b off:Nat}{y:Option (DataW H×List MemPlace)}(h:(W.cells? 0 ((⟨b,off,none⟩:Addr).add (i*Tryz.prog.cellsOf 113)) (Tryz.prog.cellsOf 113)).bind (DataW.trod enc Tryz.prog W 0 sp held n 113)=y)(hy:y.isSome=true) :
  ∃p:Dr,W.cell? ⟨b,off+i*4,none⟩=some (.int .u8 (p.u.toNat:Nat))/\W.cell? ⟨b,off+i*4+1,none⟩=some (.int .u8 (p.s.toNat:Nat))/\W.cell? ⟨b,off+i*4+2,none⟩=some (.int .u8 (p.p.toNat:Nat))/\W.cell? ⟨b,off+i*4+3,none⟩=some (.int .u8 (p.t.toNat:Nat)):=by
 have hc2:Tryz.prog.cellsOf 113=4:=(by kernel_rfl);obtain⟨z,rfl⟩:=Option.isSome_iff_exists.1 hy;simp only [Option.bind_eq_some_iff]at h;obtain⟨c1,hc1,hz⟩:=h;rw [hc2,Addr.add_lit]at hc1;obtain⟨x0,x1,x2,x3,rfl,h0,h1,h2,h3⟩:=cells4 hc1;obtain⟨y0,y1,y2,y3,m,_,_,t0,t1,t2,t3⟩:=Go.Joins.trod_struct4 Tryz.underlying113 hz;have Anz:Tryz.prog.cellsOf 5=1:=(by kernel_rfl);simp only [Anz]at t0 t1 t2 t3;obtain⟨s0,a0,_,b0⟩:=DataW.trod_int Tryz.underlying5 t0;obtain⟨s1,a1,_,b1⟩:=DataW.trod_int Tryz.underlying5 t1;obtain⟨s2,a2,_,b2⟩:=DataW.trod_int Tryz.underlying5 t2;obtain⟨s3,a3,_,b3⟩:=DataW.trod_int Tryz.underlying5 t3;simp at a0 a1 a2 a3;subst a0 a1 a2 a3;obtain⟨u0,e0⟩:=YZ b0;obtain⟨u1,e1⟩:=YZ b1;obtain⟨u2,e2⟩:=YZ b2;obtain⟨u3,e3⟩:=YZ b3;exact⟨⟨u0,u1,u2,u3⟩,by rw [h0,e0],by rw [h1,e1],by rw [h2,e2],by rw [h3,e3]⟩
theorem AlL{b0:Nat}{v:Value}{d:DataW H}{ps:List MemPlace}(hval:Value.okWide Tryz.prog W .any b0 65 v)(h:DataW.Trod enc Tryz.prog W 0 sp held 65 v d ps) :
  ∃(l:List Dr) (A:Option Addr) (cap:Nat),v=.slice A l.length cap/\l.length<=cap/\cap<=9223372036854775807/\Ae W A (Hu l):=by
 have ht:=Tryz.underlying65;obtain⟨A,len,cap,rfl⟩:=okWide_slice ht hval;obtain⟨fuel,hf⟩:=h
 rcases DataW.trod_slice ht hf with⟨hc,_⟩|⟨a,len',cap',elems,rest,n,_,hcs,_,_,hl,hm,hlen,hel,hrest⟩
 ·simp [Value.cells]at hc;obtain⟨rfl,rfl,rfl⟩:=hc;exact⟨[],none,0,rfl,by simp,by omega,⟨fun h=>by simp [Hu]at h⟩⟩
 ·simp [Value.cells]at hcs;obtain⟨rfl,rfl,rfl⟩:=hcs
  have hsp:a.spot=none:=by simp only [Value.okWide,ht,Cell.okWide,Cell.ok]at hval;exact hval.2.2.2.1
  obtain⟨b,off,spt⟩:=a;simp only at hsp;subst hsp;have hall:∀i,i<len→∃p:Dr,W.cell? ⟨b,off+i*4,none⟩=some (.int .u8 (p.u.toNat:Nat))/\W.cell? ⟨b,off+i*4+1,none⟩=some (.int .u8 (p.s.toNat:Nat))/\W.cell? ⟨b,off+i*4+2,none⟩=some (.int .u8 (p.p.toNat:Nat))/\W.cell? ⟨b,off+i*4+3,none⟩=some (.int .u8 (p.t.toNat:Nat)):=fun i hi=>Af9 (hel i hi) (by rw [Asf (by omega)];rfl)
  have Aiw:∃l:List Dr,l.length=len/\∀i (hi:i<l.length),W.cell? ⟨b,off+i*4,none⟩=some (.int .u8 (l[i].u.toNat:Nat))/\W.cell? ⟨b,off+i*4+1,none⟩=some (.int .u8 (l[i].s.toNat:Nat))/\W.cell? ⟨b,off+i*4+2,none⟩=some (.int .u8 (l[i].p.toNat:Nat))/\W.cell? ⟨b,off+i*4+3,none⟩=some (.int .u8 (l[i].t.toNat:Nat)):=by
   clear hel hlen hl hm hf hval hrest
   induction len with
   | zero=>exact⟨[],rfl,by simp⟩
   | succ k ih=>
    obtain⟨l,hl,hc⟩:=ih (fun i hi=>hall i (by omega));obtain⟨p,h0⟩:=hall k (by omega);refine⟨l ++ [p],by simp [hl],fun i hi=>?_⟩;by_cases e:i<l.length
    ·rw [List.getElem_append_left e];exact hc i e
    ·have:i=k:=(by simp at hi;omega);subst this;rw [List.getElem_append_right (by omega)];simp only [hl,Nat.sub_self,List.getElem_cons_zero];exact h0
  obtain⟨l,rfl,hc⟩:=Aiw;refine⟨l,some ⟨b,off,none⟩,cap,rfl,hl,by unfold maxLen at hm;omega,⟨fun _=>⟨b,off,rfl,fun j hj=>?_⟩⟩⟩;have hj':=hj;rw [vU]at hj';obtain⟨q,hq⟩:∃q,j=q*4∨j=q*4+1∨j=q*4+2∨j=q*4+3:=⟨j/4,by omega⟩;obtain⟨f0,f1,f2,f3⟩:=hc q (by omega);obtain⟨e0,e1,e2,e3⟩:=bS l q (by omega);rw [←Asf hj]
  rcases hq with rfl|rfl|rfl|rfl
  ·rw [f0,e0]
  ·rw [←Nat.add_assoc,f1,e1]
  ·rw [←Nat.add_assoc,f2,e2]
  ·rw [←Nat.add_assoc,f3,e3]
end
section
variable {H : Type} {enc : TypeId × Value → H} {W : World} {sp : Nat → Bool} {held : Bool}
end
end Go.Proofs.YtbejphgbbpplbaaGreatDoor
