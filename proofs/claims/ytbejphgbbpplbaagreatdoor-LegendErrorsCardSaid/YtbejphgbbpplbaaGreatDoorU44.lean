/- U44: ShLEP ShLE2 ShLE4. -/
import Derived.Test.YtbejphgbbpplbaaGreatDoorU41
import Derived.Test.YtbejphgbbpplbaaGreatDoorU43
set_option maxRecDepth 100000
namespace Go.Proofs.YtbejphgbbpplbaaGreatDoor
open Go.RowKit Kl Go.ChangeShapes Go.WideShapes
theorem Afs:Tryz.prog.cellTypes Tryz.prog.depth 51=some (List.replicate 29 5):=by kernel_rfl
theorem Afr:Tryz.prog.cellsOf 51=29:=by kernel_rfl
theorem u8s:∀l:List Value,(∀x∈l,∃n:Nat,n<256/\x=.int .u8 (n:Nat))→∃ns:List Nat,(∀n∈ns,n<256)/\l=ns.map fun n:Nat=>Value.int .u8 (n:Int)
 | [],_=>⟨[],by simp,rfl⟩
 | x::l,h=>by
  obtain⟨ns,h1,rfl⟩:=u8s l fun y hy=>h y (List.mem_cons_of_mem _ hy);obtain⟨n,hn,rfl⟩:=h x List.mem_cons_self;refine⟨n::ns,?_,rfl⟩;intro m hm
  rcases List.mem_cons.1 hm with e|e
  ·rw [e];exact hn
  ·exact h1 m e
theorem AlM{w:World}{base:Nat}{v:Value}(h:Value.okWide Tryz.prog w .any base 51 v):∃p:Pl,p.Ok/\v=NT p:=by
 simp only [Value.okWide,Tryz.underlying51]at h;obtain⟨cs,rfl,hsz,ts,J4,_,hall⟩:=h;rw [Afs]at J4;obtain rfl:=Option.some.inj J4;rw [Afr]at hsz;obtain⟨l⟩:=cs;have hl:l.length=29:=hsz
 have hc:∀x∈l,∃n:Nat,n<256/\x=.int .u8 (n:Nat):=by
  intro x hx;obtain⟨j,hj,rfl⟩:=List.getElem_of_mem hx;obtain⟨u,e,k⟩:=hall j l[j] (by simp [hj])
  have hu:u=5:=by
   rw [List.getElem?_replicate]at e
   split at e
   ·exact(Option.some.inj e).symm
   ·cases e
  subst hu;obtain⟨n,h1,h2⟩:=tZ Tryz.underlying5 k;have h3:0<=n/\n<=255:=h2;exact⟨n.toNat,by omega,by rw [h1];congr 1;omega⟩
 obtain⟨ns,h1,rfl⟩:=u8s l hc;rw [List.length_map]at hl
 match ns,hl,h1 with
 | c::r::k,hl,h1=>exact⟨⟨c,r,k⟩,⟨h1 c (by simp),h1 r (by simp),by simpa using hl,fun x hx=>h1 x (by simp [hx])⟩,rfl⟩
theorem AlN{w:World}{base:Nat}{v:Value}(h:Value.okWide Tryz.prog w .any base 5 v):∃n:Nat,n<256/\v=.int .u8 (n:Nat):=by
 have k:Cell.okWide Tryz.prog w .any base 5 v:=(by simpa only [Value.okWide,Tryz.underlying5]using h);obtain⟨n,h1,h2⟩:=tZ Tryz.underlying5 k;have h3:0<=n/\n<=255:=h2;exact⟨n.toNat,by omega,by rw [h1];congr 1;omega⟩
end Go.Proofs.YtbejphgbbpplbaaGreatDoor
namespace Go.Proofs.YtbejphgbbpplbaaGreatDoor
open Go.RowKit Kl
def U6(k:Nat):Bs:=if k=0 then [48] else if k=1 then [45,49] else [120]
def JG(k:Nat):Bs:=if k=0 then [66] else if k=1 then [65] else [49]
def FR(i j:Nat):List La:=[⟨[65],U6 i,[]⟩,⟨JG j,[48],[]⟩]
theorem Apa(F:List Bs):(Cw F).length<=F.length:=by
 unfold Cw;refine Asl (Go.Lib.compact_length_le _) ?_;rw [List.length_mergeSort];exact List.length_filter_le _ _
theorem oO(j n:Nat):JG j≠Bi n/\[65]≠Bi n/\JG j≠[122]:=by
 have h1:JG j = [66]∨JG j = [65]∨JG j = [49]:=(by unfold JG;split;exact .inl rfl;split;exact .inr (.inl rfl);exact .inr (.inr rfl));have h2:Bi n = [97]∨Bi n = [98]∨Bi n = [99]∨Bi n = [100]:=by unfold Bi;split;exact .inl rfl;split;exact .inr (.inl rfl);split;exact .inr (.inr (.inl rfl));exact .inr (.inr (.inr rfl))
 rcases h1 with h|h|h<;>rcases h2 with k|k|k|k<;>rw [h,k]<;>decide
theorem Ala(n:Nat):nameB (Bi n)=true:=by
 unfold Bi
 split;decide
 split;decide
 split<;>decide
theorem Agj{fa:List Bs}(h:∀u∈fa,(∃n:Nat,u=Bi n)∨u = [122])(hl:fa.length<=20)(i j:Nat):MO (FR i j) fa=0:=by
 have hm:∀u∈Cw fa,(∃n:Nat,u=Bi n)∨u = [122]:=fun u hu=>h u (ve hu);unfold MO
 have a1:(Cw fa).any (fun u=>!nameB u)=false:=by
  rw [List.any_eq_false];intro u hu
  rcases hm u hu with⟨n,rfl⟩|rfl
  ·rw [Ala];simp
  ·decide
 have a3:(D8 (FR i j) (G3 (FR i j) (Cw fa))).any (fun x=>decide (80<x.t.length))=false:=by
  rw [List.any_eq_false];intro x hx;obtain⟨k,hk,rfl⟩:=List.getElem_of_mem hx;have Xm:k<(G3 (FR i j) (Cw fa)).length:=(by rw [Ow]at hk;exact hk);rw [VR _ _ Xm];have hu:(G3 (FR i j) (Cw fa))[k]∈Cw fa:=(List.mergeSort_perm _ _).mem_iff.1 (Asa Xm);generalize (G3 (FR i j) (Cw fa))[k]=u at *
  have e:textU (FR i j) u = []:=by
   unfold textU FR;simp only [List.foldl_cons,List.foldl_nil,G4]
   rcases hm u hu with⟨n,rfl⟩|rfl
   ·rw [if_neg (oO j n).2.1,if_neg (oO j n).1]
   ·rw [if_neg (oO j 0).2.2,if_neg (by decide)]
  show ¬decide (80<(textU (FR i j) u).length)=true;rw [e];simp
 have a2:=Apa fa;rw [a1,a3,if_neg (by simp),if_neg (by omega),if_neg (by simp)]
section
open Go.Sort Go.Shelf
def Adj(z:Int)(w:World)(e:Ending)(w':World):Prop:=∃(k:Int) (b:Bool),e=.returned (.tuple #[.int .i64 k,.bool b,.int .i64 z])/\(z≠0→b=false)/\Aa w w'
def MG(z:Int)(w:World)(e:Ending)(w':World):Prop:=∃(A:Option Addr) (n c:Nat),e=.returned (.tuple #[.slice A n c,.int .i64 z])/\(z≠0→n=0)/\Aa w w'
def AbR(zc zd:Int)(w:World)(e:Ending)(w':World):Prop:=∃(A:Option Addr) (n c:Nat) (z:Int),e=.returned (.tuple #[.slice A n c,.int .i64 z])/\(zc≠0→z=zc/\n=0)/\(zc=0→zd≠0→z=zd/\n=0)/\(zc=0→zd=0→z=0)/\Aa w w'
theorem MG.bad{z:Int}{w w':World}{e:Ending}(h:Cy (.tuple #[.slice none 0 0,.int .i64 z]) w e w'):MG z w e w':=⟨none,0,0,h.1,fun _=>rfl,h.2⟩
section
variable {l : List En} {A : Option Addr} {c : Nat} {w : World} (hw : Al w) (hr : Ae w A (AN l)) (hc : l.length <= c) (hcm : c <= 9223372036854775807) (hl : ∀ e ∈ l, Ih e) (h0 : Dh l = 0) (Ce : l.length <= 1000)
 {cl:List La} {B:Option Addr} {d:Nat} (hB:Ae w B (Cj cl)) (hd:cl.length<=d) (Kp:d<=9223372036854775807) {z:Int} (DZ:∀W,Aa w W→Calls Tryz.prog 32 #[.slice B cl.length d] W (Av z W))
include hr hc hcm hl h0 DZ
theorem xy(W:World)(hx:Aa w W):Calls Tryz.prog 85 #[.slice A l.length c,.slice B cl.length d] W (Av z W):=by
 have:=xx l A c z (.slice B cl.length d) W (hr.ext hx) hc hcm hl (fun W2 hx2=>DZ W2 (hx.trans hx2));rw [h0,if_pos rfl]at this;exact this
include Ce hB hd Kp
theorem AlT:Calls Tryz.prog 34 #[.slice A l.length c,.slice B cl.length d] w (Adj z w):=by
 have op:=xy hr hc hcm hl h0 DZ w (Aa.refl _);by_cases hz:z=0
 ·subst hz;refine(xz l A c cl B d w hr Ce hB hd Kp op).mono ?_;rintro e w' ⟨rfl,hx⟩
  cases IL cl l<;>exact⟨_,_,rfl,fun h=>absurd rfl h,hx⟩
 ·refine(AlS l A c z hz _ w op).mono ?_;rintro e w' ⟨rfl,hx⟩;exact⟨0,false,rfl,fun _=>rfl,hx⟩
theorem Aok(ha:NZ l):Calls Tryz.prog 35 #[.slice A l.length c,.slice B cl.length d] w (MG z w):=by
 have op:=xy hr hc hcm hl h0 DZ;by_cases hz:z=0
 ·subst hz;refine(Aoj l A c cl B d w hr hB hd Kp (fun e he=>by have:=(hl e he).1;omega) ha (by omega) op).mono ?_;rintro e w' ⟨v,rfl,hv,hx⟩;obtain⟨A9,c9,rfl,-,-,-⟩:=Ae.of_own' (by omega) hv;exact⟨A9,l.length,c9,rfl,fun h=>absurd rfl h,hx⟩
 ·exact(Aoi l A c z hz B cl.length d w op).mono fun _ _ h=>MG.bad h
end
section
variable {l : List En} {A : Option Addr} {c : Nat} {w : World} (hr : Ae w A (AN l)) (hc : l.length <= c) (hcm : c <= 9223372036854775807) (hl : ∀ e ∈ l, Ih e) (h0 : Dh l = 0) (Ce : l.length <= 1000)
 {m:Bz} {fa:List Bs} {A1 B1 F1:Option Addr} {c1 d1 g1:Nat} (hF:Ae w F1 (fa.map S)) (hn:m.nf=fa.length) (DJ:fa.length<=1000) {z:Int} (C6:∀W,Aa w W→Calls Tryz.prog 33 #[Bv A1 B1 F1 m c1 d1 g1] W (Av z W))
include hr hc hcm hl h0 hF hn C6
theorem AkM(DJ:fa.length<=1000):Calls Tryz.prog 25 #[.slice A l.length c,Bv A1 B1 F1 m c1 d1 g1] w (MG z w):=by
 by_cases hz:z=0
 ·subst hz;refine(AkL l A c m fa A1 B1 F1 c1 d1 g1 w hr hc hcm hl h0 hF hn DJ C6).mono ?_;rintro e w' ⟨A9,c9,rfl,-,hx⟩;exact⟨A9,_,c9,rfl,fun h=>absurd rfl h,hx⟩
 ·exact(AkK l A c z hz _ _ _ w hr hc hcm hl h0 C6).mono fun _ _ h=>MG.bad h
theorem Apf(Ce:l.length<=1000)(DJ:fa.length<=1000):Calls Tryz.prog 26 #[.slice A l.length c,Bv A1 B1 F1 m c1 d1 g1] w (MG z w):=by
 by_cases hz:z=0
 ·subst hz;refine(Ape l A c m fa A1 B1 F1 c1 d1 g1 w hr hc hcm hl h0 (by omega) hF hn (by omega) C6).mono ?_;rintro e w' ⟨A9,c9,rfl,-,hx⟩;exact⟨A9,_,c9,rfl,fun h=>absurd rfl h,hx⟩
 ·exact(Apd l A c z hz _ _ _ w hr hc hcm hl h0 C6).mono fun _ _ h=>MG.bad h
end
theorem Afj{cl:List La}{B:Option Addr}{d:Nat}{w:World}(hB:Ae w B (Cj cl))(hd:cl.length<=d)(Kp:d<=9223372036854775807){m:Bz}{fa:List Bs}{A1 B1 F1:Option Addr}{c1 d1 g1:Nat}(hF:Ae w F1 (fa.map S))(hn:m.nf=fa.length)(DJ:fa.length<=1000)
  (hlen:∀u∈fa,u.length<1000000) (hlc:∀y∈cl,y.mn.length<100000/\y.mx.length<100000) (hce:MO cl fa=0) {zc zd:Int} (DZ:∀W,Aa w W→Calls Tryz.prog 32 #[.slice B cl.length d] W (Av zc W))
  (C6:∀W,Aa w W→Calls Tryz.prog 33 #[Bv A1 B1 F1 m c1 d1 g1] W (Av zd W)) :
  Calls Tryz.prog 10 #[.slice B cl.length d,Bv A1 B1 F1 m c1 d1 g1] w (AbR zc zd w):=by
 by_cases hz:zc=0
 ·subst hz;by_cases hy:zd=0
  ·subst hy;refine(vB cl B d m fa A1 B1 F1 c1 d1 g1 w hB hd Kp hF hn DJ hlen hlc DZ C6).mono ?_;intro e w' h;unfold Im at h;rw [hce,if_pos rfl]at h;obtain⟨A,c,rfl,-,-,-,hx⟩:=h;exact⟨A,_,c,0,rfl,fun h=>absurd rfl h,fun _ h=>absurd rfl h,fun _ _=>rfl,hx⟩
  ·refine(Afi B cl.length d zd hy _ _ _ w DZ C6).mono ?_;rintro e w' ⟨rfl,hx⟩;exact⟨none,0,0,zd,rfl,fun h=>absurd rfl h,fun _ _=>⟨rfl,rfl⟩,fun _ h=>absurd h hy,hx⟩
 ·refine(Afh B cl.length d zc hz _ _ _ w DZ).mono ?_;rintro e w' ⟨rfl,hx⟩;exact⟨none,0,0,zc,rfl,fun _=>⟨rfl,rfl⟩,fun h=>absurd h hz,fun h=>absurd h hz,hx⟩
end
end Go.Proofs.YtbejphgbbpplbaaGreatDoor
