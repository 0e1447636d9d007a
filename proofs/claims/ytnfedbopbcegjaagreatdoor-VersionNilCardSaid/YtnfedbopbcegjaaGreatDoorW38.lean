/- W38. -/
import Derived.Test.YtnfedbopbcegjaaGreatDoorW37
namespace Go.Proofs.YtnfedbopbcegjaaGreatDoor
open Go.RowKit Kl
def Mf(P:List (List Pt×Bs))(l:List Hf)(x:Hf):Prop:=0<=BO l x/\(P.getD (BO l x).toNat ([],[])).2=(P.getD x.l.toNat ([],[])).2
def K2(P:List (List Pt×Bs))(l:List Hf)(fs:List Int):Prop:=∀g:Int→Int,(∀x∈l,Mf P l x→g x.l=g (BO l x))→∀z:Nat,z<fs.length→g (z:Int)=g (fs.getD z 0)
def Jr(P:List (List Pt×Bs))(l:List Hf)(fs:List Int)(j:Nat):Prop:=∀x∈l.take j,Mf P l x→¬fs.getD (BO l x).toNat 0<fs.getD x.l.toNat 0
structure fq(P:List (List Pt×Bs))(l:List Hf)(fs:List Int):Prop where
 len:fs.length=P.length
 rng:∀z∈fs,0<=z/\z<(P.length:Int)
 con:K2 P l fs
 stb:Jr P l fs l.length
theorem Jr.next{P:List (List Pt×Bs)}{l:List Hf}{fs:List Int}{j:Nat}{x:Hf}(h:Jr P l fs j)(hj:j<l.length)(hx:x=l[j])(hs:Mf P l x→¬fs.getD (BO l x).toNat 0<fs.getD x.l.toNat 0):Jr P l fs (j+1):=by
 intro y hy;rw [AjQ hj,List.mem_append,AjZ,←hx]at hy
 rcases hy with hy|rfl
 ·exact h y hy
 ·exact hs
theorem K2.set{P:List (List Pt×Bs)}{l:List Hf}{fs:List Int}{x:Hf}{q m:Nat}(h:K2 P l fs)(hx:x∈l)(hs:Mf P l x)(hq:x.l=(q:Int))(hm:BO l x=(m:Int))(hm1:m<fs.length):K2 P l (fs.set q (fs.getD m 0)):=by
 intro g hg z hz;rw [List.length_set]at hz;have h0:=h g hg;by_cases e:q=z
 ·subst e;rw [List.getD_eq_getElem?_getD,List.getElem?_set_self hz,Option.getD_some];have h1:=hg x hx hs;rw [hq,hm]at h1;rw [h1];exact h0 m hm1
 ·rw [List.getD_eq_getElem?_getD,List.getElem?_set_ne e,←List.getD_eq_getElem?_getD];exact h0 z hz
def Lb(l:List Hf)(fs:List Int)(x:Hf):List Hf:=
 if Na l fs x=fs.getD x.l.toNat 0 then [] else if Na l fs x<0 then [⟨x.a,x.b,fs.getD x.l.toNat 0⟩,⟨x.b,x.a,-1⟩] else [⟨x.a,x.b,fs.getD x.l.toNat 0⟩]
theorem AaJ{l:List Hf}{fs:List Int}{j:Nat}{x:Hf}{ed:List Hf}(hj:j<l.length)(hx:x=l[j])(h:ed=(l.take j).flatMap (Lb l fs)):ed++Lb l fs x=(l.take (j+1)).flatMap (Lb l fs):=by
 rw [AjQ hj,List.flatMap_append,List.flatMap_singleton,←h,←hx]
theorem AaI{l:List Hf}{fs:List Int}{x:Hf}{zr zf:Int}{q:Nat}(h1:zr=Na l fs x)(h2:fs.getD q 0=zf)(h3:x.l=(q:Int)):Lb l fs x=if zr=zf then [] else if zr<0 then [⟨x.a,x.b,zf⟩,⟨x.b,x.a,-1⟩] else [⟨x.a,x.b,zf⟩]:=by
 unfold Lb;rw [h3,Int.toNat_natCast,h2,←h1]
inductive KA(l0:List Hf):List Hf→Prop
 | refl:KA l0 l0
 | step {l:List Hf} {x y:Hf} : x∈l→y∈l→KA l0 l→VG l x y→KA l0 (Jd l x y)
def RB(P:List (List Pt×Bs))(m:MapZ)(faces:List Bs):Prop:=
 ∃fs,fq P (OJ P) fs/\VH (KA ((OJ P).flatMap (Lb (OJ P) fs))) (P.map (·.2)) m faces
def fu(w:World)(P:List (List Pt×Bs))(e:Ending)(w':World):Prop:=
 ∃A B F c d g m faces,e=.returned (AE A B F m c d g)/\MapAt w' P.length (P.map (·.2)) A B F c d g m faces/\Aa w w'/\LY w.heap.size A B F/\RB P m faces
end Go.Proofs.YtnfedbopbcegjaaGreatDoor
