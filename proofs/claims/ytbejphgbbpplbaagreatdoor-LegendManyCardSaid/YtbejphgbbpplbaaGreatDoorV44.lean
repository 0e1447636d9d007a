/- V44: LM1. -/
import Derived.Test.YtbejphgbbpplbaaGreatDoorV43
namespace Go.Proofs.YtbejphgbbpplbaaGreatDoor
open Go.RowKit Kl
set_option maxRecDepth 100000
def gX(n:Nat):List Pt:=(List.range (n+1)).flatMap fun (i:Nat)=>[⟨((i:Int):Rat),0⟩,⟨((i:Int):Rat),1⟩]
def pZ(n:Nat):List Av:=((List.range n).flatMap fun (i:Nat)=>[⟨2*i,2*i+1,(i:Int)-1,i⟩,⟨2*i,2*i+2,i,-1⟩,⟨2*i+1,2*i+3,-1,i⟩]) ++ [⟨2*n,2*n+1,(n:Int)-1,-1⟩]
def GV(n:Nat):Cm:=⟨gX n,pZ n,n⟩
def Jj(us:List Bs):Bool:=
 PZ (Dd us)&&(Yh (Dd us)&&(PP (Ft (Dd us)) (I6 (Dd us)) us.length&&(decide (Tn (Dd us)=gX us.length)&&(decide ((MR (Dd us)).ed.map Rc=(pZ us.length).map Rc)&&decide ((MR (Dd us)).fa=us)))))
def I2(n:Nat):Bool:=YC (GV n)&&(gX n).all Ro
theorem AjL{us:List Bs}(h:Jj us=true)(A:Option Addr)(c:Nat)(w:World)(hw:An w)(hp:Jv w A c (Dd us)) :
  Calls Tryz.prog 47 #[.slice A us.length c] w (Qt w (GV us.length) us):=by
 unfold Jj at h;simp only [Bool.and_eq_true,decide_eq_true_eq]at h;obtain⟨h1,h2,h3,h4,h5,h6⟩:=h;have h3':PP (Ft (Dd us)) (I6 (Dd us)) (Dd us).length=true:=(by rw [Qm];exact h3);have:=nG (Dd us) h1 h3' h2 A c w hw hp
 have e:SS (Dd us)=GV us.length:=by unfold SS GV;rw [h4,YQ h5,h6]
 rw [e,h6,Qm]at this;exact this
theorem AaY{n:Nat}(h:I2 n=true):Hr (GV n)=0/\∀p∈(GV n).pts,D4 p:=by
 unfold I2 at h;rw [Bool.and_eq_true,List.all_eq_true]at h;exact⟨nY h.1,fun p hp=>Zc (h.2 p hp)⟩
theorem ot{us:List Bs}(hl:us.length<=30)(h1:Jj us=true)(A:Option Addr)(c:Nat)(w:World)(hw:An w)(hr:Ae w A (us.map S))(hc:us.length<=c)(hcm:c<=9223372036854775807) :
  Calls Tryz.prog 11 #[.slice A us.length c] w (Ub w (GV us.length) us):=
 ou us hl (fun A c w hw hp=>AjL h1 A c w hw hp) A c w hw hr hc hcm
end Go.Proofs.YtbejphgbbpplbaaGreatDoor
