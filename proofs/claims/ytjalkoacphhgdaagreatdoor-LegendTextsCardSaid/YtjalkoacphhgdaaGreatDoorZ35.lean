/- Z35: QE QF D9. -/
import Derived.Test.YtjalkoacphhgdaaGreatDoorZ34
namespace Go.Proofs.YtjalkoacphhgdaaGreatDoor
open Go.RowKit Kl
theorem gI{w:World}{B:Nat}{e:TypeId}{s n:Nat}{v:Value}{xs:List Value}(hs:0<s)(h:w.ownsRow B e s v n xs):∃A c,v=.slice A n c:=by
 obtain⟨A,c,h1,-,-,-⟩:=Ae.of_own' hs h;exact⟨A,c,h1⟩
theorem gX{pts:List Pt}{x:Int}(h0:0<=x)(h1:x<(pts.length:Int)):ET pts x=pts[x.toNat]'(by omega):=by
 unfold ET;rw [List.getD_eq_getElem?_getD,Ant (by omega)];rfl
theorem jw{pts:List Pt}{x:Int}(h0:0<=x)(h1:x<(pts.length:Int)):ET pts x∈pts:=by
 rw [gX h0 h1];exact Anp _
theorem gY{pts:List Pt}(h:CH [] pts=0){x y:Int}(hx:0<=x)(hx1:x<(pts.length:Int))(hy:0<=y)(hy1:y<(pts.length:Int))(he:ET pts x=ET pts y):x=y:=by
 rw [gX hx hx1,gX hy hy1]at he
 have main:∀i j,(hi:i<pts.length)→(hj:j<pts.length)→i<j→pts[i]≠pts[j]:=by intro i j hi hj Bf e;have h2:=oC h j hj;rw [List.nil_append,List.any_eq_false]at h2;have h3:=h2 pts[i] (by rw [List.mem_take_iff_getElem];exact⟨i,by omega,rfl⟩);exact h3 (Cr.2 e.symm)
 rcases Nat.lt_trichotomy x.toNat y.toNat with k|k|k
 ·exact absurd he (main _ _ (by omega) (by omega) k)
 ·omega
 ·exact absurd he.symm (main _ _ (by omega) (by omega) k)
theorem Tu{s t:Sg}(h:s≠t):AK s t=false:=by
 rw [Bool.eq_false_iff];exact fun k=>h (Ik.1 k)
theorem pZ{pts:List Pt}{l:List Ax}{nf:Nat}(h1:CH [] pts=0)(h2:CV pts.length nf [] l=0):MV pts l:=by
 have hr:∀j (h:j<l.length),0<=l[j].f/\0<=l[j].t/\l[j].f<(pts.length:Int)/\l[j].t<(pts.length:Int)/\l[j].f≠l[j].t/\(l.take j).any (Fh · l[j])=false:=by intro j hj;have:=Ut (QN (l:=l) h2 j hj);rw [List.nil_append]at this;exact⟨this.1,this.2.1,this.2.2.1,this.2.2.2.1,this.2.2.2.2.1,this.2.2.2.2.2.1⟩
 refine⟨?_,?_,?_⟩
 ·intro e he;obtain⟨j,hj,rfl⟩:=List.getElem_of_mem he;obtain⟨a,b,c,d,-,-⟩:=hr j hj;exact⟨a,b,c,d⟩
 ·intro e he;obtain⟨j,hj,rfl⟩:=List.getElem_of_mem he;obtain⟨a,b,c,d,e,-⟩:=hr j hj;refine Tu fun k=>e ?_;have k2:=congrArg Sg.b k;exact gY h1 a c b d k2
 ·intro j hj e he;obtain⟨a,b,c,d,-,g⟩:=hr j hj;rw [List.mem_take_iff_getElem]at he;obtain⟨i,hi,rfl⟩:=he;obtain⟨a',b',c',d',-,-⟩:=hr i (by omega);rw [List.any_eq_false]at g;have g1:=g l[i] (by rw [List.mem_take_iff_getElem];exact⟨i,by omega,rfl⟩)
  have g2:¬(l[i].f=l[j].f/\l[i].t=l[j].t)/\¬(l[i].f=l[j].t/\l[i].t=l[j].f):=by
   constructor
   ·rintro⟨x,y⟩;exact g1 (by simp [Fh,x,y])
   ·rintro⟨x,y⟩;exact g1 (by simp [Fh,x,y])
  have f1:∀{x y x' y':Int},0<=x→x<(pts.length:Int)→0<=y→y<(pts.length:Int)→0<=x'→x'<(pts.length:Int)→0<=y'→y'<(pts.length:Int)→(⟨ET pts x,ET pts y⟩:Sg)=⟨ET pts x',ET pts y'⟩→x'=x/\y'=y:=by intro x y x' y' h3 h4 h5 h6 h7 h8 h9 h10 k;simp only [Sg.mk.injEq]at k;exact⟨(gY h1 h3 h4 h7 h8 k.1).symm,(gY h1 h5 h6 h9 h10 k.2).symm⟩
  refine⟨Tu fun k=>g2.1 ?_,Tu fun k=>g2.2 ?_,Tu fun k=>g2.2 ?_,Tu fun k=>g2.1 ?_⟩
  ·exact f1 a c b d a' c' b' d' k
  ·have:=f1 a c b d b' d' a' c' k;exact⟨this.2,this.1⟩
  ·have:=f1 b d a c a' c' b' d' k;exact⟨this.1,this.2⟩
  ·have:=f1 b d a c b' d' a' c' k;exact⟨this.2,this.1⟩
theorem fE{pts:List Pt}{l:List Ax}{x:Sg×Int}(h:x∈AM pts l):∃e∈l,(x.1=AY pts e/\x.2=e.l)∨(x.1=AQ (AY pts e)/\x.2=e.r):=by
 unfold AM at h;rw [List.mem_flatMap]at h;obtain⟨e,he,hx⟩:=h;simp only [List.mem_cons,An0,or_false]at hx
 rcases hx with rfl|rfl
 ·exact⟨e,he,.inl ⟨rfl,rfl⟩⟩
 ·exact⟨e,he,.inr ⟨rfl,rfl⟩⟩
theorem fJ{pts:List Pt}{l:List Ax}(h:MV pts l)(hg:∀p∈pts,DJ p):∀s∈(AM pts l).map (·.1),Jr s:=by
 intro s hs;rw [List.mem_map]at hs;obtain⟨x,hx,rfl⟩:=hs;obtain⟨e,he,k⟩:=fE hx;obtain⟨a,b,c,d⟩:=h.rng e he;have h1:=hg _ (jw a c);have h2:=hg _ (jw b d)
 rcases k with⟨k,-⟩|⟨k,-⟩
 ·rw [k];exact⟨h1,h2⟩
 ·rw [k];exact⟨h2,h1⟩
theorem fj{pts:List Pt}{l:List Ax}(h:MV pts l)(hg:∀p∈pts,DJ p)(h3:D6 pts [] l=0):OB ((AM pts l).map (·.1)):=by
 refine⟨AkL pts l h3,fun s hs=>(fJ h hg s hs).sz (by omega),?_⟩;intro s hs;rw [List.mem_map]at hs;obtain⟨x,hx,rfl⟩:=hs;obtain⟨e,he,k⟩:=fE hx;have hn:=h.ne e he;intro hab
 have:AQ (AY pts e)=AY pts e:=by
  rcases k with⟨k,-⟩|⟨k,-⟩
  ·rw [k]at hab;exact Xe hab.symm hab
  ·rw [k]at hab;exact Xe hab hab.symm
 rw [Ik.2 this]at hn
 cases hn
theorem fh{pts:List Pt}{l:List Ax}{nf:Nat}(h2:CV pts.length nf [] l=0):∀x∈AM pts l,-1<=x.2/\x.2<(nf:Int):=by
 intro x hx;obtain⟨e,he,k⟩:=fE hx;obtain⟨j,hj,rfl⟩:=List.getElem_of_mem he;have h:=Ut (QN (l:=l) h2 j hj);have s1:=h.2.2.2.2.2.2.1;have s2:=h.2.2.2.2.2.2.2;unfold Ea at s1 s2;simp only [Bool.and_eq_true,decide_eq_true_eq]at s1 s2
 rcases k with⟨-,k⟩|⟨-,k⟩
 ·rw [k];exact s1
 ·rw [k];first|exact s2|exact s2.1
theorem fK(pts:List Pt)(l:List Ax):(AM pts l).length=2*l.length:=by
 induction l with
 | nil=>rfl
 | cons e l ih=>simp [AM]at ih ⊢;omega
end Go.Proofs.YtjalkoacphhgdaaGreatDoor
