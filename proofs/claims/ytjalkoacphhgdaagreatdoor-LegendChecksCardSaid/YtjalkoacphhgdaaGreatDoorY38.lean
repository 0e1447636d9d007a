/- Y38: QE QF D9. -/
import Derived.Test.YtjalkoacphhgdaaGreatDoorY37
namespace Go.Proofs.YtjalkoacphhgdaaGreatDoor
open Go.RowKit Kl
theorem fK{w:World}{B:Nat}{e:TypeId}{s n:Nat}{v:Value}{xs:List Value}(hs:0<s)(h:w.ownsRow B e s v n xs):∃A c,v=.slice A n c:=by
 obtain⟨A,c,h1,-,-,-⟩:=Ae.of_own' hs h;exact⟨A,c,h1⟩
theorem fU{pts:List Pt}{x:Int}(h0:0<=x)(h1:x<(pts.length:Int)):EZ pts x=pts[x.toNat]'(by omega):=by
 unfold EZ;rw [List.getD_eq_getElem?_getD,AmH (by omega)];rfl
theorem ir{pts:List Pt}{x:Int}(h0:0<=x)(h1:x<(pts.length:Int)):EZ pts x∈pts:=by
 rw [fU h0 h1];exact AmD _
theorem fV{pts:List Pt}(h:CH [] pts=0){x y:Int}(hx:0<=x)(hx1:x<(pts.length:Int))(hy:0<=y)(hy1:y<(pts.length:Int))(he:EZ pts x=EZ pts y):x=y:=by
 rw [fU hx hx1,fU hy hy1]at he
 have main:∀i j,(hi:i<pts.length)→(hj:j<pts.length)→i<j→pts[i]≠pts[j]:=by intro i j hi hj Bh e;have h2:=nE h j hj;rw [List.nil_append,List.any_eq_false]at h2;have h3:=h2 pts[i] (by rw [List.mem_take_iff_getElem];exact⟨i,by omega,rfl⟩);exact h3 (Ct.2 e.symm)
 rcases Nat.lt_trichotomy x.toNat y.toNat with k|k|k
 ·exact absurd he (main _ _ (by omega) (by omega) k)
 ·omega
 ·exact absurd he.symm (main _ _ (by omega) (by omega) k)
theorem Tp{s t:Sg}(h:s≠t):AK s t=false:=by
 rw [Bool.eq_false_iff];exact fun k=>h (Ip.1 k)
theorem oZ{pts:List Pt}{l:List Av}{nf:Nat}(h1:CH [] pts=0)(h2:CU pts.length nf [] l=0):MZ pts l:=by
 have hr:∀j (h:j<l.length),0<=l[j].f/\0<=l[j].t/\l[j].f<(pts.length:Int)/\l[j].t<(pts.length:Int)/\l[j].f≠l[j].t/\(l.take j).any (Fp · l[j])=false:=by intro j hj;have:=Um (QP (l:=l) h2 j hj);rw [List.nil_append]at this;exact⟨this.1,this.2.1,this.2.2.1,this.2.2.2.1,this.2.2.2.2.1,this.2.2.2.2.2.1⟩
 refine⟨?_,?_,?_⟩
 ·intro e he;obtain⟨j,hj,rfl⟩:=List.getElem_of_mem he;obtain⟨a,b,c,d,-,-⟩:=hr j hj;exact⟨a,b,c,d⟩
 ·intro e he;obtain⟨j,hj,rfl⟩:=List.getElem_of_mem he;obtain⟨a,b,c,d,e,-⟩:=hr j hj;refine Tp fun k=>e ?_;have k2:=congrArg Sg.b k;exact fV h1 a c b d k2
 ·intro j hj e he;obtain⟨a,b,c,d,-,g⟩:=hr j hj;rw [List.mem_take_iff_getElem]at he;obtain⟨i,hi,rfl⟩:=he;obtain⟨a',b',c',d',-,-⟩:=hr i (by omega);rw [List.any_eq_false]at g;have g1:=g l[i] (by rw [List.mem_take_iff_getElem];exact⟨i,by omega,rfl⟩)
  have g2:¬(l[i].f=l[j].f/\l[i].t=l[j].t)/\¬(l[i].f=l[j].t/\l[i].t=l[j].f):=by
   constructor
   ·rintro⟨x,y⟩;exact g1 (by simp [Fp,x,y])
   ·rintro⟨x,y⟩;exact g1 (by simp [Fp,x,y])
  have f1:∀{x y x' y':Int},0<=x→x<(pts.length:Int)→0<=y→y<(pts.length:Int)→0<=x'→x'<(pts.length:Int)→0<=y'→y'<(pts.length:Int)→(⟨EZ pts x,EZ pts y⟩:Sg)=⟨EZ pts x',EZ pts y'⟩→x'=x/\y'=y:=by intro x y x' y' h3 h4 h5 h6 h7 h8 h9 h10 k;simp only [Sg.mk.injEq]at k;exact⟨(fV h1 h3 h4 h7 h8 k.1).symm,(fV h1 h5 h6 h9 h10 k.2).symm⟩
  refine⟨Tp fun k=>g2.1 ?_,Tp fun k=>g2.2 ?_,Tp fun k=>g2.2 ?_,Tp fun k=>g2.1 ?_⟩
  ·exact f1 a c b d a' c' b' d' k
  ·have:=f1 a c b d b' d' a' c' k;exact⟨this.2,this.1⟩
  ·have:=f1 b d a c a' c' b' d' k;exact⟨this.1,this.2⟩
  ·have:=f1 b d a c b' d' a' c' k;exact⟨this.2,this.1⟩
theorem eL{pts:List Pt}{l:List Av}{x:Sg×Int}(h:x∈AL pts l):∃e∈l,(x.1=Bc pts e/\x.2=e.l)∨(x.1=AQ (Bc pts e)/\x.2=e.r):=by
 unfold AL at h;rw [List.mem_flatMap]at h;obtain⟨e,he,hx⟩:=h;simp only [List.mem_cons,AmN,or_false]at hx
 rcases hx with rfl|rfl
 ·exact⟨e,he,.inl ⟨rfl,rfl⟩⟩
 ·exact⟨e,he,.inr ⟨rfl,rfl⟩⟩
theorem eO{pts:List Pt}{l:List Av}(h:MZ pts l)(hg:∀p∈pts,DL p):∀s∈(AL pts l).map (·.1),Ju s:=by
 intro s hs;rw [List.mem_map]at hs;obtain⟨x,hx,rfl⟩:=hs;obtain⟨e,he,k⟩:=eL hx;obtain⟨a,b,c,d⟩:=h.rng e he;have h1:=hg _ (ir a c);have h2:=hg _ (ir b d)
 rcases k with⟨k,-⟩|⟨k,-⟩
 ·rw [k];exact⟨h1,h2⟩
 ·rw [k];exact⟨h2,h1⟩
theorem cd{pts:List Pt}{l:List Av}(h:MZ pts l)(hg:∀p∈pts,DL p)(h3:D5 pts [] l=0):OB ((AL pts l).map (·.1)):=by
 refine⟨Akl pts l h3,fun s hs=>(eO h hg s hs).sz (by omega),?_⟩;intro s hs;rw [List.mem_map]at hs;obtain⟨x,hx,rfl⟩:=hs;obtain⟨e,he,k⟩:=eL hx;have hn:=h.ne e he;intro hab
 have:AQ (Bc pts e)=Bc pts e:=by
  rcases k with⟨k,-⟩|⟨k,-⟩
  ·rw [k]at hab;exact WL hab.symm hab
  ·rw [k]at hab;exact WL hab hab.symm
 rw [Ip.2 this]at hn
 cases hn
theorem br{pts:List Pt}{l:List Av}{nf:Nat}(h2:CU pts.length nf [] l=0):∀x∈AL pts l,-1<=x.2/\x.2<(nf:Int):=by
 intro x hx;obtain⟨e,he,k⟩:=eL hx;obtain⟨j,hj,rfl⟩:=List.getElem_of_mem he;have h:=Um (QP (l:=l) h2 j hj);have s1:=h.2.2.2.2.2.2.1;have s2:=h.2.2.2.2.2.2.2;unfold Ee at s1 s2;simp only [Bool.and_eq_true,decide_eq_true_eq]at s1 s2
 rcases k with⟨-,k⟩|⟨-,k⟩
 ·rw [k];exact s1
 ·rw [k];first|exact s2|exact s2.1
theorem eP(pts:List Pt)(l:List Av):(AL pts l).length=2*l.length:=by
 induction l with
 | nil=>rfl
 | cons e l ih=>simp [AL]at ih ⊢;omega
end Go.Proofs.YtjalkoacphhgdaaGreatDoor
