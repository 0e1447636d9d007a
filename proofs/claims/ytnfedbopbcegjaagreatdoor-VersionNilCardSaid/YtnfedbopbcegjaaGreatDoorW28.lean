/- W28. -/
import Derived.Test.YtnfedbopbcegjaaGreatDoorW27
namespace Go.Proofs.YtnfedbopbcegjaaGreatDoor
section
open Go.RowKit Kl
theorem ZX{pts:List Pt}{x:Int}(h0:0<=x)(h1:x<(pts.length:Int)):D8 pts x=pts[x.toNat]'(by omega):=by
 unfold D8;rw [List.getD_eq_getElem?_getD,AjS (by omega)];rfl
theorem wY{pts:List Pt}{x:Int}(h0:0<=x)(h1:x<(pts.length:Int)):D8 pts x∈pts:=by
 rw [ZX h0 h1];exact AjO _
theorem ZY{pts:List Pt}(h:CS [] pts=0){x y:Int}(hx:0<=x)(hx1:x<(pts.length:Int))(hy:0<=y)(hy1:y<(pts.length:Int))(he:D8 pts x=D8 pts y):x=y:=by
 rw [ZX hx hx1,ZX hy hy1]at he
 have main:∀i j,(hi:i<pts.length)→(hj:j<pts.length)→i<j→pts[i]≠pts[j]:=by intro i j hi hj AL e;have h2:=gR h j hj;rw [List.nil_append,List.any_eq_false]at h2;have h3:=h2 pts[i] (by rw [List.mem_take_iff_getElem];exact⟨i,by omega,rfl⟩);exact h3 (BN.2 e.symm)
 rcases Nat.lt_trichotomy x.toNat y.toNat with k|k|k
 ·exact absurd he (main _ _ (by omega) (by omega) k)
 ·omega
 ·exact absurd he.symm (main _ _ (by omega) (by omega) k)
theorem Rt{s t:Sg}(h:s≠t):AK s t=false:=by
 rw [Bool.eq_false_iff];exact fun k=>h (Hg.1 k)
theorem SC{pts:List Pt}{l:List Au}{nf:Nat}(h1:CS [] pts=0)(h2:Dd pts.length nf [] l=0):LX pts l:=by
 have hr:∀j (h:j<l.length),0<=l[j].f/\0<=l[j].t/\l[j].f<(pts.length:Int)/\l[j].t<(pts.length:Int)/\l[j].f≠l[j].t/\(l.take j).any (EN · l[j])=false:=by intro j hj;have:=P8 (N1 (l:=l) h2 j hj);rw [List.nil_append]at this;exact⟨this.1,this.2.1,this.2.2.1,this.2.2.2.1,this.2.2.2.2.1,this.2.2.2.2.2.1⟩
 refine⟨?_,?_,?_⟩
 ·intro e he;obtain⟨j,hj,rfl⟩:=List.getElem_of_mem he;obtain⟨a,b,c,d,-,-⟩:=hr j hj;exact⟨a,b,c,d⟩
 ·intro e he;obtain⟨j,hj,rfl⟩:=List.getElem_of_mem he;obtain⟨a,b,c,d,e,-⟩:=hr j hj;refine Rt fun k=>e ?_;have k2:=congrArg Sg.b k;exact ZY h1 a c b d k2
 ·intro j hj e he;obtain⟨a,b,c,d,-,g⟩:=hr j hj;rw [List.mem_take_iff_getElem]at he;obtain⟨i,hi,rfl⟩:=he;obtain⟨a',b',c',d',-,-⟩:=hr i (by omega);rw [List.any_eq_false]at g;have g1:=g l[i] (by rw [List.mem_take_iff_getElem];exact⟨i,by omega,rfl⟩)
  have g2:¬(l[i].f=l[j].f/\l[i].t=l[j].t)/\¬(l[i].f=l[j].t/\l[i].t=l[j].f):=by
   constructor
   ·rintro⟨x,y⟩;exact g1 (by simp [EN,x,y])
   ·rintro⟨x,y⟩;exact g1 (by simp [EN,x,y])
  have f1:∀{x y x' y':Int},0<=x→x<(pts.length:Int)→0<=y→y<(pts.length:Int)→0<=x'→x'<(pts.length:Int)→0<=y'→y'<(pts.length:Int)→(⟨D8 pts x,D8 pts y⟩:Sg)=⟨D8 pts x',D8 pts y'⟩→x'=x/\y'=y:=by intro x y x' y' h3 h4 h5 h6 h7 h8 h9 h10 k;simp only [Sg.mk.injEq]at k;exact⟨(ZY h1 h3 h4 h7 h8 k.1).symm,(ZY h1 h5 h6 h9 h10 k.2).symm⟩
  refine⟨Rt fun k=>g2.1 ?_,Rt fun k=>g2.2 ?_,Rt fun k=>g2.2 ?_,Rt fun k=>g2.1 ?_⟩
  ·exact f1 a c b d a' c' b' d' k
  ·have:=f1 a c b d b' d' a' c' k;exact⟨this.2,this.1⟩
  ·have:=f1 b d a c a' c' b' d' k;exact⟨this.1,this.2⟩
  ·have:=f1 b d a c b' d' a' c' k;exact⟨this.2,this.1⟩
theorem ZC{pts:List Pt}{l:List Au}{x:Sg×Int}(h:x∈AN pts l):∃e∈l,(x.1=Bg pts e/\x.2=e.l)∨(x.1=Bc (Bg pts e)/\x.2=e.r):=by
 unfold AN at h;rw [List.mem_flatMap]at h;obtain⟨e,he,hx⟩:=h;simp only [List.mem_cons,AjY,or_false]at hx
 rcases hx with rfl|rfl
 ·exact⟨e,he,.inl ⟨rfl,rfl⟩⟩
 ·exact⟨e,he,.inr ⟨rfl,rfl⟩⟩
theorem ZF{pts:List Pt}{l:List Au}(h:LX pts l)(hg:∀p∈pts,Da p):∀s∈(AN pts l).map (·.1),Gb s:=by
 intro s hs;rw [List.mem_map]at hs;obtain⟨x,hx,rfl⟩:=hs;obtain⟨e,he,k⟩:=ZC hx;obtain⟨a,b,c,d⟩:=h.rng e he;have h1:=hg _ (wY a c);have h2:=hg _ (wY b d)
 rcases k with⟨k,-⟩|⟨k,-⟩
 ·rw [k];exact⟨h1,h2⟩
 ·rw [k];exact⟨h2,h1⟩
theorem vH{pts:List Pt}{l:List Au}(h:LX pts l)(hg:∀p∈pts,Da p)(h3:DF pts [] l=0):P2 ((AN pts l).map (·.1)):=by
 refine⟨AhE pts l h3,fun s hs=>(ZF h hg s hs).sz (by omega),?_⟩;intro s hs;rw [List.mem_map]at hs;obtain⟨x,hx,rfl⟩:=hs;obtain⟨e,he,k⟩:=ZC hx;have hn:=h.ne e he;intro hab
 have:Bc (Bg pts e)=Bg pts e:=by
  rcases k with⟨k,-⟩|⟨k,-⟩
  ·rw [k]at hab;exact UX hab.symm hab
  ·rw [k]at hab;exact UX hab hab.symm
 rw [Hg.2 this]at hn
 cases hn
theorem Aey{pts:List Pt}{l:List Au}{nf:Nat}(h2:Dd pts.length nf [] l=0):∀x∈AN pts l,-1<=x.2/\x.2<(nf:Int):=by
 intro x hx;obtain⟨e,he,k⟩:=ZC hx;obtain⟨j,hj,rfl⟩:=List.getElem_of_mem he;have h:=P8 (N1 (l:=l) h2 j hj);have s1:=h.2.2.2.2.2.2.1;have s2:=h.2.2.2.2.2.2.2;unfold DZ at s1 s2;simp only [Bool.and_eq_true,decide_eq_true_eq]at s1 s2
 rcases k with⟨-,k⟩|⟨-,k⟩
 ·rw [k];exact s1
 ·rw [k];first|exact s2|exact s2.1
theorem vG(pts:List Pt)(l:List Au):(AN pts l).length=2*l.length:=by
 induction l with
 | nil=>rfl
 | cons e l ih=>simp [AN]at ih ⊢;omega
end
end Go.Proofs.YtnfedbopbcegjaaGreatDoor
