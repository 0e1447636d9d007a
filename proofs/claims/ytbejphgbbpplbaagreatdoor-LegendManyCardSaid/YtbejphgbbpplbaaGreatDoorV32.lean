/- V32: QE QF D9. -/
import Derived.Test.YtbejphgbbpplbaaGreatDoorV31
namespace Go.Proofs.YtbejphgbbpplbaaGreatDoor
open Go.RowKit Kl
theorem fY{w:World}{B:Nat}{e:TypeId}{s n:Nat}{v:Value}{xs:List Value}(hs:0<s)(h:w.ownsRow B e s v n xs):∃A c,v=.slice A n c:=by
 obtain⟨A,c,h1,-,-,-⟩:=Ae.of_own' hs h;exact⟨A,c,h1⟩
theorem gU{pts:List Pt}{x:Int}(h0:0<=x)(h1:x<(pts.length:Int)):Fe pts x=pts[x.toNat]'(by omega):=by
 unfold Fe;rw [List.getD_eq_getElem?_getD,Anc (by omega)];rfl
theorem jt{pts:List Pt}{x:Int}(h0:0<=x)(h1:x<(pts.length:Int)):Fe pts x∈pts:=by
 rw [gU h0 h1];exact AmY _
theorem gV{pts:List Pt}(h:CH [] pts=0){x y:Int}(hx:0<=x)(hx1:x<(pts.length:Int))(hy:0<=y)(hy1:y<(pts.length:Int))(he:Fe pts x=Fe pts y):x=y:=by
 rw [gU hx hx1,gU hy hy1]at he
 have main:∀i j,(hi:i<pts.length)→(hj:j<pts.length)→i<j→pts[i]≠pts[j]:=by intro i j hi hj Bf e;have h2:=nT h j hj;rw [List.nil_append,List.any_eq_false]at h2;have h3:=h2 pts[i] (by rw [List.mem_take_iff_getElem];exact⟨i,by omega,rfl⟩);exact h3 (Cx.2 e.symm)
 rcases Nat.lt_trichotomy x.toNat y.toNat with k|k|k
 ·exact absurd he (main _ _ (by omega) (by omega) k)
 ·omega
 ·exact absurd he.symm (main _ _ (by omega) (by omega) k)
theorem Tt{s t:Sg}(h:s≠t):AK s t=false:=by
 rw [Bool.eq_false_iff];exact fun k=>h (Iq.1 k)
theorem qA{pts:List Pt}{l:List Av}{nf:Nat}(h1:CH [] pts=0)(h2:CW pts.length nf [] l=0):MV pts l:=by
 have hr:∀j (h:j<l.length),0<=l[j].f/\0<=l[j].t/\l[j].f<(pts.length:Int)/\l[j].t<(pts.length:Int)/\l[j].f≠l[j].t/\(l.take j).any (Fu · l[j])=false:=by intro j hj;have:=Us (QQ (l:=l) h2 j hj);rw [List.nil_append]at this;exact⟨this.1,this.2.1,this.2.2.1,this.2.2.2.1,this.2.2.2.2.1,this.2.2.2.2.2.1⟩
 refine⟨?_,?_,?_⟩
 ·intro e he;obtain⟨j,hj,rfl⟩:=List.getElem_of_mem he;obtain⟨a,b,c,d,-,-⟩:=hr j hj;exact⟨a,b,c,d⟩
 ·intro e he;obtain⟨j,hj,rfl⟩:=List.getElem_of_mem he;obtain⟨a,b,c,d,e,-⟩:=hr j hj;refine Tt fun k=>e ?_;have k2:=congrArg Sg.b k;exact gV h1 a c b d k2
 ·intro j hj e he;obtain⟨a,b,c,d,-,g⟩:=hr j hj;rw [List.mem_take_iff_getElem]at he;obtain⟨i,hi,rfl⟩:=he;obtain⟨a',b',c',d',-,-⟩:=hr i (by omega);rw [List.any_eq_false]at g;have g1:=g l[i] (by rw [List.mem_take_iff_getElem];exact⟨i,by omega,rfl⟩)
  have g2:¬(l[i].f=l[j].f/\l[i].t=l[j].t)/\¬(l[i].f=l[j].t/\l[i].t=l[j].f):=by
   constructor
   ·rintro⟨x,y⟩;exact g1 (by simp [Fu,x,y])
   ·rintro⟨x,y⟩;exact g1 (by simp [Fu,x,y])
  have f1:∀{x y x' y':Int},0<=x→x<(pts.length:Int)→0<=y→y<(pts.length:Int)→0<=x'→x'<(pts.length:Int)→0<=y'→y'<(pts.length:Int)→(⟨Fe pts x,Fe pts y⟩:Sg)=⟨Fe pts x',Fe pts y'⟩→x'=x/\y'=y:=by intro x y x' y' h3 h4 h5 h6 h7 h8 h9 h10 k;simp only [Sg.mk.injEq]at k;exact⟨(gV h1 h3 h4 h7 h8 k.1).symm,(gV h1 h5 h6 h9 h10 k.2).symm⟩
  refine⟨Tt fun k=>g2.1 ?_,Tt fun k=>g2.2 ?_,Tt fun k=>g2.2 ?_,Tt fun k=>g2.1 ?_⟩
  ·exact f1 a c b d a' c' b' d' k
  ·have:=f1 a c b d b' d' a' c' k;exact⟨this.2,this.1⟩
  ·have:=f1 b d a c a' c' b' d' k;exact⟨this.1,this.2⟩
  ·have:=f1 b d a c b' d' a' c' k;exact⟨this.2,this.1⟩
theorem eX{pts:List Pt}{l:List Av}{x:Sg×Int}(h:x∈AL pts l):∃e∈l,(x.1=AY pts e/\x.2=e.l)∨(x.1=AP (AY pts e)/\x.2=e.r):=by
 unfold AL at h;rw [List.mem_flatMap]at h;obtain⟨e,he,hx⟩:=h;simp only [List.mem_cons,Anj,or_false]at hx
 rcases hx with rfl|rfl
 ·exact⟨e,he,.inl ⟨rfl,rfl⟩⟩
 ·exact⟨e,he,.inr ⟨rfl,rfl⟩⟩
theorem fC{pts:List Pt}{l:List Av}(h:MV pts l)(hg:∀p∈pts,D4 p):∀s∈(AL pts l).map (·.1),Ju s:=by
 intro s hs;rw [List.mem_map]at hs;obtain⟨x,hx,rfl⟩:=hs;obtain⟨e,he,k⟩:=eX hx;obtain⟨a,b,c,d⟩:=h.rng e he;have h1:=hg _ (jt a c);have h2:=hg _ (jt b d)
 rcases k with⟨k,-⟩|⟨k,-⟩
 ·rw [k];exact⟨h1,h2⟩
 ·rw [k];exact⟨h2,h1⟩
theorem fh{pts:List Pt}{l:List Av}(h:MV pts l)(hg:∀p∈pts,D4 p)(h3:D8 pts [] l=0):OD ((AL pts l).map (·.1)):=by
 refine⟨Ak6 pts l h3,fun s hs=>(fC h hg s hs).sz (by omega),?_⟩;intro s hs;rw [List.mem_map]at hs;obtain⟨x,hx,rfl⟩:=hs;obtain⟨e,he,k⟩:=eX hx;have hn:=h.ne e he;intro hab
 have:AP (AY pts e)=AY pts e:=by
  rcases k with⟨k,-⟩|⟨k,-⟩
  ·rw [k]at hab;exact WV hab.symm hab
  ·rw [k]at hab;exact WV hab hab.symm
 rw [Iq.2 this]at hn
 cases hn
theorem fg{pts:List Pt}{l:List Av}{nf:Nat}(h2:CW pts.length nf [] l=0):∀x∈AL pts l,-1<=x.2/\x.2<(nf:Int):=by
 intro x hx;obtain⟨e,he,k⟩:=eX hx;obtain⟨j,hj,rfl⟩:=List.getElem_of_mem he;have h:=Us (QQ (l:=l) h2 j hj);have s1:=h.2.2.2.2.2.2.1;have s2:=h.2.2.2.2.2.2.2;unfold Eh at s1 s2;simp only [Bool.and_eq_true,decide_eq_true_eq]at s1 s2
 rcases k with⟨-,k⟩|⟨-,k⟩
 ·rw [k];exact s1
 ·rw [k];first|exact s2|exact s2.1
theorem fD(pts:List Pt)(l:List Av):(AL pts l).length=2*l.length:=by
 induction l with
 | nil=>rfl
 | cons e l ih=>simp [AL]at ih ⊢;omega
end Go.Proofs.YtbejphgbbpplbaaGreatDoor
