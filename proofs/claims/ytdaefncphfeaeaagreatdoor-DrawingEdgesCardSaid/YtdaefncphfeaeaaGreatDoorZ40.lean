/- Z40: D9 QF. -/
import Derived.Test.YtdaefncphfeaeaaGreatDoorZ38
import Derived.Test.YtdaefncphfeaeaaGreatDoorZ39
set_option maxRecDepth 100000
set_option maxHeartbeats 2000000
namespace Go.Proofs.YtdaefncphfeaeaaGreatDoor
open Go.RowKit Kl
theorem nR{pts:List Pt}{x:Int}(h0:0<=x)(h1:x<(pts.length:Int)):AA pts x=pts[x.toNat]'(by omega):=by
 unfold AA;rw [List.getD_eq_getElem?_getD,Asl (by omega)];rfl
theorem Im{pts:List Pt}{x:Int}(h0:0<=x)(h1:x<(pts.length:Int)):AA pts x∈pts:=by
 rw [nR h0 h1];exact Asg _
theorem nS{pts:List Pt}(h:DO [] pts=0){x y:Int}(hx:0<=x)(hx1:x<(pts.length:Int))(hy:0<=y)(hy1:y<(pts.length:Int))(he:AA pts x=AA pts y):x=y:=by
 rw [nR hx hx1,nR hy hy1]at he
 have main:∀i j,(hi:i<pts.length)→(hj:j<pts.length)→i<j→pts[i]≠pts[j]:=by intro i j hi hj BM e;have h2:=uH h j hj;rw [List.nil_append,List.any_eq_false]at h2;have h3:=h2 pts[i] (by rw [List.mem_take_iff_getElem];exact⟨i,by omega,rfl⟩);exact h3 (Di.2 e.symm)
 rcases Nat.lt_trichotomy x.toNat y.toNat with k|k|k
 ·exact absurd he (main _ _ (by omega) (by omega) k)
 ·omega
 ·exact absurd he.symm (main _ _ (by omega) (by omega) k)
theorem V5{s t:Sg}(h:s≠t):Bc s t=false:=by
 rw [Bool.eq_false_iff];exact fun k=>h (Ls.1 k)
theorem Agk{pts:List Pt}{l:List AO}{nf:Nat}(h1:DO [] pts=0)(h2:DR pts.length nf [] l=0):PV pts l:=by
 have hr:∀j (h:j<l.length),0<=l[j].f/\0<=l[j].t/\l[j].f<(pts.length:Int)/\l[j].t<(pts.length:Int)/\l[j].f≠l[j].t/\(l.take j).any (GB · l[j])=false:=by intro j hj;have:=SN (Qr (l:=l) h2 j hj);rw [List.nil_append]at this;exact⟨this.1,this.2.1,this.2.2.1,this.2.2.2.1,this.2.2.2.2.1,this.2.2.2.2.2.1⟩
 refine⟨?_,?_,?_⟩
 ·intro e he;obtain⟨j,hj,rfl⟩:=List.getElem_of_mem he;obtain⟨a,b,c,d,-,-⟩:=hr j hj;exact⟨a,b,c,d⟩
 ·intro e he;obtain⟨j,hj,rfl⟩:=List.getElem_of_mem he;obtain⟨a,b,c,d,e,-⟩:=hr j hj;refine V5 fun k=>e ?_;have k2:=congrArg Sg.b k;exact nS h1 a c b d k2
 ·intro j hj e he;obtain⟨a,b,c,d,-,g⟩:=hr j hj;rw [List.mem_take_iff_getElem]at he;obtain⟨i,hi,rfl⟩:=he;obtain⟨a',b',c',d',-,-⟩:=hr i (by omega);rw [List.any_eq_false]at g;have g1:=g l[i] (by rw [List.mem_take_iff_getElem];exact⟨i,by omega,rfl⟩)
  have g2:¬(l[i].f=l[j].f/\l[i].t=l[j].t)/\¬(l[i].f=l[j].t/\l[i].t=l[j].f):=by
   constructor
   ·rintro⟨x,y⟩;exact g1 (by simp [GB,x,y])
   ·rintro⟨x,y⟩;exact g1 (by simp [GB,x,y])
  have f1:∀{x y x' y':Int},0<=x→x<(pts.length:Int)→0<=y→y<(pts.length:Int)→0<=x'→x'<(pts.length:Int)→0<=y'→y'<(pts.length:Int)→(⟨AA pts x,AA pts y⟩:Sg)=⟨AA pts x',AA pts y'⟩→x'=x/\y'=y:=by intro x y x' y' h3 h4 h5 h6 h7 h8 h9 h10 k;simp only [Sg.mk.injEq]at k;exact⟨(nS h1 h3 h4 h7 h8 k.1).symm,(nS h1 h5 h6 h9 h10 k.2).symm⟩
  refine⟨V5 fun k=>g2.1 ?_,V5 fun k=>g2.2 ?_,V5 fun k=>g2.2 ?_,V5 fun k=>g2.1 ?_⟩
  ·exact f1 a c b d a' c' b' d' k
  ·have:=f1 a c b d b' d' a' c' k;exact⟨this.2,this.1⟩
  ·have:=f1 b d a c a' c' b' d' k;exact⟨this.1,this.2⟩
  ·have:=f1 b d a c b' d' a' c' k;exact⟨this.2,this.1⟩
theorem mT{pts:List Pt}{l:List AO}{x:Sg×Int}(h:x∈CV pts l):∃e∈l,(x.1=B6 pts e/\x.2=e.l)∨(x.1=CM (B6 pts e)/\x.2=e.r):=by
 unfold CV at h;rw [List.mem_flatMap]at h;obtain⟨e,he,hx⟩:=h;simp only [List.mem_cons,Asr,or_false]at hx
 rcases hx with rfl|rfl
 ·exact⟨e,he,.inl ⟨rfl,rfl⟩⟩
 ·exact⟨e,he,.inr ⟨rfl,rfl⟩⟩
theorem yi{pts:List Pt}{l:List AO}(h:PV pts l)(hg:∀p∈pts,Gg p):∀s∈(CV pts l).map (·.1),MO s:=by
 intro s hs;rw [List.mem_map]at hs;obtain⟨x,hx,rfl⟩:=hs;obtain⟨e,he,k⟩:=mT hx;obtain⟨a,b,c,d⟩:=h.rng e he;have h1:=hg _ (Im a c);have h2:=hg _ (Im b d)
 rcases k with⟨k,-⟩|⟨k,-⟩
 ·rw [k];exact⟨h1,h2⟩
 ·rw [k];exact⟨h2,h1⟩
theorem Alk{pts:List Pt}{l:List AO}(h:PV pts l)(hg:∀p∈pts,Gg p)(h3:FA pts [] l=0):Wv ((CV pts l).map (·.1)):=by
 refine⟨Apb pts l h3,fun s hs=>(yi h hg s hs).sz (by omega),?_⟩;intro s hs;rw [List.mem_map]at hs;obtain⟨x,hx,rfl⟩:=hs;obtain⟨e,he,k⟩:=mT hx;have hn:=h.ne e he;intro hab
 have:CM (B6 pts e)=B6 pts e:=by
  rcases k with⟨k,-⟩|⟨k,-⟩
  ·rw [k]at hab;exact ZS hab.symm hab
  ·rw [k]at hab;exact ZS hab hab.symm
 rw [Ls.2 this]at hn
 cases hn
theorem Ali{pts:List Pt}{l:List AO}{nf:Nat}(h2:DR pts.length nf [] l=0):∀x∈CV pts l,-1<=x.2/\x.2<(nf:Int):=by
 intro x hx;obtain⟨e,he,k⟩:=mT hx;obtain⟨j,hj,rfl⟩:=List.getElem_of_mem he;have h:=SN (Qr (l:=l) h2 j hj);have s1:=h.2.2.2.2.2.2.1;have s2:=h.2.2.2.2.2.2.2;unfold Fc at s1 s2;simp only [Bool.and_eq_true,decide_eq_true_eq]at s1 s2
 rcases k with⟨-,k⟩|⟨-,k⟩
 ·rw [k];exact s1
 ·rw [k];first|exact s2|exact s2.1
theorem Alj(pts:List Pt)(l:List AO):(CV pts l).length=2*l.length:=by
 induction l with
 | nil=>rfl
 | cons e l ih=>simp [CV]at ih ⊢;omega
def ZN(l:List Hf)(fs:List Int)(x:Hf):Int:=if 0<=Ez l x then fs.getD (Ez l x).toNat 0 else -1
theorem An0(l:List Hf)(x:Hf)(fs:List Int)(hl:Ey fs.length l)(A F:Option Addr)(c d bl bf:Nat)(w:World)(h1:w.cell? ⟨bl,0,none⟩=some (.slice A l.length c))(hr:Am w A (Bl l))(hc:l.length<=c)(hcm:c<=9223372036854775807)
  (h2:w.cell? ⟨bf,0,none⟩=some (.slice F fs.length d)) (hf:Am w F (zs fs)) :
  Calls Tryz.prog 82 #[Jo x,.pointer (some ⟨bl,0,none⟩),.pointer (some ⟨bf,0,none⟩)] w (AQ (ZN l fs x) w):=by
 have hE:=(Aa.refl w).alloc (.cells #[S (R x.a.x),S (R x.a.y),S (R x.b.x),S (R x.b.y),.int .i64 x.l] 137);have hb:=Ase w (.cells #[S (R x.a.x),S (R x.a.y),S (R x.b.x),S (R x.b.y),.int .i64 x.l] 137);have bk:=fun (w':World) (h:Aa w w')=>WE l x A c w' (hr.ext h) hc hcm;have hbr:=hl.back x
 have Pp:ZN l fs x=if 0<=Ez l x then fs.getD (Ez l x).toNat 0 else -1:=rfl
 obtain⟨z,hz⟩:=AcG (ZN l fs x);rw [←hz]at Pp ⊢;obtain⟨r,hr0⟩:=AcG (Ez l x);rw [←hr0]at Pp hbr;have Sv:=Asb Pp;simp only [←hr0]at bk;unfold Jo at bk ⊢;have k1:=hE.cellS h1;have k2:=hE.cellS h2;have Dk:=hf.ext hE;clear hz hr0 Pp h1 h2 hf hr hl;go_enter Tryz.func82,Tryz.ntmps82
 go_upto_region 1 with fail
 generalize w.alloc (.cells #[S (R x.a.x),S (R x.a.y),S (R x.b.x),S (R x.b.y),.int .i64 x.l] 137)=V at *;obtain⟨bp,AS⟩:=AcG w.heap.size;rw [←AS]at hb ⊢;clear AS;have q0:=Ab (o:=0) hb rfl;have q1:=Ab (o:=1) hb rfl;have q2:=Ab (o:=2) hb rfl;have q3:=Ab (o:=3) hb rfl;have q4:=Ab (o:=4) hb rfl;(go_wp2_with fail);(with_reducible refine(bk _ hE).mono ?_);rintro e w1 ⟨rfl,hx1⟩;replace k2:=hx1.cellS k2;have hf2:=Dk.ext hx1;clear q0 q1 q2 q3 q4 bk k1 hb Dk;by_cases h0:r<0
 ·obtain rfl:z = -1:=(by rw [Sv.out,if_neg (by omega)]);go_wp2;go_ret;exact⟨rfl,hE.trans hx1⟩
 ·obtain⟨m,rfl⟩:∃m:Nat,r=(m:Int):=⟨r.toNat,by omega⟩;have hm:m<fs.length:=(by omega);obtain⟨b,o,rfl,hc2⟩:=hf2.ad (by simp [zs];omega);have Aif:=hc2 m (by simp [zs];exact hm);have hzz:z=fs[m]:=(by rw [Sv.out,if_pos (by omega)];simp [List.getD_eq_getElem?_getD,Asl hm]);have hge:(zs fs)[m]'(by simp [zs];exact hm)=.int .i64 z:=(by rw [hzz];simp [zs]);rw [hge]at Aif;have hm0:(0:Int)<=(m:Int):=(by omega);have hm1:(m:Int)<(fs.length:Int):=(by omega);clear hzz hge hc2 Sv;go_wp2;go_ret;exact⟨rfl,hE.trans hx1⟩
end Go.Proofs.YtdaefncphfeaeaaGreatDoor
