/- Z47: BX BY BZ LGX LGY. -/
import Derived.Test.YtjalkoacphhgdaaGreatDoorZ45
import Derived.Test.YtjalkoacphhgdaaGreatDoorZ46
set_option maxRecDepth 100000
set_option maxHeartbeats 16000000
namespace Kl
section
variable {α : Type} (le : α → α → Bool)
def MF:Nat→List α→List α→List α
 | 0,xs,ys=>xs++ys
 | _+1,[],ys=>ys
 | _+1,x::xs,[]=>x::xs
 | n+1,x::xs,y::ys=>if le x y then x::MF n xs (y::ys)else y::MF n (x::xs) ys
theorem eU:∀(n:Nat) (xs ys:List α),xs.length+ys.length<=n→MF le n xs ys=List.merge xs ys le
 | 0,[],[],_=>by simp [MF]
 | 0,_::_,_,h=>by simp at h
 | 0,[],_::_,h=>by simp at h
 | n+1,[],ys,_=>by simp [MF]
 | n+1,x::xs,[],_=>by simp [MF]
 | n+1,x::xs,y::ys,h=>by simp only [List.length_cons]at h;rw [MF,List.cons_merge_cons,eU n xs (y::ys) (by simp;omega),eU n (x::xs) ys (by simp;omega)]
def Et:Nat→List α→List α
 | 0,l=>l
 | _+1,[]=>[]
 | _+1,[a]=>[a]
 | n+1,a::b::l=>MF le (l.length+2) (Et n ((a::b::l).take ((l.length+3) / 2))) (Et n ((a::b::l).drop ((l.length+3) / 2)))
theorem NW:∀(n:Nat) (l:List α),l.length<=n→Et le n l=l.mergeSort le
 | 0,[],_=>by simp [Et]
 | 0,_::_,h=>by simp at h
 | n+1,[],_=>by simp [Et]
 | n+1,[a],_=>by simp [Et]
 | n+1,a::b::l,h=>by
  simp only [List.length_cons]at h;have h1:((a::b::l).take ((l.length+3)/2)).length<=n:=(by simp only [List.length_take,List.length_cons];omega);have h2:((a::b::l).drop ((l.length+3)/2)).length<=n:=(by simp only [List.length_drop,List.length_cons];omega);have h3:((a::b::l).take ((l.length+3)/2)).length+((a::b::l).drop ((l.length+3)/2)).length<=l.length+2:=(by simp only [List.length_take,List.length_drop,List.length_cons];omega);rw [Et,NW n _ h1,NW n _ h2,eU _ _ _ _ (by rw [List.length_mergeSort,List.length_mergeSort];exact h3)];rw [List.mergeSort];simp only [List.MergeSort.Internal.splitInTwo_fst,List.MergeSort.Internal.splitInTwo_snd]
  rfl
end
end Kl
namespace Go.Proofs.YtjalkoacphhgdaaGreatDoor
open Go.RowKit Kl
def Wi(x y:Pt):Bool:=!decide (AX y x<0)
def SQ(x y:Sg):Bool:=!decide (Fo y x<0)
def eN(p x y:Pt):Bool:=!decide (CW p y x<0)
theorem nk(l:List Pt):Ev l=Et Wi l.length l:=(NW Wi _ l (Ano _)).symm
theorem jL(l:List Sg):B6 l=Et SQ l.length l:=(NW SQ _ l (Ano _)).symm
theorem AjN(p:Pt)(l:List Pt):DF p l=Et (eN p) l.length l:=(NW (eN p) _ l (Ano _)).symm
def ON(W:List Sg)(R0:List (Pt×List Pt)):List (List Sg):=((Et SQ W.length W).foldl (F6 W.length R0) ([],[])).2
theorem pH(W:List Sg)(R0:List (Pt×List Pt)):Hm W R0=ON W R0:=by unfold Hm ON;rw [jL]
def jF(p:List Pt)(s:Pt×Pt):Bool:=p.all (fun x=>decide (0<=Al s.1 s.2 x))&&p.any (fun x=>decide (0<Al s.1 s.2 x))
def Xb(p:List Pt)(s:Pt×Pt):Bool:=p.all (fun x=>decide (Al s.1 s.2 x<=0))
theorem Aj5{p:List Pt}{s:Pt×Pt}(h:jF p s=true):Lq p s:=by
 unfold jF at h;rw [Bool.and_eq_true,List.all_eq_true,List.any_eq_true]at h;obtain⟨h1,x,hx,h2⟩:=h;exact⟨fun x hx=>of_decide_eq_true (h1 x hx),x,hx,of_decide_eq_true h2⟩
theorem l4{p:List Pt}{s:Pt×Pt}(h:Xb p s=true):JL p s:=by
 unfold Xb at h;rw [List.all_eq_true]at h;exact fun x hx=>of_decide_eq_true (h x hx)
def gU(l:List Pt):Bool:=decide (3<=l.length)&&(decide (l.length<=60)&&((List.range l.length).all (fun i=>(List.range l.length).all (fun n=>n == i||(n == (i+1)%l.length||decide (0<Al (l.getD i ⟨0,0⟩) (l.getD ((i+1)%l.length) ⟨0,0⟩) (l.getD n ⟨0,0⟩)))))&&(List.range (l.length-1)).all (fun n=>!decide (AX (l.getD (n+1) ⟨0,0⟩) (l.getD 0 ⟨0,0⟩)<0))))
theorem getD_at{α:Type}(l:List α)(d:α){i:Nat}(h:i<l.length):l.getD i d=l[i]:=by rw [List.getD_eq_getElem?_getD,Ant h];rfl
theorem jq{l:List Pt}(h:gU l=true):Ni l:=by
 unfold gU at h;simp only [Bool.and_eq_true,List.all_eq_true,decide_eq_true_eq,List.mem_range,Bool.or_eq_true,beq_iff_eq,Bool.not_eq_true',decide_eq_false_iff_not]at h;obtain⟨h1,h2,h3,h4⟩:=h;refine⟨h1,h2,?_,?_⟩
 ·intro i n hi hn h5 h6;have:=h3 i hi n hn;rw [getD_at l _ hi,getD_at l _ hn,getD_at l _ (Nat.mod_lt _ (by omega))]at this
  rcases this with k|k|k
  ·exact absurd k h5
  ·exact absurd k h6
  ·exact k
 ·intro n hn;have:=h4 n (by omega);rw [getD_at l _ hn,getD_at l _ (by omega:0<l.length)]at this;exact this
def Lu(p:Pt):Bool:=decide (p.x.num.natAbs<10^200)&&(decide (p.x.den<10^200)&&(decide (p.y.num.natAbs<10^200)&&decide (p.y.den<10^200)))
theorem Og{p:Pt}(h:Lu p=true):Ar 200 p:=by
 unfold Lu at h;simp only [Bool.and_eq_true,decide_eq_true_eq]at h;exact⟨⟨h.1,h.2.1⟩,⟨h.2.2.1,h.2.2.2⟩⟩
def U8(p:Pt):Bool:=decide ((p.x*2).den=1)&&(decide ((p.x*2).num.natAbs<=1000000)&&(decide ((p.y*2).den=1)&&decide ((p.y*2).num.natAbs<=1000000)))
theorem tX{q:Rat}(h1:(q*2).den=1)(h2:(q*2).num.natAbs<=1000000):Q0 q:=by
 refine⟨(q*2).num,h2,?_⟩
 have:((q*2).num:Rat)=q*2:=by
  refine Rat.ext ?_ ?_
  ·rw [Rat.num_intCast]
  ·rw [Rat.den_intCast,h1]
 rw [this];grind
theorem rO{p:Pt}(h:U8 p=true):DJ p:=by
 unfold U8 at h;simp only [Bool.and_eq_true,decide_eq_true_eq]at h;exact⟨tX h.1 h.2.1,tX h.2.2.1 h.2.2.2⟩
def Ga(P:List (List Pt×Bs)):List Pt:=Lib.compact (Et Wi (Df P P.length).length (Df P P.length))
theorem Ab2(P:List (List Pt×Bs)):QT P=Ga P:=by unfold QT Ga;rw [nk]
def WB:List Sg→Bool
 | []=>true
 | s::l=>!l.any (AK s) && WB l
theorem fq:∀{l:List Sg},WB l=true→l.Nodup
 | [],_=>List.nodup_nil
 | s::l,h=>by rw [WB,Bool.and_eq_true,Bool.not_eq_true']at h;rw [List.nodup_cons];exact⟨mO.1 h.1,fq h.2⟩
def Tl(P:List (List Pt×Bs)):Bool:=
 decide (0<P.length)&&(decide (P.length<=1000)&&(P.all (fun e=>gU e.1&&e.1.all Lu) &&
 (P.all (fun e=>(List.range e.1.length).all (fun k=>decide ((Ga P).filter (fun q=>Gv (FW e.1 k).a (FW e.1 k).b q)=Rf (FW e.1 k)))) &&
 (WB ((B8 P P.length).map (·.1)) &&
 ((List.range P.length).all (fun i=>(List.range i).all (fun k=>(List.range (P.getD k ([],[])).1.length).all (fun j=>jF (P.getD i ([],[])).1 (Bv (P.getD k ([],[])).1 j)||Xb (P.getD i ([],[])).1 (Bv (P.getD k ([],[])).1 j))&&(List.range (P.getD k ([],[])).1.length).any (fun j=>Xb (P.getD i ([],[])).1 (Bv (P.getD k ([],[])).1 j)))) &&
 ((B8 P P.length).all (fun e=>decide (0<=e.2/\e.2<(P.length:Int))&&(Lu e.1.a&&Lu e.1.b)&&(match lookO (AQ e.1) (B8 P P.length)with|none=>true|some z=>decide (0<=z/\z<(P.length:Int))&&decide ((P.getD e.2.toNat ([],[])).2≠(P.getD z.toNat ([],[])).2))) &&
 decide ((B8 P P.length).length<=10000)))))))
theorem Aif{P:List (List Pt×Bs)}(h:Tl P=true):kA P:=by
 unfold Tl at h;simp only [Bool.and_eq_true,List.all_eq_true,decide_eq_true_eq,List.mem_range]at h;obtain⟨-,h1,h2,h3,h4,h5,-,-⟩:=h;refine⟨⟨h1,fun e he=>?_,fun e he p hp=>Og ((h2 e he).2 p hp),fun e he k hk=>?_,fq h4⟩,fun e he=>jq (h2 e he).1,?_⟩
 ·have:=jq (h2 e he).1;exact⟨by have:=this.n3;omega,this.n60⟩
 ·rw [Ab2];exact h3 e he k hk
 ·intro i k hi hk;obtain⟨ha,hb⟩:=h5 i hi k hk;rw [getD_at P _ hi,getD_at P _ (by omega:k<P.length)]at ha hb;rw [List.any_eq_true]at hb;obtain⟨j,hj,hb⟩:=hb;refine⟨fun j hj=>?_,j,List.mem_range.1 hj,l4 hb⟩;have:=ha j hj;rw [Bool.or_eq_true]at this;exact this.imp Aj5 l4
instance sgDec:DecidableEq Sg:=fun s t=>decidable_of_iff (AK s t=true) Ik
def Ij(pts:List Pt)(eds:List Ax):List (Pt×List Pt):=(Cx pts eds).map (fun e=>(e.1,Et (eN e.1) e.2.length e.2))
theorem kx(pts:List Pt)(eds:List Ax):Ij pts eds=(Cx pts eds).map (fun e=>(e.1,DF e.1 e.2)):=by
 unfold Ij;refine List.map_congr_left fun e _=>?_;rw [AjN]
def y8(pts:List Pt)(eds:List Ax)(n:Nat):D2:=Kj (AM pts eds) n (ON ((AM pts eds).map (·.1)) (Ij pts eds)) (JK ((AM pts eds).map (·.1)) (ON ((AM pts eds).map (·.1)) (Ij pts eds)))
def fl(e:Pt×List Pt):Bool:=match e.2 with
 | [p,q]=>decide (AE (Al p e.1 q)≠0)
 | _=>true
def Wy(pts:List Pt)(eds:List Ax)(n:Nat):Bool:=
 decide (CH [] pts=0)&&(decide (CV pts.length n [] eds=0)&&(decide (D6 pts [] eds=0)&&(pts.all U8&&(decide (eds.length<=1000)&&(!(y8 pts eds n).op &&
 ((Ij pts eds).all (fun e=>Lu e.1&&(e.2.all Lu&&(decide (e.2.length<100000)&&fl e)))&&(decide ((Ij pts eds).length<=400)&&(decide ((Ij pts eds).map (·.1)).Nodup &&
 ((AM pts eds).all (fun e=>Lu e.1.a&&Lu e.1.b)&&(AM pts eds).all (fun e=>(AM pts eds).any (fun e'=>AK e'.1 (AQ e.1))))))))))))
theorem Ahj{pts:List Pt}{eds:List Ax}{n:Nat}(h:Wy pts eds n=true):lO pts eds n (Ij pts eds):=by
 unfold Wy at h;simp only [Bool.and_eq_true,List.all_eq_true,decide_eq_true_eq,Bool.not_eq_true']at h;obtain⟨h1,h2,h3,h4,h5,h6,h7,h8,h9,h10,h11⟩:=h;have hg:∀p∈pts,DJ p:=fun p hp=>rO (h4 p hp);have he:=pZ h1 h2;refine⟨he,h5,fj he hg h3,fJ he hg,fh h2,kx pts eds,?_,fun e k=>⟨Og (h7 e k).1,fun p hp=>Og ((h7 e k).2.1 p hp)⟩,h8,fun e k=>(h7 e k).2.2.1,h9,?_,fun e k=>⟨Og (h10 e k).1,Og (h10 e k).2⟩,?_⟩
 ·rw [pH];exact h6
 ·intro e k p q Mv;have:=(h7 e k).2.2.2;unfold fl at this;rw [Mv]at this;exact of_decide_eq_true this
 ·intro e k;have:=h11 e k;rw [List.any_eq_true]at this;obtain⟨x,hx,hs⟩:=this;exact⟨x,hx,Ik.1 hs⟩
def jW(P:List (List Pt×Bs)):List Sg:=Et SQ ((B8 P P.length).map (·.1)).length ((B8 P P.length).map (·.1))
def Kr(P:List (List Pt×Bs)):List Ax:=(DK (B8 P P.length) (jW P)).map (fun x=>⟨Gu x.1.a (BN (Ga P)),Gu x.1.b (BN (Ga P)),x.2.1,x.2.2⟩)
def WR(P:List (List Pt×Bs)):List Pt:=Et Wi ((Ij (Ga P) (Kr P)).map (·.1)).length ((Ij (Ga P) (Kr P)).map (·.1))
def Qh(P:List (List Pt×Bs)):Gz:=I0 (P.map (·.2)) (BN (WR P)) (AM (Ga P) (Kr P)) (Et SQ ((AM (Ga P) (Kr P)).map (·.1)).length ((AM (Ga P) (Kr P)).map (·.1)))
def eS(P:List (List Pt×Bs)):Cp:=⟨WR P,(Qh P).ed,(Qh P).fa.length⟩
def mE(P:List (List Pt×Bs)):Bool:=decide (DK (B8 P P.length) (jW P)=(Kr P).map (fun e=>(AY (Ga P) e,e.l,e.r)))
theorem Aa8(P:List (List Pt×Bs))(h1:Tl P=true)(h2:Wy (Ga P) (Kr P) P.length=true)(h3:mE P=true)(A:Option Addr)(c:Nat)(w:World)(hw:An w)(h:Kd w A c P) :
  Calls Tryz.prog 44 #[.slice A P.length c] w (T0 w (eS P) (Qh P).fa):=by
 have hp:=h1;unfold Tl at h1;simp only [Bool.and_eq_true,List.all_eq_true,decide_eq_true_eq]at h1;obtain⟨g0,-,-,-,-,-,g6,g7⟩:=h1;have ha:DK (B8 P P.length) (jW P)=(Kr P).map (fun e=>(AY (Ga P) e,e.l,e.r)):=of_decide_eq_true h3;refine Aa7 P (Aif hp) g0 ?_ (fun e k=>⟨Og (g6 e k).1.2.1,Og (g6 e k).1.2.2⟩) g7 (by rw [jL];exact ha) (Ahj h2) (pts:=WR P) (by rw [nk];rfl) (st:=Qh P) (by rw [jL];rfl) A c w hw h;intro e k;obtain⟨⟨g1,-⟩,g3⟩:=g6 e k;refine⟨g1.1,g1.2,fun z hz=>?_⟩;rw [hz]at g3;simp only [Bool.and_eq_true,decide_eq_true_eq]at g3;exact⟨g3.1.1,g3.1.2,g3.2⟩
def Oe(i:Rat):List Pt:=[⟨i,0⟩,⟨i+1,0⟩,⟨i+1,1⟩,⟨i,1⟩]
def str3:List (List Pt×Bs):=[(Oe 0,[66]),(Oe 1,[65]),(Oe 2,[120])]
set_option maxRecDepth 100000
theorem Akd:Tl str3=true:=by decide +kernel
theorem Akb:mE str3=true:=by decide +kernel
theorem Akc:Wy (Ga str3) (Kr str3) 3=true:=by decide +kernel
set_option maxRecDepth 100000
def Lg:Cp:=⟨[⟨0,0⟩,⟨0,1⟩,⟨1,0⟩,⟨1,1⟩,⟨2,0⟩,⟨2,1⟩,⟨3,0⟩,⟨3,1⟩],[⟨0,1,-1,0⟩,⟨0,2,0,-1⟩,⟨1,3,-1,0⟩,⟨2,3,0,1⟩,⟨2,4,1,-1⟩,⟨3,5,-1,1⟩,⟨4,5,1,2⟩,⟨4,6,2,-1⟩,⟨5,7,-1,2⟩,⟨6,7,2,-1⟩],3⟩
def YZ(e:Ax):Int×Int×Int×Int:=(e.f,e.t,e.l,e.r)
theorem pY:∀{l m:List Ax},l.map YZ=m.map YZ→l=m
 | [],[],_=>rfl
 | [],_::_,h=>by cases h
 | _::_,[],h=>by cases h
 | ⟨a,b,c,d⟩::l,⟨a',b',c',d'⟩::m,h=>by rw [List.map_cons,List.map_cons,List.cons.injEq]at h;obtain⟨h1,h2⟩:=h;simp only [YZ,Prod.mk.injEq]at h1;obtain⟨rfl,rfl,rfl,rfl⟩:=h1;rw [pY h2]
theorem ol:(Qh str3).fa = [[66],[65],[120]]:=by decide +kernel
theorem AgF:eS str3=Lg:=by
 have h1:WR str3=Lg.pts:=(by decide +kernel);have h2:(Qh str3).ed=Lg.eds:=pY (by decide +kernel);unfold eS;rw [h1,h2,ol];rfl
theorem Aa6(A:Option Addr)(c:Nat)(w:World)(hw:An w)(h:Kd w A c str3) :
  Calls Tryz.prog 44 #[.slice A 3 c] w (T0 w Lg [[66],[65],[120]]):=by
 have:=Aa8 str3 Akd Akc Akb A c w hw h;rw [AgF,ol]at this;exact this
def oL(m:Cp):Bool:=!LP m&&(decide (CH [] m.pts=0)&&(decide (CV m.pts.length m.nf [] m.eds=0)&&(decide (D6 m.pts [] m.eds=0)&&(!Ri (Cx m.pts m.eds) m.pts&&LK (AM m.pts m.eds) m.nf (ON ((AM m.pts m.eds).map (·.1)) (Ij m.pts m.eds)) (JK ((AM m.pts m.eds).map (·.1)) (ON ((AM m.pts m.eds).map (·.1)) (Ij m.pts m.eds)))))))
theorem AaY{m:Cp}(h:oL m=true):I1 m=0:=by
 unfold oL at h;simp only [Bool.and_eq_true,decide_eq_true_eq,Bool.not_eq_true']at h;obtain⟨h1,h2,h3,h4,h5,h6⟩:=h
 have e:LK (AM m.pts m.eds) m.nf (NX m) (PM m)=true:=by unfold PM NX fH fG;rw [←kx,pH];exact h6
 unfold I1 YK;rw [if_neg (by rw [h1];simp),if_neg (by omega),if_neg (by omega),if_neg (by omega),if_neg (by rw [h5];simp),if_pos e]
theorem Aba:I1 Lg=0:=AaY (by decide +kernel)
theorem AcQ:∀p∈Lg.pts,DJ p:=fun p hp=>rO ((List.all_eq_true.1 (by decide +kernel:Lg.pts.all U8=true)) p hp)
theorem Uj(x y:Int)(hx:x.natAbs<10000000)(hy:y.natAbs<10000000)(w:World)(hw:An w) :
  Calls Tryz.prog 43 #[.int .i64 x,.int .i64 y] w (CC (Ak ⟨x,y⟩) w):=by
 have o1:∀W,An W→Calls Tryz.prog 9 #[.int .i64 x,.int .i64 1] W (Be (R (x:Rat)) W):=fun W hW=>by have:=kj x 1 (by omega) hx (by omega) W hW;rw [ei]at this;exact this
 have o2:∀W,An W→Calls Tryz.prog 9 #[.int .i64 y,.int .i64 1] W (Be (R (y:Rat)) W):=fun W hW=>by have:=kj y 1 (by omega) hy (by omega) W hW;rw [ei]at this;exact this
 have hb:=Ann w (.cells #[S [],S []] 92);have hE:=(Aa.refl w).alloc (.cells #[S [],S []] 92);unfold Ak;clear hx hy;go_enter Tryz.func43,Tryz.ntmps43;(go_wp2_with fail);rw [show (⟨#[]⟩:ByteArray)=⟨([]:Bs).toArray⟩from rfl];(with_reducible refine(o1 _ (hw.ext hE)).mono ?_);rintro e w1 ⟨rfl,hx⟩;replace hb:=(hx.block _ (Anm hb)).trans hb;replace hE:=hE.trans hx;(go_wp2_with fail);(with_reducible refine(o2 _ (hw.ext hE)).mono ?_);rintro e w2 ⟨rfl,hx2⟩;replace hb:=(hx2.block _ (Anm hb)).trans hb;replace hE:=hE.trans hx2;have g1:=Ab (o:=0) hb rfl;have g2:=Ab (o:=1) hb rfl;have g3:=AO (o:=0) hb;have g4:=AO (o:=1) hb;obtain⟨e1,e2⟩:=set2 (S (R (x:Rat))) (S (R (y:Rat))) g1 g2;go_wp2;refine bodyPost_ret (v:=.agg #[S (R (x:Rat)),S (R (y:Rat))]) (by simp [results,Tryz.results43,go_sem,e1,e2]) rfl ?_;exact⟨rfl,(hE.setCell (Ano _) _).setCell (Ano _) _⟩
def JQ(us:List Bs):List (List Pt×Bs):=us.zipIdx.map fun e=>(Oe ((e.2:Int):Rat),e.1)
theorem Xm(us:List Bs):(JQ us).length=us.length:=by simp [JQ]
theorem Akf(us:List Bs){k:Nat}(h:k<us.length)(h':k<(JQ us).length):(JQ us)[k]=(Oe ((k:Int):Rat),us[k]):=by simp [JQ]
theorem AjR(x:Int):Oe (x:Rat) = [⟨(x:Rat),((0:Int):Rat)⟩,⟨((x+1:Int):Rat),((0:Int):Rat)⟩,⟨((x+1:Int):Rat),((1:Int):Rat)⟩,⟨(x:Rat),((1:Int):Rat)⟩]:=by
 unfold Oe;rw [Rat.intCast_add]
 rfl
theorem Xh{x y:Int}(hx:0<=x)(hx2:x<=3)(hy:0<=y)(hy2:y<=3):EB ⟨(x:Rat),(y:Rat)⟩:=⟨(2*x,2*y),⟨by show 0<=2*x;omega,by show 2*x<=6;omega,by show 0<=2*y;omega,by show 2*y<=6;omega⟩,(AcP x y).symm⟩
theorem Ac8(a b c d:Pt):(flat (Ao [a,b,c,d])).toArray=#[.string ⟨(R a.x).toArray⟩,.string ⟨(R a.y).toArray⟩,.string ⟨(R b.x).toArray⟩,.string ⟨(R b.y).toArray⟩,.string ⟨(R c.x).toArray⟩,.string ⟨(R c.y).toArray⟩,.string ⟨(R d.x).toArray⟩,.string ⟨(R d.y).toArray⟩]:=rfl
theorem Ajl{w0 w:World}{A B F:Option Addr}{m:Cp}{fa:List Bs}{bR:Nat}{t:TypeId}(hA:Ae w A (flat (Ao m.pts)))(hB:Ae w B (Bw m.eds))(hF:Ae w F (fa.map S))(hx:Aa w0 w)
  (hb:w.heap[bR]?=some (.cells #[.slice none 0 0,.slice none 0 0,.slice none 0 0] t)) (h0:w0.heap.size<=bR) (x y z:Value) :
  ∀w',w'=((w.setCell ⟨bR,0,none⟩ x).setCell ⟨bR,1,none⟩ y).setCell ⟨bR,2,none⟩ z→Ae w' A (flat (Ao m.pts))/\Ae w' B (Bw m.eds)/\Ae w' F (fa.map S)/\Aa w0 w'/\w'.heap[bR]?=some (.cells #[x,y,z] t):=by
 rintro w' rfl
 have KE:∀q,q≠bR→(((w.setCell ⟨bR,0,none⟩ x).setCell ⟨bR,1,none⟩ y).setCell ⟨bR,2,none⟩ z).heap[q]?=w.heap[q]?:=fun q hq=>by rw [D8 (by exact hq),D8 (by exact hq),D8 (by exact hq)]
 refine⟨hA.far hb ?_ KE,hB.far hb ?_ KE,hF.far hb ?_ KE,((hx.setCell (p:=⟨bR,0,none⟩) h0 x).setCell (p:=⟨bR,1,none⟩) h0 y).setCell (p:=⟨bR,2,none⟩) h0 z,YA x y z hb⟩
 ·intro v hv;obtain⟨j,hj,rfl⟩:=List.getElem_of_mem hv;obtain⟨q,hq⟩:=rJ hj;rw [hq];intro e;cases e
 ·intro v hv;obtain⟨j,hj,rfl⟩:=List.getElem_of_mem hv;obtain⟨q,hq⟩:=pX hj;rw [hq];intro e;cases e
 ·intro v hv;obtain⟨s,-,rfl⟩:=List.mem_map.1 hv;intro e;cases e
theorem Lx(W:World)(x y:Obj):((W.alloc x).alloc y).heap[W.heap.size+1]?=some y/\((W.alloc x).alloc y).heap[W.heap.size]?=some x/\Aa W ((W.alloc x).alloc y):=by
 have h1:=Ann (W.alloc x) y;have h2:=(((Aa.refl (W.alloc x)).alloc y).block W.heap.size (by simp)).trans (Ann W x);have e:(W.alloc x).heap.size=W.heap.size+1:=(by simp);rw [e]at h1;exact⟨h1,h2,((Aa.refl W).alloc x).alloc y⟩
def Yj(w:World)(m:Cp)(fa:List Bs)(e:Ending)(w':World):Prop:=
 ∃A B F c d g,e=.returned (Dz A B F m c d g)/\JV m c d g/\Ae w' A (flat (Ao m.pts))/\Ae w' B (Bw m.eds)/\Ae w' F (fa.map S)/\m.nf=fa.length/\Aa w w'
theorem Aki(us:List Bs)(hus:us.length<=3){m:Cp}{fa:List Bs}(hB:∀A c w,An w→Kd w A c (JQ us)→Calls Tryz.prog 44 #[.slice A us.length c] w (T0 w m fa))(A:Option Addr)(c:Nat)(w:World)(hw:An w)(hr:Ae w A (us.map S))(hc:us.length<=c)(_:c<=9223372036854775807) :
  Calls Tryz.prog 11 #[.slice A us.length c] w (Yj w m fa):=by
 have hM:=Ann w (.cells #[.slice none 0 0,.slice none 0 0,.slice none 0 0] 36);have hE:=(Aa.refl w).alloc (.cells #[.slice none 0 0,.slice none 0 0,.slice none 0 0] 36);have HB:=Anl hB;have HR:=Anl hr;obtain⟨n,hn⟩:=Ank us.length;rw [←hn]at hus hc;have HN:=Anl hn;rw [←hn];clear hB hr hn;go_enter Tryz.func11,Tryz.ntmps11
 go_upto_region 1 with fail
 generalize w.alloc (.cells #[.slice none 0 0,.slice none 0 0,.slice none 0 0] 36)=V at *;obtain⟨bR,uF⟩:=Ank w.heap.size;rw [←uF]at hM ⊢;have hb0:w.heap.size<=bR:=(by omega);clear uF
 go_upto_region 3 with fail
 go_loopw [3,10] (fun ov kv wr=>∃(l:List Pz) (k:Nat),kv=.int .i64 (k:Nat)/\k<=n/\wr.ownsRow w.heap.size 95 3 ov l.length (Do l)/\(∀e∈l,Js wr e)/\IY l=(JQ us).take k/\Aa w wr/\wr.heap[bR]?=some (.cells #[.slice none 0 0,.slice none 0 0,.slice none 0 0] 36)) (fun _ kv _=>n-(intOf kv).toNat)
 case atStart=>exact⟨[],0,rfl,by omega,⟨rfl,.inl ⟨rfl,rfl⟩⟩,(fun e he=>by cases he),rfl,hE,hM⟩
 case round=>
  obtain⟨l,k,rfl,hk,hown,Aj,Dk,Ac,CZ⟩:=hrel;have Fa:=Anl Aj;have Fx:=Anl Dk;clear Aj Dk;by_cases hkn:k<n
  ·have BL:k<us.length:=(by rw [←HN.out];exact hkn);obtain⟨bA,oA,rfl,hcs⟩:=(HR.out.ext Ac).ad (by rw [List.length_map];omega);have hck:=hcs k (by rw [List.length_map];exact BL);rw [List.getElem_map]at hck;obtain⟨u,hu⟩:=Ank (us[k]);rw [←hu]at hck;have HU:=Anl hu;have hk0:(0:Int)<=(k:Int):=(by omega);have Ca:(k:Int)<(n:Int):=(by omega);have v1:IntKind.wrap .i64 ((k:Int)+1)=(k:Int)+1:=Anu _ (by omega);clear hu hcs
   have hlk:l.length=k:=by have:=congrArg List.length Fx.out;rw [jz,List.length_take,Xm]at this;omega
   have p1:=Uj (k:Int) 0 (by omega) (by omega);have p2:=Uj ((k:Int)+1) 0 (by omega) (by omega);have p3:=Uj ((k:Int)+1) 1 (by omega) (by omega);have p4:=Uj (k:Int) 1 (by omega) (by omega);have FS:=AjR (k:Int);have s0:EB ⟨((k:Int):Rat),((0:Int):Rat)⟩:=Xh (by omega) (by omega) (by omega) (by omega);have s1:EB ⟨(((k:Int)+1:Int):Rat),((0:Int):Rat)⟩:=Xh (by omega) (by omega) (by omega) (by omega);have s2:EB ⟨(((k:Int)+1:Int):Rat),((1:Int):Rat)⟩:=Xh (by omega) (by omega) (by omega) (by omega);have s3:EB ⟨((k:Int):Rat),((1:Int):Rat)⟩:=Xh (by omega) (by omega) (by omega) (by omega);obtain⟨a0,h0⟩:=Ank (⟨((k:Int):Rat),((0:Int):Rat)⟩:Pt);obtain⟨a1,h1⟩:=Ank (⟨(((k:Int)+1:Int):Rat),((0:Int):Rat)⟩:Pt);obtain⟨a2,h2⟩:=Ank (⟨(((k:Int)+1:Int):Rat),((1:Int):Rat)⟩:Pt);obtain⟨a3,h3⟩:=Ank (⟨((k:Int):Rat),((1:Int):Rat)⟩:Pt);rw [←h0]at p1 s0 FS;rw [←h1]at p2 s1 FS;rw [←h2]at p3 s2 FS;rw [←h3]at p4 s3 FS;have wn:=Anl FS;unfold Ak at p1 p2 p3 p4;clear h0 h1 h2 h3 FS;obtain⟨oP,oc,rfl⟩:=gI (by omega) hown;(go_wp2_with fail);(with_reducible refine(p1 _ (hw.ext Ac)).mono ?_);rintro e w1 ⟨rfl,hx1⟩;have X1:=Ac.trans hx1;(go_wp2_with fail);(with_reducible refine(p2 _ (hw.ext X1)).mono ?_);rintro e w2 ⟨rfl,hx2⟩;have X2:=X1.trans hx2;(go_wp2_with fail);(with_reducible refine(p3 _ (hw.ext X2)).mono ?_);rintro e w3 ⟨rfl,hx3⟩;have X3:=X2.trans hx3;(go_wp2_with fail);(with_reducible refine(p4 _ (hw.ext X3)).mono ?_);rintro e W7 ⟨rfl,Ai⟩;have J3:=X3.trans Ai;have AG:Aa wr W7:=((hx1.trans hx2).trans hx3).trans Ai;clear X1 X2 X3 hx1 hx2 hx3 Ai p1 p2 p3 p4;have cI:=Az hown AG;have AeC:∀e∈l,Js W7 e:=fun e he=>(Fa.out e he).ext AG;have Vf:=(AG.block _ (Anm CZ)).trans CZ;have hbase:w.heap.size<=W7.heap.size:=J3.size;clear AG hown CZ Ac;have kZ:=Anl hlk;have hl3:l.length<=3:=(by omega);have Ams:l.length<n:=(by omega);rw [←hlk]at hk0 Ca v1 ⊢;have e7:IntKind.wrap .i64 ((l.length:Int)+1)=(l.length:Int)+1:=v1;clear hlk
   go_wp2_with (at_builtin;go_loud (refine zo rfl _ _ rfl _ w.heap.size (.slice oP l.length oc) l.length l [⟨W7.heap.size,[a0,a1,a2,a3],u⟩] rfl (Az cI (Lx W7 _ _).2.2) (by omega) (by simp) (W7.heap.size+1) 1 rfl (by rw [Aiw _ 4 rfl];exact(Lx W7 _ _).1) rfl (Anz hbase (Lx W7 _ _).2.2.size) ?_);intro v9 w9 hown9 hext9 hg9)
   have AS:=Aiv (d:=[⟨W7.heap.size,[a0,a1,a2,a3],u⟩]) (Az cI (Lx W7 _ _).2.2) hg9 (fun e he=>(AeC e he).ext (Lx W7 _ _).2.2) (by
    intro e he;simp only [List.mem_cons,An0,or_false]at he;subst he;refine⟨by show _=some (Obj.cells (flat (Ao [a0,a1,a2,a3])).toArray _);rw [Ac8];exact(Lx W7 _ _).2.1,?_,by simp⟩;intro p hp;simp only [List.mem_cons,An0,or_false]at hp
    rcases hp with rfl|rfl|rfl|rfl<;>assumption)
   have Mx:IY (l ++ [⟨W7.heap.size,[a0,a1,a2,a3],u⟩])=(JQ us).take (k+1):=by rw [Anr (by rw [Xm];exact BL),←Fx.out,Akf us BL,wn.out,←HU.out];simp [IY]
   have BI:=Anl (And.intro hown9 (And.intro AS (And.intro Mx (And.intro (hext9 w (J3.trans (Lx W7 _ _).2.2) (Ano _)) ((hg9.block bR (Anx (Anm Vf) (Lx W7 _ _).2.2.size) (fun e=>Bn cI Vf (by decide) e.symm)).trans (((Lx W7 _ _).2.2.block bR (Anm Vf)).trans Vf))))));clear AS hown9 hext9 hg9 Mx;go_wp2;go_roundw
   case rel=>exact⟨_,k+1,by rw [←kZ.out];go_num,hkn,by rw [List.length_append];exact BI.out.1,BI.out.2.1,BI.out.2.2.1,BI.out.2.2.2.1,BI.out.2.2.2.2⟩
   case measure=>have e:=kZ.out;simp [intOf];omega
  ·have Bu:k=n:=(by omega);subst Bu
   have hlk:l.length=k:=by have:=congrArg List.length Fx.out;rw [jz,List.length_take,Xm]at this;have:=HN.out;omega
   have hp:IY l=JQ us:=(by rw [Fx.out,Anw (by rw [Xm,HN.out];exact Ano _)]);obtain⟨oA,oc,rfl,hr1,hr2,AeM⟩:=Ae.of_own' (by omega) hown;have DD:=AhW hr1 Fa.out hr2 AeM;rw [hp]at DD;have b1:=HB.out oA oc _ (hw.ext Ac) DD;rw [←HN.out]at b1;rw [hlk];clear DD hp hr1;(go_wp2_with fail);(with_reducible refine(b1.mono ?_));rintro e w2 ⟨A2,B2,F2,c2,d2,g2,rfl,Cu,r1,r2,r3,r4,hx2⟩;have hX:=Ac.trans hx2;have aI:=(hx2.block _ (Anm CZ)).trans CZ;have EM:=(Aa.refl w2).alloc (.cells #[.slice A2 m.pts.length c2,.slice B2 m.eds.length d2,.slice F2 m.nf g2] 36);have Ml:=(EM.block _ (Anm aI)).trans aI;have hst:=Ajl (r1.ext EM) (r2.ext EM) (r3.ext EM) (hX.trans EM) Ml hb0 (.slice A2 m.pts.length c2) (.slice B2 m.eds.length d2) (.slice F2 m.nf g2) _ rfl;have q0:=Ab (o:=0) Ml rfl;have q1:=Ab (o:=1) Ml rfl;have q2:=Ab (o:=2) Ml rfl;have q3:=AO (o:=0) Ml;have q4:=AO (o:=1) Ml;have q5:=AO (o:=2) Ml;have t1:=Ab (o:=0) hst.2.2.2.2 rfl;have t2:=Ab (o:=1) hst.2.2.2.2 rfl;have t3:=Ab (o:=2) hst.2.2.2.2 rfl;have HST:=Anl (And.intro hst (And.intro Cu r4));clear hst Cu r1 r2 r3 r4 hx2 Ac CZ aI Ml;unfold Dz;go_wp2;refine bodyPost_ret (v:=.agg #[.slice A2 m.pts.length c2,.slice B2 m.eds.length d2,.slice F2 m.nf g2]) (by simp [results,Tryz.results11,go_sem,t1,t2,t3]) rfl ?_;exact⟨A2,B2,F2,c2,d2,g2,rfl,HST.out.2.1,HST.out.1.1,HST.out.1.2.1,HST.out.1.2.2.1,HST.out.2.2,HST.out.1.2.2.2.1⟩
theorem Ake:JQ [[66],[65],[120]]=str3:=rfl
theorem Akh(A:Option Addr)(c:Nat)(w:World)(hw:An w)(hr:Ae w A [S [66],S [65],S [120]])(hc:3<=c)(hcm:c<=9223372036854775807) :
  Calls Tryz.prog 11 #[.slice A 3 c] w (Yj w Lg [[66],[65],[120]]):=
 Aki [[66],[65],[120]] (by simp) (fun A c w hw h=>Aa6 A c w hw (by rw [Ake]at h;exact h)) A c w hw hr hc hcm
end Go.Proofs.YtjalkoacphhgdaaGreatDoor
namespace Kl
def c3:List La:=[⟨[65],[49],[50]⟩,⟨[66],[48],[51]⟩,⟨[67],[49],[]⟩]
def f3:List Bs:=[[66],[65],[120]]
def e3:List En:=[⟨[66],[97],1,[48,32,116,111,32,51]⟩,⟨[65],[98],2,[49,32,116,111,32,50]⟩,⟨[120],[99],3,[]⟩]
theorem Ak8(F:List Bs):EX F=Go.Lib.compact (Et (fun x y=>decide (x<=y)) F.length (F.filter (fun s=>s != []))):=by
 unfold EX;rw [NW _ _ _ (List.length_filter_le _ _)]
theorem AjJ(c:List La)(l:List Bs):Jc c l=Et (fun x y=>!decide (DO c y x<0)) l.length l:=by
 rw [NW _ _ _ (Nat.le_refl _)]
 rfl
theorem qd:EX f3 = [[65],[66],[120]]:=by rw [Ak8];decide +kernel
theorem m9:Jc c3 [[65],[66],[120]] = [[66],[65],[120]]:=by rw [AjJ];decide +kernel
theorem oR:Du c3 [[66],[65],[120]]=e3:=by decide +kernel
theorem Acv:QS c3 f3=0:=by
 unfold QS;rw [qd,m9,oR]
 decide +kernel
theorem AaT:DN e3=0:=by decide +kernel
theorem AhJ:IV c3 [⟨[65],[98],2,[49,32,116,111,32,50]⟩,⟨[66],[97],1,[48,32,116,111,32,51]⟩]=some 1:=by decide +kernel
theorem AaR:DN [⟨[65],[98],2,[49,32,116,111,32,50]⟩,⟨[66],[97],1,[48,32,116,111,32,51]⟩]=0:=by decide +kernel
theorem Agu:e3.map Ci = [[97,32,66,32,112,108,97,105,110,58,32,48,32,116,111,32,51],[98,32,65,32,100,111,116,115,58,32,49,32,116,111,32,50],[99,32,120,32,100,97,115,104,101,115]]:=by decide +kernel
theorem x8:R 0 = [48]:=by decide +kernel
theorem x9:R 1 = [49]:=by decide +kernel
theorem lP:R 2 = [50]:=by decide +kernel
theorem lQ:R 3 = [51]:=by decide +kernel
theorem AhB:BJ (R 0):=⟨0,rfl,by decide +kernel,by decide +kernel⟩
theorem ik:BJ (R 1):=⟨1,rfl,by decide +kernel,by decide +kernel⟩
theorem AhC:BJ (R 2):=⟨2,rfl,by decide +kernel,by decide +kernel⟩
theorem AhD:BJ (R 3):=⟨3,rfl,by decide +kernel,by decide +kernel⟩
theorem oO:Nq c3=0:=by
 have h1:colS [] ⟨[65],R 1,(some (2:Rat)).elim [] R⟩=0:=YO ik (by rintro q ⟨rfl⟩;exact⟨AhC,by rw [lP];decide,by decide +kernel⟩) (by decide +kernel) (by simp) (by decide +kernel);have h2:colS [⟨[65],R 1,R 2⟩] ⟨[66],R 0,(some (3:Rat)).elim [] R⟩=0:=YO AhB (by rintro q ⟨rfl⟩;exact⟨AhD,by rw [lQ];decide,by decide +kernel⟩) (by decide +kernel) (by intro y hy;rw [List.mem_singleton.1 hy];simp) (by decide +kernel);have h3:colS [⟨[65],R 1,R 2⟩,⟨[66],R 0,R 3⟩] ⟨[67],R 1,(none:Option Rat).elim [] R⟩=0:=YO ik (by intro q h;cases h) (by decide +kernel) (by intro y hy;simp only [List.mem_cons,List.not_mem_nil,or_false]at hy;rcases hy with rfl|rfl<;>simp) (by decide +kernel);simp only [Option.elim_some,Option.elim_none]at h1 h2 h3;rw [x8,x9,lP,lQ]at *;unfold Nq c3;rw [if_neg (by decide),if_neg (by decide)];simp only [Ko,h1,if_true,List.nil_append,h2,List.cons_append,h3]
end Kl
namespace Go.Proofs.YtjalkoacphhgdaaGreatDoor
open Go.RowKit Kl
theorem Abp{w w':World}{e:Ending}(h:Is c3 f3 w e w'):∃A c,e=.returned (.tuple #[.slice A 3 c,.int .i64 0])/\Ae w' A (B5 e3)/\3<=c/\c<=9223372036854775807/\Aa w w':=by
 unfold Is at h;rw [Acv,if_pos rfl,qd,m9,oR]at h;exact h
theorem cq{l:List En}(h:l.all (fun e=>decide (e.u.length<1000000)&&(decide (e.s.length<1000000)&&decide (e.t.length<1000000)))=true):∀e∈l,MD e:=by
 intro e he;have:=List.all_eq_true.1 h e he;simp only [Bool.and_eq_true,decide_eq_true_eq]at this;exact⟨this.1,this.2.1,this.2.2⟩
def Re:En:=⟨[65],[98],2,[49,32,116,111,32,50]⟩
def Rc:En:=⟨[66],[97],1,[48,32,116,111,32,51]⟩
theorem bj(w:World)(hw:An w):Calls Tryz.prog 8 #[] w (B7 true w):=by
 have hL:=Ann w (.cells #[S [65],S [49],S [50],S [66],S [48],S [51],S [67],S [49],S []] 31);have hE:=(Aa.refl w).alloc (.cells #[S [65],S [49],S [50],S [66],S [48],S [51],S [67],S [49],S []] 31);have hR:Ae (w.alloc (.cells #[S [65],S [49],S [50],S [66],S [48],S [51],S [67],S [49],S []] 31)) (some ⟨w.heap.size,0,none⟩) (CP c3):=Ae.lit w #[S [65],S [49],S [50],S [66],S [48],S [51],S [67],S [49],S []] 31;have Fy:=Anl hR;clear hL hR;go_enter Tryz.func8,Tryz.ntmps8
 go_upto_region 2 with fail
 generalize w.alloc (.cells #[.string ⟨[65].toArray⟩,.string ⟨[49].toArray⟩,.string ⟨[50].toArray⟩,.string ⟨[66].toArray⟩,.string ⟨[48].toArray⟩,.string ⟨[51].toArray⟩,.string ⟨[67].toArray⟩,.string ⟨[49].toArray⟩,.string ⟨[].toArray⟩] 31)=V at *;obtain⟨bc,RI⟩:=Ank w.heap.size;rw [←RI]at Fy ⊢;clear RI;have SC:=hw.ext hE;have hx0:=(Aa.refl V).alloc (.cells #[S [66],S [65],S [120]] 9)
 obtain⟨m,hm1,II,wZ⟩:∃m,I1 m=0/\(∀p∈m.pts,DJ p)/\Calls Tryz.prog 11 #[.slice (some ⟨V.heap.size,0,none⟩) 3 3] (V.alloc (.cells #[S [66],S [65],S [120]] 9)) (Yj (V.alloc (.cells #[S [66],S [65],S [120]] 9)) m [[66],[65],[120]]):=
  ⟨Lg,Aba,AcQ,Akh (some ⟨V.heap.size,0,none⟩) 3 _ (SC.ext hx0) (Ae.lit V #[S [66],S [65],S [120]] 9) (by omega) (by omega)⟩
 have HM:=Anl (And.intro hm1 II);clear hm1 II;(go_wp2_with fail);(with_reducible refine wZ.mono ?_);rintro e w1 ⟨A1,B1,F1,c1,d1,g1,rfl,Cu,r1,r2,r3,r4,hx1⟩;have X1:=hx0.trans hx1;have hw1:=SC.ext X1;have HC:=Anl Cu
 have cp:=(Abw c3 (some ⟨bc,0,none⟩) 3 m f3 A1 B1 F1 c1 d1 g1 w1 (Fy.out.ext X1) (by decide) (by omega) r3 r4 (by decide) (by decide) (by decide)
  (fun W hx=>by
   have:=oQ c3 (some ⟨bc,0,none⟩) 3 W (hw1.ext hx) ((Fy.out.ext X1).ext hx) (by decide) (by omega) (by
    intro y hy;simp only [c3,List.mem_cons,An0,or_false]at hy
    rcases hy with rfl|rfl|rfl<;>(refine⟨?_,?_,?_⟩<;>decide))
   rw [oO]at this
   exact this)
  (fun W hx=>by
   have:=Aia m HM.out.2 A1 B1 F1 c1 d1 g1 HC.out W (hw1.ext hx) (r1.ext hx) (r2.ext hx);rw [HM.out.1]at this
   exact this)).mono (fun _ _ h=>Abp h)
 have pV:c3.length=3:=rfl;rw [pV]at cp;unfold Dz at cp ⊢;clear r1 r2 r3 r4 Cu pV wZ hx0 hx1;(go_wp2_with fail);(with_reducible refine cp.mono ?_);rintro e w2 ⟨A2,c2,rfl,rd2,hc2,hc2',hx2⟩;have X2:=X1.trans hx2;have hl3:∀e∈e3,MD e:=cq (by decide +kernel)
 have tx:Calls Tryz.prog 15 #[.slice A2 3 c2] w2 (fun e w'=>∃A c,e=.returned (.tuple #[.slice A 3 c,.int .i64 0])/\Ae w' A ((e3.map Ci).map S)/\Aa w2 w'):=(ou e3 A2 c2 w2 rd2 hc2 hc2' hl3 AaT).mono (by
  rintro e w' ⟨A,c,he,h1,h2,h3,h4⟩
  exact⟨A,c,he,h1,h4⟩)
 have HL3:=Anl hl3;have vw:=Anl rd2;clear cp hx2 hl3 rd2;(go_wp2_with fail);(with_reducible refine tx.mono ?_);rintro e w3 ⟨A3,YF,rfl,rd3,hx3⟩;have X3:=X2.trans hx3;have hw3:=SC.ext X3;obtain⟨b,o,rfl,hv⟩:=(vw.out.ext hx3).ad (by decide);have q0:w3.cell? ⟨b,o,none⟩=some (S [66]):=hv 0 (by decide);have q1:w3.cell? ⟨b,o+1,none⟩=some (S [97]):=hv 1 (by decide);have q2:w3.cell? ⟨b,o+2,none⟩=some (.int .i64 1):=hv 2 (by decide);have q3:w3.cell? ⟨b,o+3,none⟩=some (S [48,32,116,111,32,51]):=hv 3 (by decide);have q4:w3.cell? ⟨b,o+4,none⟩=some (S [65]):=hv 4 (by decide);have q5:w3.cell? ⟨b,o+5,none⟩=some (S [98]):=hv 5 (by decide);have q6:w3.cell? ⟨b,o+6,none⟩=some (.int .i64 2):=hv 6 (by decide);have q7:w3.cell? ⟨b,o+7,none⟩=some (S [49,32,116,111,32,50]):=hv 7 (by decide);clear tx hx3 hv
 have od:∀W,Aa w3 W→∀g,W.heap[g]?=some (.cells #[S [65],S [98],.int .i64 2,S [49,32,116,111,32,50],S [66],S [97],.int .i64 1,S [48,32,116,111,32,51]] 40)→
   Calls Tryz.prog 19 #[.slice (some ⟨g,0,none⟩) 2 2,.slice (some ⟨bc,0,none⟩) 3 3] W (CC (.tuple #[.int .i64 1,.bool false,.int .i64 0]) W):=by
  intro W hx g hg;have hr:Ae W (some ⟨g,0,none⟩) (B5 [Re,Rc]):=Ae.blk hg;have hB:=Fy.out.ext (X3.trans hx)
  have op:=AhG [Re,Rc] (some ⟨g,0,none⟩) 2 0 (.slice (some ⟨bc,0,none⟩) 3 3) W hr (by decide) (by omega) (cq (by decide +kernel)) (fun W' hx'=>by
   have:=oQ c3 (some ⟨bc,0,none⟩) 3 W' (hw3.ext (hx.trans hx')) (hB.ext hx') (by decide) (by omega) (by
    intro y hy;simp only [c3,List.mem_cons,An0,or_false]at hy
    rcases hy with rfl|rfl|rfl<;>(refine⟨?_,?_,?_⟩<;>decide))
   rw [oO]at this
   exact this)
  have hch:DN [Re,Rc]=0:=AaR;rw [hch,if_pos rfl]at op;have h:=AhM [Re,Rc] (some ⟨g,0,none⟩) 2 c3 (some ⟨bc,0,none⟩) 3 W hr (by decide) hB (by decide) (by omega) op;have ho:IV c3 [Re,Rc]=some 1:=AhJ;rw [ho]at h;exact h
 go_upto_region 6 with fail
 go_region_held3 (fun w'=>w'.cell? ⟨b,o,none⟩=some (S [66])/\w'.cell? ⟨b,o+1,none⟩=some (S [97])/\w'.cell? ⟨b,o+2,none⟩=some (.int .i64 1)/\w'.cell? ⟨b,o+3,none⟩=some (S [48,32,116,111,32,51])/\w'.cell? ⟨b,o+4,none⟩=some (S [65])/\w'.cell? ⟨b,o+5,none⟩=some (S [98])/\w'.cell? ⟨b,o+6,none⟩=some (.int .i64 2)/\w'.cell? ⟨b,o+7,none⟩=some (S [49,32,116,111,32,50]))
  (go_keep)
  (first|((with_reducible refine(od _ ((Aa.refl w3).alloc _).drew _ (Ann _ _)).mono ?_);rintro e w6 ⟨rfl,AI⟩;have X6:Aa w3 w6:=((Aa.refl w3).alloc _).drew.trans AI;have g0:=X6.cellS q0;have g1:=X6.cellS q1;have g2:=X6.cellS q2;have g3:=X6.cellS q3;have g4:=X6.cellS q4;have g5:=X6.cellS q5;have g6:=X6.cellS q6;have g7:=X6.cellS q7))
 have X7:=X3.trans X6
 have bW:Ae w6 A3 ([S [97,32,66,32,112,108,97,105,110,58,32,48,32,116,111,32,51],S [98,32,65,32,100,111,116,115,58,32,49,32,116,111,32,50],S [99,32,120,32,100,97,115,104,101,115]]):=by have:=rd3.ext X6;rw [Agu]at this;exact this
 have VY:=(Aa.refl w6).alloc (.cells #[S [97,32,66,32,112,108,97,105,110,58,32,48,32,116,111,32,51],S [98,32,65,32,100,111,116,115,58,32,49,32,116,111,32,50],S [99,32,120,32,100,97,115,104,101,115]] 9);have eq:Calls Tryz.prog 17 #[.slice A3 3 YF,.slice (some ⟨w6.heap.size,0,none⟩) 3 3] (w6.alloc (.cells #[S [97,32,66,32,112,108,97,105,110,58,32,48,32,116,111,32,51],S [98,32,65,32,100,111,116,115,58,32,49,32,116,111,32,50],S [99,32,120,32,100,97,115,104,101,115]] 9)) (B7 true (w6.alloc (.cells #[S [97,32,66,32,112,108,97,105,110,58,32,48,32,116,111,32,51],S [98,32,65,32,100,111,116,115,58,32,49,32,116,111,32,50],S [99,32,120,32,100,97,115,104,101,115]] 9))):=qJ [[97,32,66,32,112,108,97,105,110,58,32,48,32,116,111,32,51],[98,32,65,32,100,111,116,115,58,32,49,32,116,111,32,50],[99,32,120,32,100,97,115,104,101,115]] A3 (some ⟨w6.heap.size,0,none⟩) YF 3 _ (bW.ext VY) (Ae.lit w6 #[S [97,32,66,32,112,108,97,105,110,58,32,48,32,116,111,32,51],S [98,32,65,32,100,111,116,115,58,32,49,32,116,111,32,50],S [99,32,120,32,100,97,115,104,101,115]] 9) (by decide);have BI:=Anl (hE.trans X7);clear rd3 bW g0 g1 g2 g3 g4 g5 g6 g7 q0 q1 q2 q3 q4 q5 q6 q7 od;(go_wp2_with fail);(with_reducible refine eq.mono ?_);rintro e w7 ⟨rfl,AG⟩;go_wp2;go_ret;exact⟨rfl,BI.out.trans (VY.trans AG)⟩
end Go.Proofs.YtjalkoacphhgdaaGreatDoor
