/- Y49: BX BY BZ LGX LGY. -/
import Derived.Test.YtjalkoacphhgdaaGreatDoorY47
import Derived.Test.YtjalkoacphhgdaaGreatDoorY48
set_option maxRecDepth 100000
set_option maxHeartbeats 16000000
namespace Kl
section
variable {α : Type} (le : α → α → Bool)
def MJ:Nat→List α→List α→List α
 | 0,xs,ys=>xs++ys
 | _+1,[],ys=>ys
 | _+1,x::xs,[]=>x::xs
 | n+1,x::xs,y::ys=>if le x y then x::MJ n xs (y::ys)else y::MJ n (x::xs) ys
theorem eE:∀(n:Nat) (xs ys:List α),xs.length+ys.length<=n→MJ le n xs ys=List.merge xs ys le
 | 0,[],[],_=>by simp [MJ]
 | 0,_::_,_,h=>by simp at h
 | 0,[],_::_,h=>by simp at h
 | n+1,[],ys,_=>by simp [MJ]
 | n+1,x::xs,[],_=>by simp [MJ]
 | n+1,x::xs,y::ys,h=>by simp only [List.length_cons]at h;rw [MJ,List.cons_merge_cons,eE n xs (y::ys) (by simp;omega),eE n (x::xs) ys (by simp;omega)]
def Ez:Nat→List α→List α
 | 0,l=>l
 | _+1,[]=>[]
 | _+1,[a]=>[a]
 | n+1,a::b::l=>MJ le (l.length+2) (Ez n ((a::b::l).take ((l.length+3) / 2))) (Ez n ((a::b::l).drop ((l.length+3) / 2)))
theorem NZ:∀(n:Nat) (l:List α),l.length<=n→Ez le n l=l.mergeSort le
 | 0,[],_=>by simp [Ez]
 | 0,_::_,h=>by simp at h
 | n+1,[],_=>by simp [Ez]
 | n+1,[a],_=>by simp [Ez]
 | n+1,a::b::l,h=>by
  simp only [List.length_cons]at h;have h1:((a::b::l).take ((l.length+3)/2)).length<=n:=(by simp only [List.length_take,List.length_cons];omega);have h2:((a::b::l).drop ((l.length+3)/2)).length<=n:=(by simp only [List.length_drop,List.length_cons];omega);have h3:((a::b::l).take ((l.length+3)/2)).length+((a::b::l).drop ((l.length+3)/2)).length<=l.length+2:=(by simp only [List.length_take,List.length_drop,List.length_cons];omega);rw [Ez,NZ n _ h1,NZ n _ h2,eE _ _ _ _ (by rw [List.length_mergeSort,List.length_mergeSort];exact h3)];rw [List.mergeSort];simp only [List.MergeSort.Internal.splitInTwo_fst,List.MergeSort.Internal.splitInTwo_snd]
  rfl
end
end Kl
namespace Go.Proofs.YtjalkoacphhgdaaGreatDoor
open Go.RowKit Kl
def VU(x y:Pt):Bool:=!decide (AX y x<0)
def SI(x y:Sg):Bool:=!decide (Fu y x<0)
def dY(p x y:Pt):Bool:=!decide (CV p y x<0)
theorem lz(l:List Pt):EC l=Ez VU l.length l:=(NZ VU _ l (AmC _)).symm
theorem iK(l:List Sg):B7 l=Ez SI l.length l:=(NZ SI _ l (AmC _)).symm
theorem Aji(p:Pt)(l:List Pt):DG p l=Ez (dY p) l.length l:=(NZ (dY p) _ l (AmC _)).symm
def ON(W:List Sg)(R0:List (Pt×List Pt)):List (List Sg):=((Ez SI W.length W).foldl (FA W.length R0) ([],[])).2
theorem oC(W:List Sg)(R0:List (Pt×List Pt)):Ho W R0=ON W R0:=by unfold Ho ON;rw [iK]
def iE(p:List Pt)(s:Pt×Pt):Bool:=p.all (fun x=>decide (0<=Al s.1 s.2 x))&&p.any (fun x=>decide (0<Al s.1 s.2 x))
def WI(p:List Pt)(s:Pt×Pt):Bool:=p.all (fun x=>decide (Al s.1 s.2 x<=0))
theorem AiP{p:List Pt}{s:Pt×Pt}(h:iE p s=true):Lt p s:=by
 unfold iE at h;rw [Bool.and_eq_true,List.all_eq_true,List.any_eq_true]at h;obtain⟨h1,x,hx,h2⟩:=h;exact⟨fun x hx=>of_decide_eq_true (h1 x hx),x,hx,of_decide_eq_true h2⟩
theorem ju{p:List Pt}{s:Pt×Pt}(h:WI p s=true):JS p s:=by
 unfold WI at h;rw [List.all_eq_true]at h;exact fun x hx=>of_decide_eq_true (h x hx)
def fQ(l:List Pt):Bool:=decide (3<=l.length)&&(decide (l.length<=60)&&((List.range l.length).all (fun i=>(List.range l.length).all (fun n=>n == i||(n == (i+1)%l.length||decide (0<Al (l.getD i ⟨0,0⟩) (l.getD ((i+1)%l.length) ⟨0,0⟩) (l.getD n ⟨0,0⟩)))))&&(List.range (l.length-1)).all (fun n=>!decide (AX (l.getD (n+1) ⟨0,0⟩) (l.getD 0 ⟨0,0⟩)<0))))
theorem getD_at{α:Type}(l:List α)(d:α){i:Nat}(h:i<l.length):l.getD i d=l[i]:=by rw [List.getD_eq_getElem?_getD,AmH h];rfl
theorem ik{l:List Pt}(h:fQ l=true):Nl l:=by
 unfold fQ at h;simp only [Bool.and_eq_true,List.all_eq_true,decide_eq_true_eq,List.mem_range,Bool.or_eq_true,beq_iff_eq,Bool.not_eq_true',decide_eq_false_iff_not]at h;obtain⟨h1,h2,h3,h4⟩:=h;refine⟨h1,h2,?_,?_⟩
 ·intro i n hi hn h5 h6;have:=h3 i hi n hn;rw [getD_at l _ hi,getD_at l _ hn,getD_at l _ (Nat.mod_lt _ (by omega))]at this
  rcases this with k|k|k
  ·exact absurd k h5
  ·exact absurd k h6
  ·exact k
 ·intro n hn;have:=h4 n (by omega);rw [getD_at l _ hn,getD_at l _ (by omega:0<l.length)]at this;exact this
def Ly(p:Pt):Bool:=decide (p.x.num.natAbs<10^200)&&(decide (p.x.den<10^200)&&(decide (p.y.num.natAbs<10^200)&&decide (p.y.den<10^200)))
theorem Oi{p:Pt}(h:Ly p=true):Ar 200 p:=by
 unfold Ly at h;simp only [Bool.and_eq_true,decide_eq_true_eq]at h;exact⟨⟨h.1,h.2.1⟩,⟨h.2.2.1,h.2.2.2⟩⟩
def U2(p:Pt):Bool:=decide ((p.x*2).den=1)&&(decide ((p.x*2).num.natAbs<=1000000)&&(decide ((p.y*2).den=1)&&decide ((p.y*2).num.natAbs<=1000000)))
theorem sX{q:Rat}(h1:(q*2).den=1)(h2:(q*2).num.natAbs<=1000000):Q4 q:=by
 refine⟨(q*2).num,h2,?_⟩
 have:((q*2).num:Rat)=q*2:=by
  refine Rat.ext ?_ ?_
  ·rw [Rat.num_intCast]
  ·rw [Rat.den_intCast,h1]
 rw [this];grind
theorem qQ{p:Pt}(h:U2 p=true):DL p:=by
 unfold U2 at h;simp only [Bool.and_eq_true,decide_eq_true_eq]at h;exact⟨sX h.1 h.2.1,sX h.2.2.1 h.2.2.2⟩
def F8(P:List (List Pt×Bs)):List Pt:=Lib.compact (Ez VU (Dd P P.length).length (Dd P P.length))
theorem AaT(P:List (List Pt×Bs)):QV P=F8 P:=by unfold QV F8;rw [lz]
def Wm:List Sg→Bool
 | []=>true
 | s::l=>!l.any (AK s) && Wm l
theorem cz:∀{l:List Sg},Wm l=true→l.Nodup
 | [],_=>List.nodup_nil
 | s::l,h=>by rw [Wm,Bool.and_eq_true,Bool.not_eq_true']at h;rw [List.nodup_cons];exact⟨lR.1 h.1,cz h.2⟩
def PX(P:List (List Pt×Bs)):Bool:=
 decide (0<P.length)&&(decide (P.length<=1000)&&(P.all (fun e=>fQ e.1&&e.1.all Ly) &&
 (P.all (fun e=>(List.range e.1.length).all (fun k=>decide ((F8 P).filter (fun q=>Gy (FX e.1 k).a (FX e.1 k).b q)=Rh (FX e.1 k)))) &&
 (Wm ((B8 P P.length).map (·.1)) &&
 ((List.range P.length).all (fun i=>(List.range i).all (fun k=>(List.range (P.getD k ([],[])).1.length).all (fun j=>iE (P.getD i ([],[])).1 (By (P.getD k ([],[])).1 j)||WI (P.getD i ([],[])).1 (By (P.getD k ([],[])).1 j))&&(List.range (P.getD k ([],[])).1.length).any (fun j=>WI (P.getD i ([],[])).1 (By (P.getD k ([],[])).1 j)))) &&
 ((B8 P P.length).all (fun e=>decide (0<=e.2/\e.2<(P.length:Int))&&(Ly e.1.a&&Ly e.1.b)&&(match lookO (AQ e.1) (B8 P P.length)with|none=>true|some z=>decide (0<=z/\z<(P.length:Int))&&decide ((P.getD e.2.toNat ([],[])).2≠(P.getD z.toNat ([],[])).2))) &&
 decide ((B8 P P.length).length<=10000)))))))
theorem Ah3{P:List (List Pt×Bs)}(h:PX P=true):jB P:=by
 unfold PX at h;simp only [Bool.and_eq_true,List.all_eq_true,decide_eq_true_eq,List.mem_range]at h;obtain⟨-,h1,h2,h3,h4,h5,-,-⟩:=h;refine⟨⟨h1,fun e he=>?_,fun e he p hp=>Oi ((h2 e he).2 p hp),fun e he k hk=>?_,cz h4⟩,fun e he=>ik (h2 e he).1,?_⟩
 ·have:=ik (h2 e he).1;exact⟨by have:=this.n3;omega,this.n60⟩
 ·rw [AaT];exact h3 e he k hk
 ·intro i k hi hk;obtain⟨ha,hb⟩:=h5 i hi k hk;rw [getD_at P _ hi,getD_at P _ (by omega:k<P.length)]at ha hb;rw [List.any_eq_true]at hb;obtain⟨j,hj,hb⟩:=hb;refine⟨fun j hj=>?_,j,List.mem_range.1 hj,ju hb⟩;have:=ha j hj;rw [Bool.or_eq_true]at this;exact this.imp AiP ju
instance sgDec:DecidableEq Sg:=fun s t=>decidable_of_iff (AK s t=true) Ip
def Io(pts:List Pt)(eds:List Av):List (Pt×List Pt):=(Cy pts eds).map (fun e=>(e.1,Ez (dY e.1) e.2.length e.2))
theorem jk(pts:List Pt)(eds:List Av):Io pts eds=(Cy pts eds).map (fun e=>(e.1,DG e.1 e.2)):=by
 unfold Io;refine List.map_congr_left fun e _=>?_;rw [Aji]
def xw(pts:List Pt)(eds:List Av)(n:Nat):Dz:=Kn (AL pts eds) n (ON ((AL pts eds).map (·.1)) (Io pts eds)) (JR ((AL pts eds).map (·.1)) (ON ((AL pts eds).map (·.1)) (Io pts eds)))
def cm(e:Pt×List Pt):Bool:=match e.2 with
 | [p,q]=>decide (AD (Al p e.1 q)≠0)
 | _=>true
def SS(pts:List Pt)(eds:List Av)(n:Nat):Bool:=
 decide (CH [] pts=0)&&(decide (CU pts.length n [] eds=0)&&(decide (D5 pts [] eds=0)&&(pts.all U2&&(decide (eds.length<=1000)&&(!(xw pts eds n).op &&
 ((Io pts eds).all (fun e=>Ly e.1&&(e.2.all Ly&&(decide (e.2.length<100000)&&cm e)))&&(decide ((Io pts eds).length<=400)&&(decide ((Io pts eds).map (·.1)).Nodup &&
 ((AL pts eds).all (fun e=>Ly e.1.a&&Ly e.1.b)&&(AL pts eds).all (fun e=>(AL pts eds).any (fun e'=>AK e'.1 (AQ e.1))))))))))))
theorem Ag3{pts:List Pt}{eds:List Av}{n:Nat}(h:SS pts eds n=true):kV pts eds n (Io pts eds):=by
 unfold SS at h;simp only [Bool.and_eq_true,List.all_eq_true,decide_eq_true_eq,Bool.not_eq_true']at h;obtain⟨h1,h2,h3,h4,h5,h6,h7,h8,h9,h10,h11⟩:=h;have hg:∀p∈pts,DL p:=fun p hp=>qQ (h4 p hp);have he:=oZ h1 h2;refine⟨he,h5,cd he hg h3,eO he hg,br h2,jk pts eds,?_,fun e k=>⟨Oi (h7 e k).1,fun p hp=>Oi ((h7 e k).2.1 p hp)⟩,h8,fun e k=>(h7 e k).2.2.1,h9,?_,fun e k=>⟨Oi (h10 e k).1,Oi (h10 e k).2⟩,?_⟩
 ·rw [oC];exact h6
 ·intro e k p q Mz;have:=(h7 e k).2.2.2;unfold cm at this;rw [Mz]at this;exact of_decide_eq_true this
 ·intro e k;have:=h11 e k;rw [List.any_eq_true]at this;obtain⟨x,hx,hs⟩:=this;exact⟨x,hx,Ip.1 hs⟩
def iW(P:List (List Pt×Bs)):List Sg:=Ez SI ((B8 P P.length).map (·.1)).length ((B8 P P.length).map (·.1))
def J3(P:List (List Pt×Bs)):List Av:=(DN (B8 P P.length) (iW P)).map (fun x=>⟨Gx x.1.a (BO (F8 P)),Gx x.1.b (BO (F8 P)),x.2.1,x.2.2⟩)
def Tk(P:List (List Pt×Bs)):List Pt:=Ez VU ((Io (F8 P) (J3 P)).map (·.1)).length ((Io (F8 P) (J3 P)).map (·.1))
def MW(P:List (List Pt×Bs)):G2:=I2 (P.map (·.2)) (BO (Tk P)) (AL (F8 P) (J3 P)) (Ez SI ((AL (F8 P) (J3 P)).map (·.1)).length ((AL (F8 P) (J3 P)).map (·.1)))
def SL(P:List (List Pt×Bs)):Ck:=⟨Tk P,(MW P).ed,(MW P).fa.length⟩
def XZ(P:List (List Pt×Bs)):Bool:=decide (DN (B8 P P.length) (iW P)=(J3 P).map (fun e=>(Bc (F8 P) e,e.l,e.r)))
theorem mR(P:List (List Pt×Bs))(h1:PX P=true)(h2:SS (F8 P) (J3 P) P.length=true)(h3:XZ P=true)(A:Option Addr)(c:Nat)(w:World)(hw:An w)(h:Jv w A c P) :
  Calls Tryz.prog 44 #[.slice A P.length c] w (Qs w (SL P) (MW P).fa):=by
 have hp:=h1;unfold PX at h1;simp only [Bool.and_eq_true,List.all_eq_true,decide_eq_true_eq]at h1;obtain⟨g0,-,-,-,-,-,g6,g7⟩:=h1;have ha:DN (B8 P P.length) (iW P)=(J3 P).map (fun e=>(Bc (F8 P) e,e.l,e.r)):=of_decide_eq_true h3;refine Aag P (Ah3 hp) g0 ?_ (fun e k=>⟨Oi (g6 e k).1.2.1,Oi (g6 e k).1.2.2⟩) g7 (by rw [iK];exact ha) (Ag3 h2) (pts:=Tk P) (by rw [lz];rfl) (st:=MW P) (by rw [iK];rfl) A c w hw h;intro e k;obtain⟨⟨g1,-⟩,g3⟩:=g6 e k;refine⟨g1.1,g1.2,fun z hz=>?_⟩;rw [hz]at g3;simp only [Bool.and_eq_true,decide_eq_true_eq]at g3;exact⟨g3.1.1,g3.1.2,g3.2⟩
def MV(i:Rat):List Pt:=[⟨i,0⟩,⟨i+1,0⟩,⟨i+1,1⟩,⟨i,1⟩]
def str3:List (List Pt×Bs):=[(MV 0,[66]),(MV 1,[65]),(MV 2,[120])]
def Jj:List (List Pt×Bs):=[(MV 0,[97])]
set_option maxRecDepth 100000
theorem Aj0:PX str3=true:=by decide +kernel
theorem Ajy:XZ str3=true:=by decide +kernel
theorem Ajz:SS (F8 str3) (J3 str3) 3=true:=by decide +kernel
theorem Ajx:PX Jj=true:=by decide +kernel
theorem Ajv:XZ Jj=true:=by decide +kernel
theorem Ajw:SS (F8 Jj) (J3 Jj) 1=true:=by decide +kernel
set_option maxRecDepth 100000
def Lj:Ck:=⟨[⟨0,0⟩,⟨0,1⟩,⟨1,0⟩,⟨1,1⟩,⟨2,0⟩,⟨2,1⟩,⟨3,0⟩,⟨3,1⟩],[⟨0,1,-1,0⟩,⟨0,2,0,-1⟩,⟨1,3,-1,0⟩,⟨2,3,0,1⟩,⟨2,4,1,-1⟩,⟨3,5,-1,1⟩,⟨4,5,1,2⟩,⟨4,6,2,-1⟩,⟨5,7,-1,2⟩,⟨6,7,2,-1⟩],3⟩
def MI:Ck:=⟨[⟨0,0⟩,⟨0,1⟩,⟨1,0⟩,⟨1,1⟩],[⟨0,1,-1,0⟩,⟨0,2,0,-1⟩,⟨1,3,-1,0⟩,⟨2,3,0,-1⟩],1⟩
def YG(e:Av):Int×Int×Int×Int:=(e.f,e.t,e.l,e.r)
theorem YH:∀{l m:List Av},l.map YG=m.map YG→l=m
 | [],[],_=>rfl
 | [],_::_,h=>by cases h
 | _::_,[],h=>by cases h
 | ⟨a,b,c,d⟩::l,⟨a',b',c',d'⟩::m,h=>by rw [List.map_cons,List.map_cons,List.cons.injEq]at h;obtain⟨h1,h2⟩:=h;simp only [YG,Prod.mk.injEq]at h1;obtain⟨rfl,rfl,rfl,rfl⟩:=h1;rw [YH h2]
theorem mg:(MW str3).fa = [[66],[65],[120]]:=by decide +kernel
theorem mf:(MW Jj).fa = [[97]]:=by decide +kernel
theorem Agi:SL str3=Lj:=by
 have h1:Tk str3=Lj.pts:=(by decide +kernel);have h2:(MW str3).ed=Lj.eds:=YH (by decide +kernel);unfold SL;rw [h1,h2,mg];rfl
theorem Agh:SL Jj=MI:=by
 have h1:Tk Jj=MI.pts:=(by decide +kernel);have h2:(MW Jj).ed=MI.eds:=YH (by decide +kernel);unfold SL;rw [h1,h2,mf];rfl
theorem Aaf(A:Option Addr)(c:Nat)(w:World)(hw:An w)(h:Jv w A c str3) :
  Calls Tryz.prog 44 #[.slice A 3 c] w (Qs w Lj [[66],[65],[120]]):=by
 have:=mR str3 Aj0 Ajz Ajy A c w hw h;rw [Agi,mg]at this;exact this
theorem Aae(A:Option Addr)(c:Nat)(w:World)(hw:An w)(h:Jv w A c Jj) :
  Calls Tryz.prog 44 #[.slice A 1 c] w (Qs w MI [[97]]):=by
 have:=mR Jj Ajx Ajw Ajv A c w hw h;rw [Agh,mf]at this;exact this
def nL(m:Ck):Bool:=!LR m&&(decide (CH [] m.pts=0)&&(decide (CU m.pts.length m.nf [] m.eds=0)&&(decide (D5 m.pts [] m.eds=0)&&(!Rj (Cy m.pts m.eds) m.pts&&LM (AL m.pts m.eds) m.nf (ON ((AL m.pts m.eds).map (·.1)) (Io m.pts m.eds)) (JR ((AL m.pts m.eds).map (·.1)) (ON ((AL m.pts m.eds).map (·.1)) (Io m.pts m.eds)))))))
theorem Aa2{m:Ck}(h:nL m=true):I3 m=0:=by
 unfold nL at h;simp only [Bool.and_eq_true,decide_eq_true_eq,Bool.not_eq_true']at h;obtain⟨h1,h2,h3,h4,h5,h6⟩:=h
 have e:LM (AL m.pts m.eds) m.nf (Oa m) (PO m)=true:=by unfold PO Oa eN eM;rw [←jk,oC];exact h6
 unfold I3 Yz;rw [if_neg (by rw [h1];simp),if_neg (by omega),if_neg (by omega),if_neg (by omega),if_neg (by rw [h5];simp),if_pos e]
theorem Aa4:I3 Lj=0:=Aa2 (by decide +kernel)
theorem Acn:∀p∈Lj.pts,DL p:=fun p hp=>qQ ((List.all_eq_true.1 (by decide +kernel:Lj.pts.all U2=true)) p hp)
theorem Ue(x y:Int)(hx:x.natAbs<10000000)(hy:y.natAbs<10000000)(w:World)(hw:An w) :
  Calls Tryz.prog 43 #[.int .i64 x,.int .i64 y] w (Ce (Ak ⟨x,y⟩) w):=by
 have o1:∀W,An W→Calls Tryz.prog 9 #[.int .i64 x,.int .i64 1] W (Bf (R (x:Rat)) W):=fun W hW=>by have:=jf x 1 (by omega) hx (by omega) W hW;rw [ae]at this;exact this
 have o2:∀W,An W→Calls Tryz.prog 9 #[.int .i64 y,.int .i64 1] W (Bf (R (y:Rat)) W):=fun W hW=>by have:=jf y 1 (by omega) hy (by omega) W hW;rw [ae]at this;exact this
 have hb:=AmB w (.cells #[S [],S []] 92);have hE:=(Aa.refl w).alloc (.cells #[S [],S []] 92);unfold Ak;clear hx hy;go_enter Tryz.func43,Tryz.ntmps43;(go_wp2_with fail);rw [show (⟨#[]⟩:ByteArray)=⟨([]:Bs).toArray⟩from rfl];(with_reducible refine(o1 _ (hw.ext hE)).mono ?_);rintro e w1 ⟨rfl,hx⟩;replace hb:=(hx.block _ (AmA hb)).trans hb;replace hE:=hE.trans hx;(go_wp2_with fail);(with_reducible refine(o2 _ (hw.ext hE)).mono ?_);rintro e w2 ⟨rfl,hx2⟩;replace hb:=(hx2.block _ (AmA hb)).trans hb;replace hE:=hE.trans hx2;have g1:=Ab (o:=0) hb rfl;have g2:=Ab (o:=1) hb rfl;have g3:=AV (o:=0) hb;have g4:=AV (o:=1) hb;obtain⟨e1,e2⟩:=set2 (S (R (x:Rat))) (S (R (y:Rat))) g1 g2;go_wp2;refine bodyPost_ret (v:=.agg #[S (R (x:Rat)),S (R (y:Rat))]) (by simp [results,Tryz.results43,go_sem,e1,e2]) rfl ?_;exact⟨rfl,(hE.setCell (AmC _) _).setCell (AmC _) _⟩
def Jk(us:List Bs):List (List Pt×Bs):=us.zipIdx.map fun e=>(MV ((e.2:Int):Rat),e.1)
theorem WT(us:List Bs):(Jk us).length=us.length:=by simp [Jk]
theorem Aj3(us:List Bs){k:Nat}(h:k<us.length)(h':k<(Jk us).length):(Jk us)[k]=(MV ((k:Int):Rat),us[k]):=by simp [Jk]
theorem Ajm(x:Int):MV (x:Rat) = [⟨(x:Rat),((0:Int):Rat)⟩,⟨((x+1:Int):Rat),((0:Int):Rat)⟩,⟨((x+1:Int):Rat),((1:Int):Rat)⟩,⟨(x:Rat),((1:Int):Rat)⟩]:=by
 unfold MV;rw [Rat.intCast_add]
 rfl
theorem WO{x y:Int}(hx:0<=x)(hx2:x<=3)(hy:0<=y)(hy2:y<=3):EJ ⟨(x:Rat),(y:Rat)⟩:=⟨(2*x,2*y),⟨by show 0<=2*x;omega,by show 2*x<=6;omega,by show 0<=2*y;omega,by show 2*y<=6;omega⟩,(Acm x y).symm⟩
theorem Acb(a b c d:Pt):(flat (Ao [a,b,c,d])).toArray=#[.string ⟨(R a.x).toArray⟩,.string ⟨(R a.y).toArray⟩,.string ⟨(R b.x).toArray⟩,.string ⟨(R b.y).toArray⟩,.string ⟨(R c.x).toArray⟩,.string ⟨(R c.y).toArray⟩,.string ⟨(R d.x).toArray⟩,.string ⟨(R d.y).toArray⟩]:=rfl
theorem Ai3{w0 w:World}{A B F:Option Addr}{m:Ck}{fa:List Bs}{bR:Nat}{t:TypeId}(hA:Ae w A (flat (Ao m.pts)))(hB:Ae w B (Bz m.eds))(hF:Ae w F (fa.map S))(hx:Aa w0 w)
  (hb:w.heap[bR]?=some (.cells #[.slice none 0 0,.slice none 0 0,.slice none 0 0] t)) (h0:w0.heap.size<=bR) (x y z:Value) :
  ∀w',w'=((w.setCell ⟨bR,0,none⟩ x).setCell ⟨bR,1,none⟩ y).setCell ⟨bR,2,none⟩ z→Ae w' A (flat (Ao m.pts))/\Ae w' B (Bz m.eds)/\Ae w' F (fa.map S)/\Aa w0 w'/\w'.heap[bR]?=some (.cells #[x,y,z] t):=by
 rintro w' rfl
 have KF:∀q,q≠bR→(((w.setCell ⟨bR,0,none⟩ x).setCell ⟨bR,1,none⟩ y).setCell ⟨bR,2,none⟩ z).heap[q]?=w.heap[q]?:=fun q hq=>by rw [D7 (by exact hq),D7 (by exact hq),D7 (by exact hq)]
 refine⟨hA.far hb ?_ KF,hB.far hb ?_ KF,hF.far hb ?_ KF,((hx.setCell (p:=⟨bR,0,none⟩) h0 x).setCell (p:=⟨bR,1,none⟩) h0 y).setCell (p:=⟨bR,2,none⟩) h0 z,Yq x y z hb⟩
 ·intro v hv;obtain⟨j,hj,rfl⟩:=List.getElem_of_mem hv;obtain⟨q,hq⟩:=qL hj;rw [hq];intro e;cases e
 ·intro v hv;obtain⟨j,hj,rfl⟩:=List.getElem_of_mem hv;obtain⟨q,hq⟩:=oY hj;rw [hq];intro e;cases e
 ·intro v hv;obtain⟨s,-,rfl⟩:=List.mem_map.1 hv;intro e;cases e
theorem L1(W:World)(x y:Obj):((W.alloc x).alloc y).heap[W.heap.size+1]?=some y/\((W.alloc x).alloc y).heap[W.heap.size]?=some x/\Aa W ((W.alloc x).alloc y):=by
 have h1:=AmB (W.alloc x) y;have h2:=(((Aa.refl (W.alloc x)).alloc y).block W.heap.size (by simp)).trans (AmB W x);have e:(W.alloc x).heap.size=W.heap.size+1:=(by simp);rw [e]at h1;exact⟨h1,h2,((Aa.refl W).alloc x).alloc y⟩
def TU(w:World)(m:Ck)(fa:List Bs)(e:Ending)(w':World):Prop:=
 ∃A B F c d g,e=.returned (Dk A B F m c d g)/\Ka m c d g/\Ae w' A (flat (Ao m.pts))/\Ae w' B (Bz m.eds)/\Ae w' F (fa.map S)/\m.nf=fa.length/\Aa w w'
theorem mh(us:List Bs)(hus:us.length<=3){m:Ck}{fa:List Bs}(hB:∀A c w,An w→Jv w A c (Jk us)→Calls Tryz.prog 44 #[.slice A us.length c] w (Qs w m fa))(A:Option Addr)(c:Nat)(w:World)(hw:An w)(hr:Ae w A (us.map S))(hc:us.length<=c)(_:c<=9223372036854775807) :
  Calls Tryz.prog 11 #[.slice A us.length c] w (TU w m fa):=by
 have hM:=AmB w (.cells #[.slice none 0 0,.slice none 0 0,.slice none 0 0] 36);have hE:=(Aa.refl w).alloc (.cells #[.slice none 0 0,.slice none 0 0,.slice none 0 0] 36);have HB:=Am9 hB;have HR:=Am9 hr;obtain⟨n,hn⟩:=Am8 us.length;rw [←hn]at hus hc;have HN:=Am9 hn;rw [←hn];clear hB hr hn;go_enter Tryz.func11,Tryz.ntmps11
 go_upto_region 1 with fail
 generalize w.alloc (.cells #[.slice none 0 0,.slice none 0 0,.slice none 0 0] 36)=V at *;obtain⟨bR,tG⟩:=Am8 w.heap.size;rw [←tG]at hM ⊢;have hb0:w.heap.size<=bR:=(by omega);clear tG
 go_upto_region 3 with fail
 go_loopw [3,10] (fun ov kv wr=>∃(l:List Pz) (k:Nat),kv=.int .i64 (k:Nat)/\k<=n/\wr.ownsRow w.heap.size 95 3 ov l.length (Dl l)/\(∀e∈l,Jw wr e)/\Jb l=(Jk us).take k/\Aa w wr/\wr.heap[bR]?=some (.cells #[.slice none 0 0,.slice none 0 0,.slice none 0 0] 36)) (fun _ kv _=>n-(intOf kv).toNat)
 case atStart=>exact⟨[],0,rfl,by omega,⟨rfl,.inl ⟨rfl,rfl⟩⟩,(fun e he=>by cases he),rfl,hE,hM⟩
 case round=>
  obtain⟨l,k,rfl,hk,hown,Aj,Dh,Ac,Eo⟩:=hrel;have Fh:=Am9 Aj;have F3:=Am9 Dh;clear Aj Dh;by_cases hkn:k<n
  ·have Co:k<us.length:=(by rw [←HN.out];exact hkn);obtain⟨bA,oA,rfl,hcs⟩:=(HR.out.ext Ac).ad (by rw [List.length_map];omega);have hck:=hcs k (by rw [List.length_map];exact Co);rw [List.getElem_map]at hck;obtain⟨u,hu⟩:=Am8 (us[k]);rw [←hu]at hck;have HU:=Am9 hu;have hk0:(0:Int)<=(k:Int):=(by omega);have Cb:(k:Int)<(n:Int):=(by omega);have v1:IntKind.wrap .i64 ((k:Int)+1)=(k:Int)+1:=AmI _ (by omega);clear hu hcs
   have hlk:l.length=k:=by have:=congrArg List.length F3.out;rw [iy,List.length_take,WT]at this;omega
   have p1:=Ue (k:Int) 0 (by omega) (by omega);have p2:=Ue ((k:Int)+1) 0 (by omega) (by omega);have p3:=Ue ((k:Int)+1) 1 (by omega) (by omega);have p4:=Ue (k:Int) 1 (by omega) (by omega);have FS:=Ajm (k:Int);have s0:EJ ⟨((k:Int):Rat),((0:Int):Rat)⟩:=WO (by omega) (by omega) (by omega) (by omega);have s1:EJ ⟨(((k:Int)+1:Int):Rat),((0:Int):Rat)⟩:=WO (by omega) (by omega) (by omega) (by omega);have s2:EJ ⟨(((k:Int)+1:Int):Rat),((1:Int):Rat)⟩:=WO (by omega) (by omega) (by omega) (by omega);have s3:EJ ⟨((k:Int):Rat),((1:Int):Rat)⟩:=WO (by omega) (by omega) (by omega) (by omega);obtain⟨a0,h0⟩:=Am8 (⟨((k:Int):Rat),((0:Int):Rat)⟩:Pt);obtain⟨a1,h1⟩:=Am8 (⟨(((k:Int)+1:Int):Rat),((0:Int):Rat)⟩:Pt);obtain⟨a2,h2⟩:=Am8 (⟨(((k:Int)+1:Int):Rat),((1:Int):Rat)⟩:Pt);obtain⟨a3,h3⟩:=Am8 (⟨((k:Int):Rat),((1:Int):Rat)⟩:Pt);rw [←h0]at p1 s0 FS;rw [←h1]at p2 s1 FS;rw [←h2]at p3 s2 FS;rw [←h3]at p4 s3 FS;have tu:=Am9 FS;unfold Ak at p1 p2 p3 p4;clear h0 h1 h2 h3 FS;obtain⟨oP,oc,rfl⟩:=fK (by omega) hown;(go_wp2_with fail);(with_reducible refine(p1 _ (hw.ext Ac)).mono ?_);rintro e w1 ⟨rfl,hx1⟩;have X1:=Ac.trans hx1;(go_wp2_with fail);(with_reducible refine(p2 _ (hw.ext X1)).mono ?_);rintro e w2 ⟨rfl,hx2⟩;have X2:=X1.trans hx2;(go_wp2_with fail);(with_reducible refine(p3 _ (hw.ext X2)).mono ?_);rintro e w3 ⟨rfl,hx3⟩;have X3:=X2.trans hx3;(go_wp2_with fail);(with_reducible refine(p4 _ (hw.ext X3)).mono ?_);rintro e W7 ⟨rfl,Ai⟩;have J9:=X3.trans Ai;have AB:Aa wr W7:=((hx1.trans hx2).trans hx3).trans Ai;clear X1 X2 X3 hx1 hx2 hx3 Ai p1 p2 p3 p4;have bI:=AI hown AB;have Aeb:∀e∈l,Jw W7 e:=fun e he=>(Fh.out e he).ext AB;have UY:=(AB.block _ (AmA Eo)).trans Eo;have hbase:w.heap.size<=W7.heap.size:=J9.size;clear AB hown Eo Ac;have kB:=Am9 hlk;have hl3:l.length<=3:=(by omega);have AlH:l.length<n:=(by omega);rw [←hlk]at hk0 Cb v1 ⊢;have e7:IntKind.wrap .i64 ((l.length:Int)+1)=(l.length:Int)+1:=v1;clear hlk
   go_wp2_with (at_builtin;go_loud (refine yf rfl _ _ rfl _ w.heap.size (.slice oP l.length oc) l.length l [⟨W7.heap.size,[a0,a1,a2,a3],u⟩] rfl (AI bI (L1 W7 _ _).2.2) (by omega) (by simp) (W7.heap.size+1) 1 rfl (by rw [AhK _ 4 rfl];exact(L1 W7 _ _).1) rfl (AmM hbase (L1 W7 _ _).2.2.size) ?_);intro v9 w9 hown9 hext9 hg9)
   have AY:=AhJ (d:=[⟨W7.heap.size,[a0,a1,a2,a3],u⟩]) (AI bI (L1 W7 _ _).2.2) hg9 (fun e he=>(Aeb e he).ext (L1 W7 _ _).2.2) (by
    intro e he;simp only [List.mem_cons,AmN,or_false]at he;subst he;refine⟨by show _=some (Obj.cells (flat (Ao [a0,a1,a2,a3])).toArray _);rw [Acb];exact(L1 W7 _ _).2.1,?_,by simp⟩;intro p hp;simp only [List.mem_cons,AmN,or_false]at hp
    rcases hp with rfl|rfl|rfl|rfl<;>assumption)
   have M5:Jb (l ++ [⟨W7.heap.size,[a0,a1,a2,a3],u⟩])=(Jk us).take (k+1):=by rw [AmF (by rw [WT];exact Co),←F3.out,Aj3 us Co,tu.out,←HU.out];simp [Jb]
   have CC:=Am9 (And.intro hown9 (And.intro AY (And.intro M5 (And.intro (hext9 w (J9.trans (L1 W7 _ _).2.2) (AmC _)) ((hg9.block bR (AmL (AmA UY) (L1 W7 _ _).2.2.size) (fun e=>Bp bI UY (by decide) e.symm)).trans (((L1 W7 _ _).2.2.block bR (AmA UY)).trans UY))))));clear AY hown9 hext9 hg9 M5;go_wp2;go_roundw
   case rel=>exact⟨_,k+1,by rw [←kB.out];go_num,hkn,by rw [List.length_append];exact CC.out.1,CC.out.2.1,CC.out.2.2.1,CC.out.2.2.2.1,CC.out.2.2.2.2⟩
   case measure=>have e:=kB.out;simp [intOf];omega
  ·have Bw:k=n:=(by omega);subst Bw
   have hlk:l.length=k:=by have:=congrArg List.length F3.out;rw [iy,List.length_take,WT]at this;have:=HN.out;omega
   have hp:Jb l=Jk us:=(by rw [F3.out,AmK (by rw [WT,HN.out];exact AmC _)]);obtain⟨oA,oc,rfl,hr1,hr2,Aem⟩:=Ae.of_own' (by omega) hown;have DF:=Ahu hr1 Fh.out hr2 Aem;rw [hp]at DF;have b1:=HB.out oA oc _ (hw.ext Ac) DF;rw [←HN.out]at b1;rw [hlk];clear DF hp hr1;(go_wp2_with fail);(with_reducible refine(b1.mono ?_));rintro e w2 ⟨A2,B2,F2,c2,d2,g2,rfl,Cw,r1,r2,r3,r4,hx2⟩;have hX:=Ac.trans hx2;have ZR:=(hx2.block _ (AmA Eo)).trans Eo;have EM:=(Aa.refl w2).alloc (.cells #[.slice A2 m.pts.length c2,.slice B2 m.eds.length d2,.slice F2 m.nf g2] 36);have Mp:=(EM.block _ (AmA ZR)).trans ZR;have hst:=Ai3 (r1.ext EM) (r2.ext EM) (r3.ext EM) (hX.trans EM) Mp hb0 (.slice A2 m.pts.length c2) (.slice B2 m.eds.length d2) (.slice F2 m.nf g2) _ rfl;have q0:=Ab (o:=0) Mp rfl;have q1:=Ab (o:=1) Mp rfl;have q2:=Ab (o:=2) Mp rfl;have q3:=AV (o:=0) Mp;have q4:=AV (o:=1) Mp;have q5:=AV (o:=2) Mp;have t1:=Ab (o:=0) hst.2.2.2.2 rfl;have t2:=Ab (o:=1) hst.2.2.2.2 rfl;have t3:=Ab (o:=2) hst.2.2.2.2 rfl;have HST:=Am9 (And.intro hst (And.intro Cw r4));clear hst Cw r1 r2 r3 r4 hx2 Ac Eo ZR Mp;unfold Dk;go_wp2;refine bodyPost_ret (v:=.agg #[.slice A2 m.pts.length c2,.slice B2 m.eds.length d2,.slice F2 m.nf g2]) (by simp [results,Tryz.results11,go_sem,t1,t2,t3]) rfl ?_;exact⟨A2,B2,F2,c2,d2,g2,rfl,HST.out.2.1,HST.out.1.1,HST.out.1.2.1,HST.out.1.2.2.1,HST.out.2.2,HST.out.1.2.2.2.1⟩
theorem Aj2:Jk [[66],[65],[120]]=str3:=rfl
theorem Aj1:Jk [[97]]=Jj:=rfl
theorem Aj6(A:Option Addr)(c:Nat)(w:World)(hw:An w)(hr:Ae w A [S [66],S [65],S [120]])(hc:3<=c)(hcm:c<=9223372036854775807) :
  Calls Tryz.prog 11 #[.slice A 3 c] w (TU w Lj [[66],[65],[120]]):=
 mh [[66],[65],[120]] (by simp) (fun A c w hw h=>Aaf A c w hw (by rw [Aj2]at h;exact h)) A c w hw hr hc hcm
theorem Aj5(A:Option Addr)(c:Nat)(w:World)(hw:An w)(hr:Ae w A [S [97]])(hc:1<=c)(hcm:c<=9223372036854775807) :
  Calls Tryz.prog 11 #[.slice A 1 c] w (TU w MI [[97]]):=
 mh [[97]] (by simp) (fun A c w hw h=>Aae A c w hw (by rw [Aj1]at h;exact h)) A c w hw hr hc hcm
end Go.Proofs.YtjalkoacphhgdaaGreatDoor
namespace Kl
def c3:List La:=[⟨[65],[49],[50]⟩,⟨[66],[48],[51]⟩,⟨[67],[49],[]⟩]
def f3:List Bs:=[[66],[65],[120]]
def e3:List En:=[⟨[66],[97],1,[48,32,116,111,32,51]⟩,⟨[65],[98],2,[49,32,116,111,32,50]⟩,⟨[120],[99],3,[]⟩]
theorem AjX(F:List Bs):Fc F=Go.Lib.compact (Ez (fun x y=>decide (x<=y)) F.length (F.filter (fun s=>s != []))):=by
 unfold Fc;rw [NZ _ _ _ (List.length_filter_le _ _)]
theorem Ajd(c:List La)(l:List Bs):Jg c l=Ez (fun x y=>!decide (DR c y x<0)) l.length l:=by
 rw [NZ _ _ _ (Nat.le_refl _)]
 rfl
theorem nh:Fc f3 = [[65],[66],[120]]:=by rw [AjX];decide +kernel
theorem li:Jg c3 [[65],[66],[120]] = [[66],[65],[120]]:=by rw [Ajd];decide +kernel
theorem nP:Ds c3 [[66],[65],[120]]=e3:=by decide +kernel
theorem AbK:QU c3 f3=0:=by
 unfold QU;rw [nh,li,nP]
 decide +kernel
theorem Aay:BK e3=0:=by decide +kernel
theorem Ahf:IZ c3 [⟨[65],[98],2,[49,32,116,111,32,50]⟩,⟨[66],[97],1,[48,32,116,111,32,51]⟩]=some 1:=by decide +kernel
theorem Aaw:BK [⟨[65],[98],2,[49,32,116,111,32,50]⟩,⟨[66],[97],1,[48,32,116,111,32,51]⟩]=0:=by decide +kernel
theorem AfO:e3.map Fv = [[97,32,66,32,112,108,97,105,110,58,32,48,32,116,111,32,51],[98,32,65,32,100,111,116,115,58,32,49,32,116,111,32,50],[99,32,120,32,100,97,115,104,101,115]]:=by decide +kernel
theorem wd:R 0 = [48]:=by decide +kernel
theorem wh:R 1 = [49]:=by decide +kernel
theorem kW:R 2 = [50]:=by decide +kernel
theorem kX:R 3 = [51]:=by decide +kernel
theorem AgW:BJ (R 0):=⟨0,rfl,by decide +kernel,by decide +kernel⟩
theorem eu:BJ (R 1):=⟨1,rfl,by decide +kernel,by decide +kernel⟩
theorem AgX:BJ (R 2):=⟨2,rfl,by decide +kernel,by decide +kernel⟩
theorem AgY:BJ (R 3):=⟨3,rfl,by decide +kernel,by decide +kernel⟩
theorem nO:LV c3=0:=by
 have h1:colS [] ⟨[65],R 1,(some (2:Rat)).elim [] R⟩=0:=Y7 eu (by rintro q ⟨rfl⟩;exact⟨AgX,by rw [kW];decide,by decide +kernel⟩) (by decide +kernel) (by simp) (by decide +kernel);have h2:colS [⟨[65],R 1,R 2⟩] ⟨[66],R 0,(some (3:Rat)).elim [] R⟩=0:=Y7 AgW (by rintro q ⟨rfl⟩;exact⟨AgY,by rw [kX];decide,by decide +kernel⟩) (by decide +kernel) (by intro y hy;rw [List.mem_singleton.1 hy];simp) (by decide +kernel);have h3:colS [⟨[65],R 1,R 2⟩,⟨[66],R 0,R 3⟩] ⟨[67],R 1,(none:Option Rat).elim [] R⟩=0:=Y7 eu (by intro q h;cases h) (by decide +kernel) (by intro y hy;simp only [List.mem_cons,List.not_mem_nil,or_false]at hy;rcases hy with rfl|rfl<;>simp) (by decide +kernel);simp only [Option.elim_some,Option.elim_none]at h1 h2 h3;rw [wd,wh,kW,kX]at *;unfold LV c3;rw [if_neg (by decide),if_neg (by decide)];simp only [Kr,h1,if_true,List.nil_append,h2,List.cons_append,h3]
end Kl
namespace Go.Proofs.YtjalkoacphhgdaaGreatDoor
open Go.RowKit Kl
theorem AaJ{w w':World}{e:Ending}(h:Iu c3 f3 w e w'):∃A c,e=.returned (.tuple #[.slice A 3 c,.int .i64 0])/\Ae w' A (Bg e3)/\3<=c/\c<=9223372036854775807/\Aa w w':=by
 unfold Iu at h;rw [AbK,if_pos rfl,nh,li,nP]at h;exact h
theorem zS{l:List En}(h:l.all (fun e=>decide (e.u.length<1000000)&&(decide (e.s.length<1000000)&&decide (e.t.length<1000000)))=true):∀e∈l,If e:=by
 intro e he;have:=List.all_eq_true.1 h e he;simp only [Bool.and_eq_true,decide_eq_true_eq]at this;exact⟨this.1,this.2.1,this.2.2⟩
def Rf:En:=⟨[65],[98],2,[49,32,116,111,32,50]⟩
def Re:En:=⟨[66],[97],1,[48,32,116,111,32,51]⟩
theorem zN(w:World)(hw:An w):Calls Tryz.prog 8 #[] w (Br true w):=by
 have hL:=AmB w (.cells #[S [65],S [49],S [50],S [66],S [48],S [51],S [67],S [49],S []] 31);have hE:=(Aa.refl w).alloc (.cells #[S [65],S [49],S [50],S [66],S [48],S [51],S [67],S [49],S []] 31);have hR:Ae (w.alloc (.cells #[S [65],S [49],S [50],S [66],S [48],S [51],S [67],S [49],S []] 31)) (some ⟨w.heap.size,0,none⟩) (C9 c3):=Ae.lit w #[S [65],S [49],S [50],S [66],S [48],S [51],S [67],S [49],S []] 31;have Ga:=Am9 hR;clear hL hR;go_enter Tryz.func8,Tryz.ntmps8
 go_upto_region 2 with fail
 generalize w.alloc (.cells #[.string ⟨[65].toArray⟩,.string ⟨[49].toArray⟩,.string ⟨[50].toArray⟩,.string ⟨[66].toArray⟩,.string ⟨[48].toArray⟩,.string ⟨[51].toArray⟩,.string ⟨[67].toArray⟩,.string ⟨[49].toArray⟩,.string ⟨[].toArray⟩] 31)=V at *;obtain⟨bc,RI⟩:=Am8 w.heap.size;rw [←RI]at Ga ⊢;clear RI;have S9:=hw.ext hE;have hx0:=(Aa.refl V).alloc (.cells #[S [66],S [65],S [120]] 9)
 obtain⟨m,hm1,IM,wA⟩:∃m,I3 m=0/\(∀p∈m.pts,DL p)/\Calls Tryz.prog 11 #[.slice (some ⟨V.heap.size,0,none⟩) 3 3] (V.alloc (.cells #[S [66],S [65],S [120]] 9)) (TU (V.alloc (.cells #[S [66],S [65],S [120]] 9)) m [[66],[65],[120]]):=
  ⟨Lj,Aa4,Acn,Aj6 (some ⟨V.heap.size,0,none⟩) 3 _ (S9.ext hx0) (Ae.lit V #[S [66],S [65],S [120]] 9) (by omega) (by omega)⟩
 have HM:=Am9 (And.intro hm1 IM);clear hm1 IM;(go_wp2_with fail);(with_reducible refine wA.mono ?_);rintro e w1 ⟨A1,B1,F1,c1,d1,g1,rfl,Cw,r1,r2,r3,r4,hx1⟩;have X1:=hx0.trans hx1;have hw1:=S9.ext X1;have HC:=Am9 Cw
 have cp:=(AaP c3 (some ⟨bc,0,none⟩) 3 m f3 A1 B1 F1 c1 d1 g1 w1 (Ga.out.ext X1) (by decide) (by omega) r3 r4 (by decide) (by decide) (by decide)
  (fun W hx=>by
   have:=Y6 c3 (some ⟨bc,0,none⟩) 3 W (hw1.ext hx) ((Ga.out.ext X1).ext hx) (by decide) (by omega) (by
    intro y hy;simp only [c3,List.mem_cons,AmN,or_false]at hy
    rcases hy with rfl|rfl|rfl<;>(refine⟨?_,?_,?_⟩<;>decide))
   rw [nO]at this
   exact this)
  (fun W hx=>by
   have:=Ahy m HM.out.2 A1 B1 F1 c1 d1 g1 HC.out W (hw1.ext hx) (r1.ext hx) (r2.ext hx);rw [HM.out.1]at this
   exact this)).mono (fun _ _ h=>AaJ h)
 have oV:c3.length=3:=rfl;rw [oV]at cp;unfold Dk at cp ⊢;clear r1 r2 r3 r4 Cw oV wA hx0 hx1;(go_wp2_with fail);(with_reducible refine cp.mono ?_);rintro e w2 ⟨A2,c2,rfl,rd2,hc2,hc2',hx2⟩;have X2:=X1.trans hx2;have hl3:∀e∈e3,If e:=zS (by decide +kernel)
 have tx:Calls Tryz.prog 15 #[.slice A2 3 c2] w2 (fun e w'=>∃A c,e=.returned (.tuple #[.slice A 3 c,.int .i64 0])/\Ae w' A ((e3.map Fv).map S)/\Aa w2 w'):=(AjH e3 A2 c2 w2 rd2 hc2 hc2' hl3 Aay).mono (by
  rintro e w' ⟨A,c,he,h1,h2,h3,h4⟩
  exact⟨A,c,he,h1,h4⟩)
 have HL3:=Am9 hl3;have sr:=Am9 rd2;clear cp hx2 hl3 rd2;(go_wp2_with fail);(with_reducible refine tx.mono ?_);rintro e w3 ⟨A3,Yv,rfl,rd3,hx3⟩;have X3:=X2.trans hx3;have hw3:=S9.ext X3;obtain⟨b,o,rfl,hv⟩:=(sr.out.ext hx3).ad (by decide);have q0:w3.cell? ⟨b,o,none⟩=some (S [66]):=hv 0 (by decide);have q1:w3.cell? ⟨b,o+1,none⟩=some (S [97]):=hv 1 (by decide);have q2:w3.cell? ⟨b,o+2,none⟩=some (.int .i64 1):=hv 2 (by decide);have q3:w3.cell? ⟨b,o+3,none⟩=some (S [48,32,116,111,32,51]):=hv 3 (by decide);have q4:w3.cell? ⟨b,o+4,none⟩=some (S [65]):=hv 4 (by decide);have q5:w3.cell? ⟨b,o+5,none⟩=some (S [98]):=hv 5 (by decide);have q6:w3.cell? ⟨b,o+6,none⟩=some (.int .i64 2):=hv 6 (by decide);have q7:w3.cell? ⟨b,o+7,none⟩=some (S [49,32,116,111,32,50]):=hv 7 (by decide);clear tx hx3 hv
 have od:∀W,Aa w3 W→∀g,W.heap[g]?=some (.cells #[S [65],S [98],.int .i64 2,S [49,32,116,111,32,50],S [66],S [97],.int .i64 1,S [48,32,116,111,32,51]] 40)→
   Calls Tryz.prog 19 #[.slice (some ⟨g,0,none⟩) 2 2,.slice (some ⟨bc,0,none⟩) 3 3] W (Ce (.tuple #[.int .i64 1,.bool false,.int .i64 0]) W):=by
  intro W hx g hg;have hr:Ae W (some ⟨g,0,none⟩) (Bg [Rf,Re]):=Ae.blk hg;have hB:=Ga.out.ext (X3.trans hx)
  have op:=ey [Rf,Re] (some ⟨g,0,none⟩) 2 0 (.slice (some ⟨bc,0,none⟩) 3 3) W hr (by decide) (by omega) (zS (by decide +kernel)) (fun W' hx'=>by
   have:=Y6 c3 (some ⟨bc,0,none⟩) 3 W' (hw3.ext (hx.trans hx')) (hB.ext hx') (by decide) (by omega) (by
    intro y hy;simp only [c3,List.mem_cons,AmN,or_false]at hy
    rcases hy with rfl|rfl|rfl<;>(refine⟨?_,?_,?_⟩<;>decide))
   rw [nO]at this
   exact this)
  have hch:BK [Rf,Re]=0:=Aaw;rw [hch,if_pos rfl]at op;have h:=Ahj [Rf,Re] (some ⟨g,0,none⟩) 2 c3 (some ⟨bc,0,none⟩) 3 W hr (by decide) hB (by decide) (by omega) op;have ho:IZ c3 [Rf,Re]=some 1:=Ahf;rw [ho]at h;exact h
 go_upto_region 6 with fail
 go_region_held3 (fun w'=>w'.cell? ⟨b,o,none⟩=some (S [66])/\w'.cell? ⟨b,o+1,none⟩=some (S [97])/\w'.cell? ⟨b,o+2,none⟩=some (.int .i64 1)/\w'.cell? ⟨b,o+3,none⟩=some (S [48,32,116,111,32,51])/\w'.cell? ⟨b,o+4,none⟩=some (S [65])/\w'.cell? ⟨b,o+5,none⟩=some (S [98])/\w'.cell? ⟨b,o+6,none⟩=some (.int .i64 2)/\w'.cell? ⟨b,o+7,none⟩=some (S [49,32,116,111,32,50]))
  (go_keep)
  (first|((with_reducible refine(od _ ((Aa.refl w3).alloc _).drew _ (AmB _ _)).mono ?_);rintro e w6 ⟨rfl,AH⟩;have X6:Aa w3 w6:=((Aa.refl w3).alloc _).drew.trans AH;have g0:=X6.cellS q0;have g1:=X6.cellS q1;have g2:=X6.cellS q2;have g3:=X6.cellS q3;have g4:=X6.cellS q4;have g5:=X6.cellS q5;have g6:=X6.cellS q6;have g7:=X6.cellS q7))
 have X7:=X3.trans X6
 have bD:Ae w6 A3 ([S [97,32,66,32,112,108,97,105,110,58,32,48,32,116,111,32,51],S [98,32,65,32,100,111,116,115,58,32,49,32,116,111,32,50],S [99,32,120,32,100,97,115,104,101,115]]):=by have:=rd3.ext X6;rw [AfO]at this;exact this
 have ME:=(Aa.refl w6).alloc (.cells #[S [97,32,66,32,112,108,97,105,110,58,32,48,32,116,111,32,51],S [98,32,65,32,100,111,116,115,58,32,49,32,116,111,32,50],S [99,32,120,32,100,97,115,104,101,115]] 9);have eq:Calls Tryz.prog 17 #[.slice A3 3 Yv,.slice (some ⟨w6.heap.size,0,none⟩) 3 3] (w6.alloc (.cells #[S [97,32,66,32,112,108,97,105,110,58,32,48,32,116,111,32,51],S [98,32,65,32,100,111,116,115,58,32,49,32,116,111,32,50],S [99,32,120,32,100,97,115,104,101,115]] 9)) (Br true (w6.alloc (.cells #[S [97,32,66,32,112,108,97,105,110,58,32,48,32,116,111,32,51],S [98,32,65,32,100,111,116,115,58,32,49,32,116,111,32,50],S [99,32,120,32,100,97,115,104,101,115]] 9))):=AbJ [[97,32,66,32,112,108,97,105,110,58,32,48,32,116,111,32,51],[98,32,65,32,100,111,116,115,58,32,49,32,116,111,32,50],[99,32,120,32,100,97,115,104,101,115]] A3 (some ⟨w6.heap.size,0,none⟩) Yv 3 _ (bD.ext ME) (Ae.lit w6 #[S [97,32,66,32,112,108,97,105,110,58,32,48,32,116,111,32,51],S [98,32,65,32,100,111,116,115,58,32,49,32,116,111,32,50],S [99,32,120,32,100,97,115,104,101,115]] 9) (by decide);have CC:=Am9 (hE.trans X7);clear rd3 bD g0 g1 g2 g3 g4 g5 g6 g7 q0 q1 q2 q3 q4 q5 q6 q7 od;(go_wp2_with fail);(with_reducible refine eq.mono ?_);rintro e w7 ⟨rfl,AB⟩;go_wp2;go_ret;exact⟨rfl,CC.out.trans (ME.trans AB)⟩
end Go.Proofs.YtjalkoacphhgdaaGreatDoor
