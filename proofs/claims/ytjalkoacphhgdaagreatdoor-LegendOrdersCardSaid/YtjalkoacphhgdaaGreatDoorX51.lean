/- X51: BX BY BZ LGX LGY LGA LO14 LO15. -/
import Derived.Test.YtjalkoacphhgdaaGreatDoorX46
import Derived.Test.YtjalkoacphhgdaaGreatDoorX49
import Derived.Test.YtjalkoacphhgdaaGreatDoorX50
set_option maxRecDepth 100000
set_option maxHeartbeats 16000000
namespace Kl
section
variable {α : Type} (le : α → α → Bool)
def Nz:Nat→List α→List α→List α
 | 0,xs,ys=>xs++ys
 | _+1,[],ys=>ys
 | _+1,x::xs,[]=>x::xs
 | n+1,x::xs,y::ys=>if le x y then x::Nz n xs (y::ys)else y::Nz n (x::xs) ys
theorem jR:∀(n:Nat) (xs ys:List α),xs.length+ys.length<=n→Nz le n xs ys=List.merge xs ys le
 | 0,[],[],_=>by simp [Nz]
 | 0,_::_,_,h=>by simp at h
 | 0,[],_::_,h=>by simp at h
 | n+1,[],ys,_=>by simp [Nz]
 | n+1,x::xs,[],_=>by simp [Nz]
 | n+1,x::xs,y::ys,h=>by simp only [List.length_cons]at h;rw [Nz,List.cons_merge_cons,jR n xs (y::ys) (by simp;omega),jR n (x::xs) ys (by simp;omega)]
def EP:Nat→List α→List α
 | 0,l=>l
 | _+1,[]=>[]
 | _+1,[a]=>[a]
 | n+1,a::b::l=>Nz le (l.length+2) (EP n ((a::b::l).take ((l.length+3) / 2))) (EP n ((a::b::l).drop ((l.length+3) / 2)))
theorem OJ:∀(n:Nat) (l:List α),l.length<=n→EP le n l=l.mergeSort le
 | 0,[],_=>by simp [EP]
 | 0,_::_,h=>by simp at h
 | n+1,[],_=>by simp [EP]
 | n+1,[a],_=>by simp [EP]
 | n+1,a::b::l,h=>by
  simp only [List.length_cons]at h;have h1:((a::b::l).take ((l.length+3)/2)).length<=n:=(by simp only [List.length_take,List.length_cons];omega);have h2:((a::b::l).drop ((l.length+3)/2)).length<=n:=(by simp only [List.length_drop,List.length_cons];omega);have h3:((a::b::l).take ((l.length+3)/2)).length+((a::b::l).drop ((l.length+3)/2)).length<=l.length+2:=(by simp only [List.length_take,List.length_drop,List.length_cons];omega);rw [EP,OJ n _ h1,OJ n _ h2,jR _ _ _ _ (by rw [List.length_mergeSort,List.length_mergeSort];exact h3)];rw [List.mergeSort];simp only [List.MergeSort.Internal.splitInTwo_fst,List.MergeSort.Internal.splitInTwo_snd]
  rfl
end
end Kl
namespace Go.Proofs.YtjalkoacphhgdaaGreatDoor
open Go.RowKit Kl
def Xu(x y:Pt):Bool:=!decide (Be y x<0)
def TL(x y:Sg):Bool:=!decide (FO y x<0)
def jK(p x y:Pt):Bool:=!decide (Dh p y x<0)
theorem ym(l:List Pt):ES l=EP Xu l.length l:=(OJ Xu _ l (AqK _)).symm
theorem mQ(l:List Sg):BA l=EP TL l.length l:=(OJ TL _ l (AqK _)).symm
theorem Ann(p:Pt)(l:List Pt):Ea p l=EP (jK p) l.length l:=(OJ (jK p) _ l (AqK _)).symm
def PC(W:List Sg)(R0:List (Pt×List Pt)):List (List Sg):=((EP TL W.length W).foldl (Gb W.length R0) ([],[])).2
theorem tM(W:List Sg)(R0:List (Pt×List Pt)):Is W R0=PC W R0:=by unfold Is PC;rw [mQ]
def mK(p:List Pt)(s:Pt×Pt):Bool:=p.all (fun x=>decide (0<=Al s.1 s.2 x))&&p.any (fun x=>decide (0<Al s.1 s.2 x))
def Ym(p:List Pt)(s:Pt×Pt):Bool:=p.all (fun x=>decide (Al s.1 s.2 x<=0))
theorem AmM{p:List Pt}{s:Pt×Pt}(h:mK p s=true):LY p s:=by
 unfold mK at h;rw [Bool.and_eq_true,List.all_eq_true,List.any_eq_true]at h;obtain⟨h1,x,hx,h2⟩:=h;exact⟨fun x hx=>of_decide_eq_true (h1 x hx),x,hx,of_decide_eq_true h2⟩
theorem xh{p:List Pt}{s:Pt×Pt}(h:Ym p s=true):Kx p s:=by
 unfold Ym at h;rw [List.all_eq_true]at h;exact fun x hx=>of_decide_eq_true (h x hx)
def lD(l:List Pt):Bool:=decide (3<=l.length)&&(decide (l.length<=60)&&((List.range l.length).all (fun i=>(List.range l.length).all (fun n=>n == i||(n == (i+1)%l.length||decide (0<Al (l.getD i ⟨0,0⟩) (l.getD ((i+1)%l.length) ⟨0,0⟩) (l.getD n ⟨0,0⟩)))))&&(List.range (l.length-1)).all (fun n=>!decide (Be (l.getD (n+1) ⟨0,0⟩) (l.getD 0 ⟨0,0⟩)<0))))
theorem getD_at{α:Type}(l:List α)(d:α){i:Nat}(h:i<l.length):l.getD i d=l[i]:=by rw [List.getD_eq_getElem?_getD,AqP h];rfl
theorem uf{l:List Pt}(h:lD l=true):NP l:=by
 unfold lD at h;simp only [Bool.and_eq_true,List.all_eq_true,decide_eq_true_eq,List.mem_range,Bool.or_eq_true,beq_iff_eq,Bool.not_eq_true',decide_eq_false_iff_not]at h;obtain⟨h1,h2,h3,h4⟩:=h;refine⟨h1,h2,?_,?_⟩
 ·intro i n hi hn h5 h6;have:=h3 i hi n hn;rw [getD_at l _ hi,getD_at l _ hn,getD_at l _ (Nat.mod_lt _ (by omega))]at this
  rcases this with k|k|k
  ·exact absurd k h5
  ·exact absurd k h6
  ·exact k
 ·intro n hn;have:=h4 n (by omega);rw [getD_at l _ hn,getD_at l _ (by omega:0<l.length)]at this;exact this
def Mc(p:Pt):Bool:=decide (p.x.num.natAbs<10^200)&&(decide (p.x.den<10^200)&&(decide (p.y.num.natAbs<10^200)&&decide (p.y.den<10^200)))
theorem OS{p:Pt}(h:Mc p=true):Ar 200 p:=by
 unfold Mc at h;simp only [Bool.and_eq_true,decide_eq_true_eq]at h;exact⟨⟨h.1,h.2.1⟩,⟨h.2.2.1,h.2.2.2⟩⟩
def Vy(p:Pt):Bool:=decide ((p.x*2).den=1)&&(decide ((p.x*2).num.natAbs<=1000000)&&(decide ((p.y*2).den=1)&&decide ((p.y*2).num.natAbs<=1000000)))
theorem yE{q:Rat}(h1:(q*2).den=1)(h2:(q*2).num.natAbs<=1000000):Rv q:=by
 refine⟨(q*2).num,h2,?_⟩
 have:((q*2).num:Rat)=q*2:=by
  refine Rat.ext ?_ ?_
  ·rw [Rat.num_intCast]
  ·rw [Rat.den_intCast,h1]
 rw [this];grind
theorem wB{p:Pt}(h:Vy p=true):Ee p:=by
 unfold Vy at h;simp only [Bool.and_eq_true,decide_eq_true_eq]at h;exact⟨yE h.1 h.2.1,yE h.2.2.1 h.2.2.2⟩
def Gy(P:List (List Pt×Bs)):List Pt:=Lib.compact (EP Xu (Dp P P.length).length (Dp P P.length))
theorem AdZ(P:List (List Pt×Bs)):RX P=Gy P:=by unfold RX Gy;rw [ym]
def XN:List Sg→Bool
 | []=>true
 | s::l=>!l.any (AL s) && XN l
theorem pj:∀{l:List Sg},XN l=true→l.Nodup
 | [],_=>List.nodup_nil
 | s::l,h=>by rw [XN,Bool.and_eq_true,Bool.not_eq_true']at h;rw [List.nodup_cons];exact⟨qP.1 h.1,pj h.2⟩
def Ug(P:List (List Pt×Bs)):Bool:=
 decide (0<P.length)&&(decide (P.length<=1000)&&(P.all (fun e=>lD e.1&&e.1.all Mc) &&
 (P.all (fun e=>(List.range e.1.length).all (fun k=>decide ((Gy P).filter (fun q=>GM (Gu e.1 k).a (Gu e.1 k).b q)=Sm (Gu e.1 k)))) &&
 (XN ((BC P P.length).map (·.1)) &&
 ((List.range P.length).all (fun i=>(List.range i).all (fun k=>(List.range (P.getD k ([],[])).1.length).all (fun j=>mK (P.getD i ([],[])).1 (B6 (P.getD k ([],[])).1 j)||Ym (P.getD i ([],[])).1 (B6 (P.getD k ([],[])).1 j))&&(List.range (P.getD k ([],[])).1.length).any (fun j=>Ym (P.getD i ([],[])).1 (B6 (P.getD k ([],[])).1 j)))) &&
 ((BC P P.length).all (fun e=>decide (0<=e.2/\e.2<(P.length:Int))&&(Mc e.1.a&&Mc e.1.b)&&(match lookO (AW e.1) (BC P P.length)with|none=>true|some z=>decide (0<=z/\z<(P.length:Int))&&decide ((P.getD e.2.toNat ([],[])).2≠(P.getD z.toNat ([],[])).2))) &&
 decide ((BC P P.length).length<=10000)))))))
theorem Alm{P:List (List Pt×Bs)}(h:Ug P=true):nG P:=by
 unfold Ug at h;simp only [Bool.and_eq_true,List.all_eq_true,decide_eq_true_eq,List.mem_range]at h;obtain⟨-,h1,h2,h3,h4,h5,-,-⟩:=h;refine⟨⟨h1,fun e he=>?_,fun e he p hp=>OS ((h2 e he).2 p hp),fun e he k hk=>?_,pj h4⟩,fun e he=>uf (h2 e he).1,?_⟩
 ·have:=uf (h2 e he).1;exact⟨by have:=this.n3;omega,this.n60⟩
 ·rw [AdZ];exact h3 e he k hk
 ·intro i k hi hk;obtain⟨ha,hb⟩:=h5 i hi k hk;rw [getD_at P _ hi,getD_at P _ (by omega:k<P.length)]at ha hb;rw [List.any_eq_true]at hb;obtain⟨j,hj,hb⟩:=hb;refine⟨fun j hj=>?_,j,List.mem_range.1 hj,xh hb⟩;have:=ha j hj;rw [Bool.or_eq_true]at this;exact this.imp AmM xh
instance sgDec:DecidableEq Sg:=fun s t=>decidable_of_iff (AL s t=true) II
def IG(pts:List Pt)(eds:List Az):List (Pt×List Pt):=(C7 pts eds).map (fun e=>(e.1,EP (jK e.1) e.2.length e.2))
theorem wd(pts:List Pt)(eds:List Az):IG pts eds=(C7 pts eds).map (fun e=>(e.1,Ea e.1 e.2)):=by
 unfold IG;refine List.map_congr_left fun e _=>?_;rw [Ann]
def Acd(pts:List Pt)(eds:List Az)(n:Nat):DL:=KR (AO pts eds) n (PC ((AO pts eds).map (·.1)) (IG pts eds)) (Kv ((AO pts eds).map (·.1)) (PC ((AO pts eds).map (·.1)) (IG pts eds)))
def o5(e:Pt×List Pt):Bool:=match e.2 with
 | [p,q]=>decide (AH (Al p e.1 q)≠0)
 | _=>true
def XK(pts:List Pt)(eds:List Az)(n:Nat):Bool:=
 decide (CV [] pts=0)&&(decide (Dg pts.length n [] eds=0)&&(decide (DU pts [] eds=0)&&(pts.all Vy&&(decide (eds.length<=1000)&&(!(Acd pts eds n).op &&
 ((IG pts eds).all (fun e=>Mc e.1&&(e.2.all Mc&&(decide (e.2.length<100000)&&o5 e)))&&(decide ((IG pts eds).length<=400)&&(decide ((IG pts eds).map (·.1)).Nodup &&
 ((AO pts eds).all (fun e=>Mc e.1.a&&Mc e.1.b)&&(AO pts eds).all (fun e=>(AO pts eds).any (fun e'=>AL e'.1 (AW e.1))))))))))))
theorem Akk{pts:List Pt}{eds:List Az}{n:Nat}(h:XK pts eds n=true):pN pts eds n (IG pts eds):=by
 unfold XK at h;simp only [Bool.and_eq_true,List.all_eq_true,decide_eq_true_eq,Bool.not_eq_true']at h;obtain⟨h1,h2,h3,h4,h5,h6,h7,h8,h9,h10,h11⟩:=h;have hg:∀p∈pts,Ee p:=fun p hp=>wB (h4 p hp);have he:=uH h1 h2;refine⟨he,h5,oy he hg h3,kB he hg,ox h2,wd pts eds,?_,fun e k=>⟨OS (h7 e k).1,fun p hp=>OS ((h7 e k).2.1 p hp)⟩,h8,fun e k=>(h7 e k).2.2.1,h9,?_,fun e k=>⟨OS (h10 e k).1,OS (h10 e k).2⟩,?_⟩
 ·rw [tM];exact h6
 ·intro e k p q Kh;have:=(h7 e k).2.2.2;unfold o5 at this;rw [Kh]at this;exact of_decide_eq_true this
 ·intro e k;have:=h11 e k;rw [List.any_eq_true]at this;obtain⟨x,hx,hs⟩:=this;exact⟨x,hx,II.1 hs⟩
def nB(P:List (List Pt×Bs)):List Sg:=EP TL ((BC P P.length).map (·.1)).length ((BC P P.length).map (·.1))
def KZ(P:List (List Pt×Bs)):List Az:=(Ef (BC P P.length) (nB P)).map (fun x=>⟨GK x.1.a (BR (Gy P)),GK x.1.b (BR (Gy P)),x.2.1,x.2.2⟩)
def Yb(P:List (List Pt×Bs)):List Pt:=EP Xu ((IG (Gy P) (KZ P)).map (·.1)).length ((IG (Gy P) (KZ P)).map (·.1))
def QS(P:List (List Pt×Bs)):GT:=IW (P.map (·.2)) (BR (Yb P)) (AO (Gy P) (KZ P)) (EP TL ((AO (Gy P) (KZ P)).map (·.1)).length ((AO (Gy P) (KZ P)).map (·.1)))
def jP(P:List (List Pt×Bs)):Cw:=⟨Yb P,(QS P).ed,(QS P).fa.length⟩
def qF(P:List (List Pt×Bs)):Bool:=decide (Ef (BC P P.length) (nB P)=(KZ P).map (fun e=>(Bh (Gy P) e,e.l,e.r)))
theorem AcX(P:List (List Pt×Bs))(h1:Ug P=true)(h2:XK (Gy P) (KZ P) P.length=true)(h3:qF P=true)(A:Option Addr)(c:Nat)(w:World)(hw:Am w)(h:KI w A c P) :
  Calls Tryz.prog 44 #[.slice A P.length c] w (Uy w (jP P) (QS P).fa):=by
 have hp:=h1;unfold Ug at h1;simp only [Bool.and_eq_true,List.all_eq_true,decide_eq_true_eq]at h1;obtain⟨g0,-,-,-,-,-,g6,g7⟩:=h1;have ha:Ef (BC P P.length) (nB P)=(KZ P).map (fun e=>(Bh (Gy P) e,e.l,e.r)):=of_decide_eq_true h3;refine AcW P (Alm hp) g0 ?_ (fun e k=>⟨OS (g6 e k).1.2.1,OS (g6 e k).1.2.2⟩) g7 (by rw [mQ];exact ha) (Akk h2) (pts:=Yb P) (by rw [ym];rfl) (st:=QS P) (by rw [mQ];rfl) A c w hw h;intro e k;obtain⟨⟨g1,-⟩,g3⟩:=g6 e k;refine⟨g1.1,g1.2,fun z hz=>?_⟩;rw [hz]at g3;simp only [Bool.and_eq_true,decide_eq_true_eq]at g3;exact⟨g3.1.1,g3.1.2,g3.2⟩
def OR(i:Rat):List Pt:=[⟨i,0⟩,⟨i+1,0⟩,⟨i+1,1⟩,⟨i,1⟩]
def str3:List (List Pt×Bs):=[(OR 0,[66]),(OR 1,[65]),(OR 2,[120])]
set_option maxRecDepth 100000
theorem An6:Ug str3=true:=by decide +kernel
theorem An4:qF str3=true:=by decide +kernel
theorem An5:XK (Gy str3) (KZ str3) 3=true:=by decide +kernel
set_option maxRecDepth 100000
def LM:Cw:=⟨[⟨0,0⟩,⟨0,1⟩,⟨1,0⟩,⟨1,1⟩,⟨2,0⟩,⟨2,1⟩,⟨3,0⟩,⟨3,1⟩],[⟨0,1,-1,0⟩,⟨0,2,0,-1⟩,⟨1,3,-1,0⟩,⟨2,3,0,1⟩,⟨2,4,1,-1⟩,⟨3,5,-1,1⟩,⟨4,5,1,2⟩,⟨4,6,2,-1⟩,⟨5,7,-1,2⟩,⟨6,7,2,-1⟩],3⟩
def aI(e:Az):Int×Int×Int×Int:=(e.f,e.t,e.l,e.r)
theorem uG:∀{l m:List Az},l.map aI=m.map aI→l=m
 | [],[],_=>rfl
 | [],_::_,h=>by cases h
 | _::_,[],h=>by cases h
 | ⟨a,b,c,d⟩::l,⟨a',b',c',d'⟩::m,h=>by rw [List.map_cons,List.map_cons,List.cons.injEq]at h;obtain⟨h1,h2⟩:=h;simp only [aI,Prod.mk.injEq]at h1;obtain⟨rfl,rfl,rfl,rfl⟩:=h1;rw [uG h2]
theorem yw:(QS str3).fa = [[66],[65],[120]]:=by decide +kernel
theorem AjE:jP str3=LM:=by
 have h1:Yb str3=LM.pts:=(by decide +kernel);have h2:(QS str3).ed=LM.eds:=uG (by decide +kernel);unfold jP;rw [h1,h2,yw];rfl
theorem AcV(A:Option Addr)(c:Nat)(w:World)(hw:Am w)(h:KI w A c str3) :
  Calls Tryz.prog 44 #[.slice A 3 c] w (Uy w LM [[66],[65],[120]]):=by
 have:=AcX str3 An6 An5 An4 A c w hw h;rw [AjE,yw]at this;exact this
def sS(m:Cw):Bool:=!M6 m&&(decide (CV [] m.pts=0)&&(decide (Dg m.pts.length m.nf [] m.eds=0)&&(decide (DU m.pts [] m.eds=0)&&(!Sp (C7 m.pts m.eds) m.pts&&Mx (AO m.pts m.eds) m.nf (PC ((AO m.pts m.eds).map (·.1)) (IG m.pts m.eds)) (Kv ((AO m.pts m.eds).map (·.1)) (PC ((AO m.pts m.eds).map (·.1)) (IG m.pts m.eds)))))))
theorem Ad4{m:Cw}(h:sS m=true):IX m=0:=by
 unfold sS at h;simp only [Bool.and_eq_true,decide_eq_true_eq,Bool.not_eq_true']at h;obtain⟨h1,h2,h3,h4,h5,h6⟩:=h
 have e:Mx (AO m.pts m.eds) m.nf (OK m) (Q7 m)=true:=by unfold Q7 OK kA jZ;rw [←wd,tM];exact h6
 unfold IX ZQ;rw [if_neg (by rw [h1];simp),if_neg (by omega),if_neg (by omega),if_neg (by omega),if_neg (by rw [h5];simp),if_pos e]
theorem Ad6:IX LM=0:=Ad4 (by decide +kernel)
theorem Af8:∀p∈LM.pts,Ee p:=fun p hp=>wB ((List.all_eq_true.1 (by decide +kernel:LM.pts.all Vy=true)) p hp)
theorem UX(x y:Int)(hx:x.natAbs<10000000)(hy:y.natAbs<10000000)(w:World)(hw:Am w) :
  Calls Tryz.prog 43 #[.int .i64 x,.int .i64 y] w (De (Ak ⟨x,y⟩) w):=by
 have o1:∀W,Am W→Calls Tryz.prog 9 #[.int .i64 x,.int .i64 1] W (Bg (R (x:Rat)) W):=fun W hW=>by have:=Yg x 1 (by omega) hx (by omega) W hW;rw [ny]at this;exact this
 have o2:∀W,Am W→Calls Tryz.prog 9 #[.int .i64 y,.int .i64 1] W (Bg (R (y:Rat)) W):=fun W hW=>by have:=Yg y 1 (by omega) hy (by omega) W hW;rw [ny]at this;exact this
 have hb:=AqJ w (.cells #[S [],S []] 92);have hE:=(Aa.refl w).alloc (.cells #[S [],S []] 92);unfold Ak;clear hx hy;go_enter Tryz.func43,Tryz.ntmps43;(go_wp2_with fail);rw [show (⟨#[]⟩:ByteArray)=⟨([]:Bs).toArray⟩from rfl];(with_reducible refine(o1 _ (hw.ext hE)).mono ?_);rintro e w1 ⟨rfl,hx⟩;replace hb:=(hx.block _ (AqI hb)).trans hb;replace hE:=hE.trans hx;(go_wp2_with fail);(with_reducible refine(o2 _ (hw.ext hE)).mono ?_);rintro e w2 ⟨rfl,hx2⟩;replace hb:=(hx2.block _ (AqI hb)).trans hb;replace hE:=hE.trans hx2;have g1:=Ab (o:=0) hb rfl;have g2:=Ab (o:=1) hb rfl;have g3:=AK (o:=0) hb;have g4:=AK (o:=1) hb;obtain⟨e1,e2⟩:=set2 (S (R (x:Rat))) (S (R (y:Rat))) g1 g2;go_wp2;refine bodyPost_ret (v:=.agg #[S (R (x:Rat)),S (R (y:Rat))]) (by simp [results,Tryz.results43,go_sem,e1,e2]) rfl ?_;exact⟨rfl,(hE.setCell (AqK _) _).setCell (AqK _) _⟩
def K1(us:List Bs):List (List Pt×Bs):=us.zipIdx.map fun e=>(OR ((e.2:Int):Rat),e.1)
theorem Yw(us:List Bs):(K1 us).length=us.length:=by simp [K1]
theorem An8(us:List Bs){k:Nat}(h:k<us.length)(h':k<(K1 us).length):(K1 us)[k]=(OR ((k:Int):Rat),us[k]):=by simp [K1]
theorem Ans(x:Int):OR (x:Rat) = [⟨(x:Rat),((0:Int):Rat)⟩,⟨((x+1:Int):Rat),((0:Int):Rat)⟩,⟨((x+1:Int):Rat),((1:Int):Rat)⟩,⟨(x:Rat),((1:Int):Rat)⟩]:=by
 unfold OR;rw [Rat.intCast_add]
 rfl
theorem Yr{x y:Int}(hx:0<=x)(hx2:x<=3)(hy:0<=y)(hy2:y<=3):EY ⟨(x:Rat),(y:Rat)⟩:=⟨(2*x,2*y),⟨by show 0<=2*x;omega,by show 2*x<=6;omega,by show 0<=2*y;omega,by show 2*y<=6;omega⟩,(Af7 x y).symm⟩
theorem Afp(a b c d:Pt):(flat (Ao [a,b,c,d])).toArray=#[.string ⟨(R a.x).toArray⟩,.string ⟨(R a.y).toArray⟩,.string ⟨(R b.x).toArray⟩,.string ⟨(R b.y).toArray⟩,.string ⟨(R c.x).toArray⟩,.string ⟨(R c.y).toArray⟩,.string ⟨(R d.x).toArray⟩,.string ⟨(R d.y).toArray⟩]:=rfl
theorem Am1{w0 w:World}{A B F:Option Addr}{m:Cw}{fa:List Bs}{bR:Nat}{t:TypeId}(hA:Ad w A (flat (Ao m.pts)))(hB:Ad w B (B7 m.eds))(hF:Ad w F (fa.map S))(hx:Aa w0 w)
  (hb:w.heap[bR]?=some (.cells #[.slice none 0 0,.slice none 0 0,.slice none 0 0] t)) (h0:w0.heap.size<=bR) (x y z:Value) :
  ∀w',w'=((w.setCell ⟨bR,0,none⟩ x).setCell ⟨bR,1,none⟩ y).setCell ⟨bR,2,none⟩ z→Ad w' A (flat (Ao m.pts))/\Ad w' B (B7 m.eds)/\Ad w' F (fa.map S)/\Aa w0 w'/\w'.heap[bR]?=some (.cells #[x,y,z] t):=by
 rintro w' rfl
 have Lr:∀q,q≠bR→(((w.setCell ⟨bR,0,none⟩ x).setCell ⟨bR,1,none⟩ y).setCell ⟨bR,2,none⟩ z).heap[q]?=w.heap[q]?:=fun q hq=>by rw [DX (by exact hq),DX (by exact hq),DX (by exact hq)]
 refine⟨hA.far hb ?_ Lr,hB.far hb ?_ Lr,hF.far hb ?_ Lr,((hx.setCell (p:=⟨bR,0,none⟩) h0 x).setCell (p:=⟨bR,1,none⟩) h0 y).setCell (p:=⟨bR,2,none⟩) h0 z,Ve x y z hb⟩
 ·intro v hv;obtain⟨j,hj,rfl⟩:=List.getElem_of_mem hv;obtain⟨q,hq⟩:=vU hj;rw [hq];intro e;cases e
 ·intro v hv;obtain⟨j,hj,rfl⟩:=List.getElem_of_mem hv;obtain⟨q,hq⟩:=uF hj;rw [hq];intro e;cases e
 ·intro v hv;obtain⟨s,-,rfl⟩:=List.mem_map.1 hv;intro e;cases e
theorem Me(W:World)(x y:Obj):((W.alloc x).alloc y).heap[W.heap.size+1]?=some y/\((W.alloc x).alloc y).heap[W.heap.size]?=some x/\Aa W ((W.alloc x).alloc y):=by
 have h1:=AqJ (W.alloc x) y;have h2:=(((Aa.refl (W.alloc x)).alloc y).block W.heap.size (by simp)).trans (AqJ W x);have e:(W.alloc x).heap.size=W.heap.size+1:=(by simp);rw [e]at h1;exact⟨h1,h2,((Aa.refl W).alloc x).alloc y⟩
def Zs(w:World)(m:Cw)(fa:List Bs)(e:Ending)(w':World):Prop:=
 ∃A B F c d g,e=.returned (DK A B F m c d g)/\K3 m c d g/\Ad w' A (flat (Ao m.pts))/\Ad w' B (B7 m.eds)/\Ad w' F (fa.map S)/\m.nf=fa.length/\Aa w w'
theorem AnA(us:List Bs)(T9:us.length<=3){m:Cw}{fa:List Bs}(hB:∀A c w,Am w→KI w A c (K1 us)→Calls Tryz.prog 44 #[.slice A us.length c] w (Uy w m fa))(A:Option Addr)(c:Nat)(w:World)(hw:Am w)(hr:Ad w A (us.map S))(hc:us.length<=c)(_:c<=9223372036854775807) :
  Calls Tryz.prog 11 #[.slice A us.length c] w (Zs w m fa):=by
 have hM:=AqJ w (.cells #[.slice none 0 0,.slice none 0 0,.slice none 0 0] 36);have hE:=(Aa.refl w).alloc (.cells #[.slice none 0 0,.slice none 0 0,.slice none 0 0] 36);have HB:=AqH hB;have HR:=AqH hr;obtain⟨n,hn⟩:=AqG us.length;rw [←hn]at T9 hc;have HN:=AqH hn;rw [←hn];clear hB hr hn;go_enter Tryz.func11,Tryz.ntmps11
 go_upto_region 1 with fail
 generalize w.alloc (.cells #[.slice none 0 0,.slice none 0 0,.slice none 0 0] 36)=V at *;obtain⟨bR,yL⟩:=AqG w.heap.size;rw [←yL]at hM ⊢;have hb0:w.heap.size<=bR:=(by omega);clear yL
 go_upto_region 3 with fail
 go_loopw [3,10] (fun ov kv wr=>∃(l:List Pz) (k:Nat),kv=.int .i64 (k:Nat)/\k<=n/\wr.ownsRow w.heap.size 95 3 ov l.length (D3 l)/\(∀e∈l,JO wr e)/\Jz l=(K1 us).take k/\Aa w wr/\wr.heap[bR]?=some (.cells #[.slice none 0 0,.slice none 0 0,.slice none 0 0] 36)) (fun _ kv _=>n-(intOf kv).toNat)
 case atStart=>exact⟨[],0,rfl,by omega,⟨rfl,.inl ⟨rfl,rfl⟩⟩,(fun e he=>by cases he),rfl,hE,hM⟩
 case round=>
  obtain⟨l,k,rfl,hk,hown,Aj,Dx,Ac,Dj⟩:=hrel;have F8:=AqH Aj;have FW:=AqH Dx;clear Aj Dx;by_cases hkn:k<n
  ·have Cz:k<us.length:=(by rw [←HN.out];exact hkn);obtain⟨bA,oA,rfl,hcs⟩:=(HR.out.ext Ac).ad (by rw [List.length_map];omega);have hck:=hcs k (by rw [List.length_map];exact Cz);rw [List.getElem_map]at hck;obtain⟨u,hu⟩:=AqG (us[k]);rw [←hu]at hck;have HU:=AqH hu;have hk0:(0:Int)<=(k:Int):=(by omega);have BH:(k:Int)<(n:Int):=(by omega);have v1:IntKind.wrap .i64 ((k:Int)+1)=(k:Int)+1:=AqQ _ (by omega);clear hu hcs
   have hlk:l.length=k:=by have:=congrArg List.length FW.out;rw [uv,List.length_take,Yw]at this;omega
   have p1:=UX (k:Int) 0 (by omega) (by omega);have p2:=UX ((k:Int)+1) 0 (by omega) (by omega);have p3:=UX ((k:Int)+1) 1 (by omega) (by omega);have p4:=UX (k:Int) 1 (by omega) (by omega);have Gp:=Ans (k:Int);have s0:EY ⟨((k:Int):Rat),((0:Int):Rat)⟩:=Yr (by omega) (by omega) (by omega) (by omega);have s1:EY ⟨(((k:Int)+1:Int):Rat),((0:Int):Rat)⟩:=Yr (by omega) (by omega) (by omega) (by omega);have s2:EY ⟨(((k:Int)+1:Int):Rat),((1:Int):Rat)⟩:=Yr (by omega) (by omega) (by omega) (by omega);have s3:EY ⟨((k:Int):Rat),((1:Int):Rat)⟩:=Yr (by omega) (by omega) (by omega) (by omega);obtain⟨a0,h0⟩:=AqG (⟨((k:Int):Rat),((0:Int):Rat)⟩:Pt);obtain⟨a1,h1⟩:=AqG (⟨(((k:Int)+1:Int):Rat),((0:Int):Rat)⟩:Pt);obtain⟨a2,h2⟩:=AqG (⟨(((k:Int)+1:Int):Rat),((1:Int):Rat)⟩:Pt);obtain⟨a3,h3⟩:=AqG (⟨((k:Int):Rat),((1:Int):Rat)⟩:Pt);rw [←h0]at p1 s0 Gp;rw [←h1]at p2 s1 Gp;rw [←h2]at p3 s2 Gp;rw [←h3]at p4 s3 Gp;have HSQ:=AqH Gp;unfold Ak at p1 p2 p3 p4;clear h0 h1 h2 h3 Gp;obtain⟨oP,oc,rfl⟩:=kX (by omega) hown;(go_wp2_with fail);(with_reducible refine(p1 _ (hw.ext Ac)).mono ?_);rintro e w1 ⟨rfl,hx1⟩;have X1:=Ac.trans hx1;(go_wp2_with fail);(with_reducible refine(p2 _ (hw.ext X1)).mono ?_);rintro e w2 ⟨rfl,hx2⟩;have X2:=X1.trans hx2;(go_wp2_with fail);(with_reducible refine(p3 _ (hw.ext X2)).mono ?_);rintro e w3 ⟨rfl,hx3⟩;have X3:=X2.trans hx3;(go_wp2_with fail);(with_reducible refine(p4 _ (hw.ext X3)).mono ?_);rintro e W7 ⟨rfl,Ai⟩;have FK:=X3.trans Ai;have Aw:Aa wr W7:=((hx1.trans hx2).trans hx3).trans Ai;clear X1 X2 X3 hx1 hx2 hx3 Ai p1 p2 p3 p4;have fS:=AC hown Aw;have Ah4:∀e∈l,JO W7 e:=fun e he=>(F8.out e he).ext Aw;have Wj:=(Aw.block _ (AqI Dj)).trans Dj;have hbase:w.heap.size<=W7.heap.size:=FK.size;clear Aw hown Dj Ac;have Rq:=AqH hlk;have hl3:l.length<=3:=(by omega);have ApO:l.length<n:=(by omega);rw [←hlk]at hk0 BH v1 ⊢;have e7:IntKind.wrap .i64 ((l.length:Int)+1)=(l.length:Int)+1:=v1;clear hlk
   go_wp2_with (at_builtin;go_loud (refine Acn rfl _ _ rfl _ w.heap.size (.slice oP l.length oc) l.length l [⟨W7.heap.size,[a0,a1,a2,a3],u⟩] rfl (AC fS (Me W7 _ _).2.2) (by omega) (by simp) (W7.heap.size+1) 1 rfl (by rw [Al5 _ 4 rfl];exact(Me W7 _ _).1) rfl (AqU hbase (Me W7 _ _).2.2.size) ?_);intro v9 w9 BQ hext9 FM)
   have AS:=Al4 (d:=[⟨W7.heap.size,[a0,a1,a2,a3],u⟩]) (AC fS (Me W7 _ _).2.2) FM (fun e he=>(Ah4 e he).ext (Me W7 _ _).2.2) (by
    intro e he;simp only [List.mem_cons,AqV,or_false]at he;subst he;refine⟨by show _=some (Obj.cells (flat (Ao [a0,a1,a2,a3])).toArray _);rw [Afp];exact(Me W7 _ _).2.1,?_,by simp⟩;intro p hp;simp only [List.mem_cons,AqV,or_false]at hp
    rcases hp with rfl|rfl|rfl|rfl<;>assumption)
   have Nl:Jz (l ++ [⟨W7.heap.size,[a0,a1,a2,a3],u⟩])=(K1 us).take (k+1):=by rw [AqN (by rw [Yw];exact Cz),←FW.out,An8 us Cz,HSQ.out,←HU.out];simp [Jz]
   have BN:=AqH (And.intro BQ (And.intro AS (And.intro Nl (And.intro (hext9 w (FK.trans (Me W7 _ _).2.2) (AqK _)) ((FM.block bR (AqT (AqI Wj) (Me W7 _ _).2.2.size) (fun e=>Bu fS Wj (by decide) e.symm)).trans (((Me W7 _ _).2.2.block bR (AqI Wj)).trans Wj))))));clear AS BQ hext9 FM Nl;go_wp2;go_roundw
   case rel=>exact⟨_,k+1,by rw [←Rq.out];go_num,hkn,by rw [List.length_append];exact BN.out.1,BN.out.2.1,BN.out.2.2.1,BN.out.2.2.2.1,BN.out.2.2.2.2⟩
   case measure=>have e:=Rq.out;simp [intOf];omega
  ·have Bt:k=n:=(by omega);subst Bt
   have hlk:l.length=k:=by have:=congrArg List.length FW.out;rw [uv,List.length_take,Yw]at this;have:=HN.out;omega
   have hp:Jz l=K1 us:=(by rw [FW.out,AqS (by rw [Yw,HN.out];exact AqK _)]);obtain⟨oA,oc,rfl,hr1,hr2,AhE⟩:=Ad.of_own' (by omega) hown;have DZ:=Alc hr1 F8.out hr2 AhE;rw [hp]at DZ;have b1:=HB.out oA oc _ (hw.ext Ac) DZ;rw [←HN.out]at b1;rw [hlk];clear DZ hp hr1;(go_wp2_with fail);(with_reducible refine(b1.mono ?_));rintro e w2 ⟨A2,B2,F2,c2,d2,g2,rfl,C4,r1,r2,r3,r4,hx2⟩;have hX:=Ac.trans hx2;have dV:=(hx2.block _ (AqI Dj)).trans Dj;have EM:=(Aa.refl w2).alloc (.cells #[.slice A2 m.pts.length c2,.slice B2 m.eds.length d2,.slice F2 m.nf g2] 36);have MW:=(EM.block _ (AqI dV)).trans dV;have hst:=Am1 (r1.ext EM) (r2.ext EM) (r3.ext EM) (hX.trans EM) MW hb0 (.slice A2 m.pts.length c2) (.slice B2 m.eds.length d2) (.slice F2 m.nf g2) _ rfl;have q0:=Ab (o:=0) MW rfl;have q1:=Ab (o:=1) MW rfl;have q2:=Ab (o:=2) MW rfl;have q3:=AK (o:=0) MW;have q4:=AK (o:=1) MW;have q5:=AK (o:=2) MW;have t1:=Ab (o:=0) hst.2.2.2.2 rfl;have t2:=Ab (o:=1) hst.2.2.2.2 rfl;have t3:=Ab (o:=2) hst.2.2.2.2 rfl;have HST:=AqH (And.intro hst (And.intro C4 r4));clear hst C4 r1 r2 r3 r4 hx2 Ac Dj dV MW;unfold DK;go_wp2;refine bodyPost_ret (v:=.agg #[.slice A2 m.pts.length c2,.slice B2 m.eds.length d2,.slice F2 m.nf g2]) (by simp [results,Tryz.results11,go_sem,t1,t2,t3]) rfl ?_;exact⟨A2,B2,F2,c2,d2,g2,rfl,HST.out.2.1,HST.out.1.1,HST.out.1.2.1,HST.out.1.2.2.1,HST.out.2.2,HST.out.1.2.2.2.1⟩
theorem An7:K1 [[66],[65],[120]]=str3:=rfl
theorem An9(A:Option Addr)(c:Nat)(w:World)(hw:Am w)(hr:Ad w A [S [66],S [65],S [120]])(hc:3<=c)(hcm:c<=9223372036854775807) :
  Calls Tryz.prog 11 #[.slice A 3 c] w (Zs w LM [[66],[65],[120]]):=
 AnA [[66],[65],[120]] (by simp) (fun A c w hw h=>AcV A c w hw (by rw [An7]at h;exact h)) A c w hw hr hc hcm
end Go.Proofs.YtjalkoacphhgdaaGreatDoor
namespace Kl
def c3:List La:=[⟨[65],[49],[50]⟩,⟨[66],[48],[51]⟩,⟨[67],[49],[]⟩]
def f3:List Bs:=[[66],[65],[120]]
def e3:List En:=[⟨[66],[97],1,[48,32,116,111,32,51]⟩,⟨[65],[98],2,[49,32,116,111,32,50]⟩,⟨[120],[99],3,[]⟩]
theorem Aoa(F:List Bs):F3 F=Go.Lib.compact (EP (fun x y=>decide (x<=y)) F.length (F.filter (fun s=>s != []))):=by
 unfold F3;rw [OJ _ _ _ (List.length_filter_le _ _)]
theorem Ani(c:List La)(l:List Bs):J3 c l=EP (fun x y=>!decide (BB c y x<0)) l.length l:=by
 rw [OJ _ _ _ (Nat.le_refl _)]
 rfl
theorem Aab:F3 f3 = [[65],[66],[120]]:=by rw [Aoa];decide +kernel
theorem ye:J3 c3 [[65],[66],[120]] = [[66],[65],[120]]:=by rw [Ani];decide +kernel
theorem tA:D8 c3 [[66],[65],[120]]=e3:=by decide +kernel
theorem AeZ:RV c3 f3=0:=by
 unfold RV;rw [Aab,ye,tA]
 decide +kernel
theorem Ady:DV e3=0:=by decide +kernel
theorem AkN:H8 c3 [⟨[65],[98],2,[49,32,116,111,32,50]⟩,⟨[66],[97],1,[48,32,116,111,32,51]⟩]=some 1:=by decide +kernel
theorem Adw:DV [⟨[65],[98],2,[49,32,116,111,32,50]⟩,⟨[66],[97],1,[48,32,116,111,32,51]⟩]=0:=by decide +kernel
theorem Ajl:e3.map FP = [[97,32,66,32,112,108,97,105,110,58,32,48,32,116,111,32,51],[98,32,65,32,100,111,116,115,58,32,49,32,116,111,32,50],[99,32,120,32,100,97,115,104,101,115]]:=by decide +kernel
theorem R_0:R 0 = [48]:=by decide +kernel
theorem R_1:R 1 = [49]:=by decide +kernel
theorem pO:R 2 = [50]:=by decide +kernel
theorem pP:R 3 = [51]:=by decide +kernel
theorem AkD:BO (R 0):=⟨0,rfl,by decide +kernel,by decide +kernel⟩
theorem qu:BO (R 1):=⟨1,rfl,by decide +kernel,by decide +kernel⟩
theorem AkE:BO (R 2):=⟨2,rfl,by decide +kernel,by decide +kernel⟩
theorem AkF:BO (R 3):=⟨3,rfl,by decide +kernel,by decide +kernel⟩
theorem sY:KW c3=0:=by
 have h1:colS [] ⟨[65],R 1,(some (2:Rat)).elim [] R⟩=0:=Vl qu (by rintro q ⟨rfl⟩;exact⟨AkE,by rw [pO];decide,by decide +kernel⟩) (by decide +kernel) (by simp) (by decide +kernel);have h2:colS [⟨[65],R 1,R 2⟩] ⟨[66],R 0,(some (3:Rat)).elim [] R⟩=0:=Vl AkD (by rintro q ⟨rfl⟩;exact⟨AkF,by rw [pP];decide,by decide +kernel⟩) (by decide +kernel) (by intro y hy;rw [List.mem_singleton.1 hy];simp) (by decide +kernel);have h3:colS [⟨[65],R 1,R 2⟩,⟨[66],R 0,R 3⟩] ⟨[67],R 1,(none:Option Rat).elim [] R⟩=0:=Vl qu (by intro q h;cases h) (by decide +kernel) (by intro y hy;simp only [List.mem_cons,List.not_mem_nil,or_false]at hy;rcases hy with rfl|rfl<;>simp) (by decide +kernel);simp only [Option.elim_some,Option.elim_none]at h1 h2 h3;rw [R_0,R_1,pO,pP]at *;unfold KW c3;rw [if_neg (by decide),if_neg (by decide)];simp only [Ez,h1,if_true,List.nil_append,h2,List.cons_append,h3]
end Kl
namespace Go.Proofs.YtjalkoacphhgdaaGreatDoor
open Go.RowKit Kl
theorem AdN{w w':World}{e:Ending}(h:IQ c3 f3 w e w'):∃A c,e=.returned (.tuple #[.slice A 3 c,.int .i64 0])/\Ad w' A (AQ e3)/\3<=c/\c<=9223372036854775807/\Aa w w':=by
 unfold IQ at h;rw [AeZ,if_pos rfl,Aab,ye,tA]at h;exact h
theorem mq{l:List En}(h:l.all (fun e=>decide (e.u.length<1000000)&&(decide (e.s.length<1000000)&&decide (e.t.length<1000000)))=true):∀e∈l,LK e:=by
 intro e he;have:=List.all_eq_true.1 h e he;simp only [Bool.and_eq_true,decide_eq_true_eq]at this;exact⟨this.1,this.2.1,this.2.2⟩
def Sl:En:=⟨[65],[98],2,[49,32,116,111,32,50]⟩
def Sk:En:=⟨[66],[97],1,[48,32,116,111,32,51]⟩
theorem AiO(w:World)(hw:Am w):Calls Tryz.prog 8 #[] w (Bv true w):=by
 have hL:=AqJ w (.cells #[S [65],S [49],S [50],S [66],S [48],S [51],S [67],S [49],S []] 31);have hE:=(Aa.refl w).alloc (.cells #[S [65],S [49],S [50],S [66],S [48],S [51],S [67],S [49],S []] 31);have hR:Ad (w.alloc (.cells #[S [65],S [49],S [50],S [66],S [48],S [51],S [67],S [49],S []] 31)) (some ⟨w.heap.size,0,none⟩) (Bo c3):=Ad.lit w #[S [65],S [49],S [50],S [66],S [48],S [51],S [67],S [49],S []] 31;have FA:=AqH hR;clear hL hR;go_enter Tryz.func8,Tryz.ntmps8
 go_upto_region 2 with fail
 generalize w.alloc (.cells #[.string ⟨[65].toArray⟩,.string ⟨[49].toArray⟩,.string ⟨[50].toArray⟩,.string ⟨[66].toArray⟩,.string ⟨[48].toArray⟩,.string ⟨[51].toArray⟩,.string ⟨[67].toArray⟩,.string ⟨[49].toArray⟩,.string ⟨[].toArray⟩] 31)=V at *;obtain⟨bc,SK⟩:=AqG w.heap.size;rw [←SK]at FA ⊢;clear SK;have TB:=hw.ext hE;have hx0:=(Aa.refl V).alloc (.cells #[S [66],S [65],S [120]] 9)
 obtain⟨m,hm1,Fo,ep⟩:∃m,IX m=0/\(∀p∈m.pts,Ee p)/\Calls Tryz.prog 11 #[.slice (some ⟨V.heap.size,0,none⟩) 3 3] (V.alloc (.cells #[S [66],S [65],S [120]] 9)) (Zs (V.alloc (.cells #[S [66],S [65],S [120]] 9)) m [[66],[65],[120]]):=
  ⟨LM,Ad6,Af8,An9 (some ⟨V.heap.size,0,none⟩) 3 _ (TB.ext hx0) (Ad.lit V #[S [66],S [65],S [120]] 9) (by omega) (by omega)⟩
 have HM:=AqH (And.intro hm1 Fo);clear hm1 Fo;(go_wp2_with fail);(with_reducible refine ep.mono ?_);rintro e w1 ⟨A1,B1,F1,c1,d1,g1,rfl,C4,r1,r2,r3,r4,hx1⟩;have X1:=hx0.trans hx1;have hw1:=TB.ext X1;have HC:=AqH C4
 have cp:=(AdT c3 (some ⟨bc,0,none⟩) 3 m f3 A1 B1 F1 c1 d1 g1 w1 (FA.out.ext X1) (by decide) (by omega) r3 r4 (by decide) (by decide) (by decide)
  (fun W hx=>by
   have:=ZU c3 (some ⟨bc,0,none⟩) 3 W (hw1.ext hx) ((FA.out.ext X1).ext hx) (by decide) (by omega) (by
    intro y hy;simp only [c3,List.mem_cons,AqV,or_false]at hy
    rcases hy with rfl|rfl|rfl<;>(refine⟨?_,?_,?_⟩<;>decide))
   rw [sY]at this
   exact this)
  (fun W hx=>by
   have:=Alg m HM.out.2 A1 B1 F1 c1 d1 g1 HC.out W (hw1.ext hx) (r1.ext hx) (r2.ext hx);rw [HM.out.1]at this
   exact this)).mono (fun _ _ h=>AdN h)
 have uD:c3.length=3:=rfl;rw [uD]at cp;unfold DK at cp ⊢;clear r1 r2 r3 r4 C4 uD ep hx0 hx1;(go_wp2_with fail);(with_reducible refine cp.mono ?_);rintro e w2 ⟨A2,c2,rfl,rd2,hc2,Ou,hx2⟩;have X2:=X1.trans hx2;have hl3:∀e∈e3,LK e:=mq (by decide +kernel)
 have tx:Calls Tryz.prog 15 #[.slice A2 3 c2] w2 (fun e w'=>∃A c,e=.returned (.tuple #[.slice A 3 c,.int .i64 0])/\Ad w' A ((e3.map FP).map S)/\Aa w2 w'):=(AnL e3 A2 c2 w2 rd2 hc2 Ou hl3 Ady).mono (by
  rintro e w' ⟨A,c,he,h1,h2,h3,h4⟩
  exact⟨A,c,he,h1,h4⟩)
 have HL3:=AqH hl3;have Abd:=AqH rd2;clear cp hx2 hl3 rd2;(go_wp2_with fail);(with_reducible refine tx.mono ?_);rintro e w3 ⟨A3,ZM,rfl,rd3,hx3⟩;have X3:=X2.trans hx3;have hw3:=TB.ext X3;obtain⟨b,o,rfl,hv⟩:=(Abd.out.ext hx3).ad (by decide);have q0:w3.cell? ⟨b,o,none⟩=some (S [66]):=hv 0 (by decide);have q1:w3.cell? ⟨b,o+1,none⟩=some (S [97]):=hv 1 (by decide);have q2:w3.cell? ⟨b,o+2,none⟩=some (.int .i64 1):=hv 2 (by decide);have q3:w3.cell? ⟨b,o+3,none⟩=some (S [48,32,116,111,32,51]):=hv 3 (by decide);have q4:w3.cell? ⟨b,o+4,none⟩=some (S [65]):=hv 4 (by decide);have q5:w3.cell? ⟨b,o+5,none⟩=some (S [98]):=hv 5 (by decide);have q6:w3.cell? ⟨b,o+6,none⟩=some (.int .i64 2):=hv 6 (by decide);have q7:w3.cell? ⟨b,o+7,none⟩=some (S [49,32,116,111,32,50]):=hv 7 (by decide);clear tx hx3 hv
 have od:∀W,Aa w3 W→∀g,W.heap[g]?=some (.cells #[S [65],S [98],.int .i64 2,S [49,32,116,111,32,50],S [66],S [97],.int .i64 1,S [48,32,116,111,32,51]] 40)→
   Calls Tryz.prog 19 #[.slice (some ⟨g,0,none⟩) 2 2,.slice (some ⟨bc,0,none⟩) 3 3] W (De (.tuple #[.int .i64 1,.bool false,.int .i64 0]) W):=by
  intro W hx g hg;have hr:Ad W (some ⟨g,0,none⟩) (AQ [Sl,Sk]):=Ad.blk hg;have hB:=FA.out.ext (X3.trans hx)
  have op:=qz [Sl,Sk] (some ⟨g,0,none⟩) 2 0 (.slice (some ⟨bc,0,none⟩) 3 3) W hr (by decide) (by omega) (mq (by decide +kernel)) (fun W' hx'=>by
   have:=ZU c3 (some ⟨bc,0,none⟩) 3 W' (hw3.ext (hx.trans hx')) (hB.ext hx') (by decide) (by omega) (by
    intro y hy;simp only [c3,List.mem_cons,AqV,or_false]at hy
    rcases hy with rfl|rfl|rfl<;>(refine⟨?_,?_,?_⟩<;>decide))
   rw [sY]at this
   exact this)
  have hch:DV [Sl,Sk]=0:=Adw;rw [hch,if_pos rfl]at op;have h:=kS [Sl,Sk] (some ⟨g,0,none⟩) 2 c3 (some ⟨bc,0,none⟩) 3 W hr (by decide) hB (by decide) (by omega) op;have ho:H8 c3 [Sl,Sk]=some 1:=AkN;rw [ho]at h;exact h
 go_upto_region 6 with fail
 go_region_held3 (fun w'=>w'.cell? ⟨b,o,none⟩=some (S [66])/\w'.cell? ⟨b,o+1,none⟩=some (S [97])/\w'.cell? ⟨b,o+2,none⟩=some (.int .i64 1)/\w'.cell? ⟨b,o+3,none⟩=some (S [48,32,116,111,32,51])/\w'.cell? ⟨b,o+4,none⟩=some (S [65])/\w'.cell? ⟨b,o+5,none⟩=some (S [98])/\w'.cell? ⟨b,o+6,none⟩=some (.int .i64 2)/\w'.cell? ⟨b,o+7,none⟩=some (S [49,32,116,111,32,50]))
  (go_keep)
  (first|((with_reducible refine(od _ ((Aa.refl w3).alloc _).drew _ (AqJ _ _)).mono ?_);rintro e w6 ⟨rfl,Ay⟩;have X6:Aa w3 w6:=((Aa.refl w3).alloc _).drew.trans Ay;have g0:=X6.cellS q0;have g1:=X6.cellS q1;have g2:=X6.cellS q2;have g3:=X6.cellS q3;have g4:=X6.cellS q4;have g5:=X6.cellS q5;have g6:=X6.cellS q6;have g7:=X6.cellS q7))
 have X7:=X3.trans X6
 have Qk:Ad w6 A3 ([S [97,32,66,32,112,108,97,105,110,58,32,48,32,116,111,32,51],S [98,32,65,32,100,111,116,115,58,32,49,32,116,111,32,50],S [99,32,120,32,100,97,115,104,101,115]]):=by have:=rd3.ext X6;rw [Ajl]at this;exact this
 have Xl:=(Aa.refl w6).alloc (.cells #[S [97,32,66,32,112,108,97,105,110,58,32,48,32,116,111,32,51],S [98,32,65,32,100,111,116,115,58,32,49,32,116,111,32,50],S [99,32,120,32,100,97,115,104,101,115]] 9);have eq:Calls Tryz.prog 17 #[.slice A3 3 ZM,.slice (some ⟨w6.heap.size,0,none⟩) 3 3] (w6.alloc (.cells #[S [97,32,66,32,112,108,97,105,110,58,32,48,32,116,111,32,51],S [98,32,65,32,100,111,116,115,58,32,49,32,116,111,32,50],S [99,32,120,32,100,97,115,104,101,115]] 9)) (Bv true (w6.alloc (.cells #[S [97,32,66,32,112,108,97,105,110,58,32,48,32,116,111,32,51],S [98,32,65,32,100,111,116,115,58,32,49,32,116,111,32,50],S [99,32,120,32,100,97,115,104,101,115]] 9))):=AeY [[97,32,66,32,112,108,97,105,110,58,32,48,32,116,111,32,51],[98,32,65,32,100,111,116,115,58,32,49,32,116,111,32,50],[99,32,120,32,100,97,115,104,101,115]] A3 (some ⟨w6.heap.size,0,none⟩) ZM 3 _ (Qk.ext Xl) (Ad.lit w6 #[S [97,32,66,32,112,108,97,105,110,58,32,48,32,116,111,32,51],S [98,32,65,32,100,111,116,115,58,32,49,32,116,111,32,50],S [99,32,120,32,100,97,115,104,101,115]] 9) (by decide);have BN:=AqH (hE.trans X7);clear rd3 Qk g0 g1 g2 g3 g4 g5 g6 g7 q0 q1 q2 q3 q4 q5 q6 q7 od;(go_wp2_with fail);(with_reducible refine eq.mono ?_);rintro e w7 ⟨rfl,Aw⟩;go_wp2;go_ret;exact⟨rfl,BN.out.trans (Xl.trans Aw)⟩
theorem AjW{u:Bs}(h:nameB u=true):u.length<=32:=by
 cases u with
 | nil=>simp
 | cons b l=>have h2:(decide (l.length<32)&&(H7 b&&l.all (fun c=>H7 c||KY c)))=true:=h;simp only [Bool.and_eq_true,decide_eq_true_eq]at h2;simp only [List.length_cons];omega
theorem Ajh{e:En}(h:JB e):LK e:=by
 have h1:=AjW h.nm;have h2:=h.one;have h3:=h.ln;exact⟨by omega,by omega,by omega⟩
theorem nv(d:List Dr):∀e∈GL d,JB e:=(XA (d.take 8) [] (by simp) List.Pairwise.nil).1
end Go.Proofs.YtjalkoacphhgdaaGreatDoor
namespace Kl
open Go.Proofs.YtjalkoacphhgdaaGreatDoor
open Go.Proofs (ltOf)
theorem AbA:∀a<4,∀b<8,(R (mkRat (a:Nat) 2+mkRat (b:Nat) 2)).length<=9:=by decide +kernel
theorem AiQ(f:Nat→Nat×Nat)(i:Nat):TM (Q3 f i):=by
 unfold Q3;generalize f (i%4)=p;have h1:=Zo (p.1%4) (by omega);refine⟨by simp [nm6],by simp only;omega,?_⟩;simp only;unfold Q6
 split
 ·simp
 ·have:=AbA (p.1%4) (Nat.mod_lt _ (by omega)) (p.2%8) (Nat.mod_lt _ (by omega));simp only [Option.elim_some];omega
theorem vW(f:Nat→Nat×Nat):∀(ks:List Nat) (out:List La),(∀e∈out,TM e)→∀e∈ks.foldl (Ic f) out,TM e
 | [],_,h=>h
 | k::ks,out,h=>by
  refine vW f ks _ ?_;unfold Ic
  split
  ·exact h
  ·intro e he
   rcases List.mem_append.1 he with he|he
   ·exact h e he
   ·simp only [List.mem_singleton]at he;rw [he];exact AiQ f _
theorem AjJ(f:Nat→Nat×Nat)(ks:List Nat):∀e∈mk22 f ks,TM e:=vW f ks [] (by simp)
theorem nt(d:List Dr):(GL d).Pairwise IP:=(XA (d.take 8) [] (by simp) List.Pairwise.nil).2.1
theorem Acs{x y:En}(h:IP x y):IP y x:=⟨fun e=>h.1 e.symm,fun e=>h.2 e.symm⟩
theorem Ad1(c:List La)(d:List Dr):DV (Eu c (GL d))=0:=by
 have hp:=Us c (GL d);have hl:=(nw d).2;refine sN (by rw [hp.length_eq];omega) (fun e he=>nv d e (hp.mem_iff.1 he)) ?_;exact(hp.pairwise_iff Acs).2 (nt d)
def Vw(o:Option Nat):Int:=match o with|some i=>(i:Int)|none=>-1
theorem Afo(o:Option Nat):o.isNone=decide (Vw o<0):=by
 cases o with
 | none=>rfl
 | some i=>have h:¬Vw (some i)<0:=(by show ¬((i:Int)<0);omega);rw [decide_eq_false h];rfl
theorem Afn(o:Option Nat):((o.getD 0:Nat):Int)=max (Vw o) 0:=by
 cases o with
 | none=>rfl
 | some i=>exact(Int.max_eq_left (show (0:Int)<=(i:Int)by omega)).symm
end Kl
namespace Go.Proofs.YtjalkoacphhgdaaGreatDoor
open Go.RowKit Kl
def AbP(o:Option Nat)(w:World)(e:Ending)(w':World):Prop:=e=.returned (.tuple #[.int .i64 (o.getD 0:Nat),.bool o.isNone,.int .i64 0])/\Aa w w'
theorem vu{o:Option Nat}{w:World}{e:Ending}{w':World}(h:UP o w e w'):AbP o w e w':=by
 cases o<;>exact h
theorem AkJ(l:List En)(A:Option Addr)(c:Nat)(f:Nat→Nat×Nat)(ks:List Nat)(B:Option Addr)(d:Nat)(w:World)(hw:Am w)(hr:Ad w A (AQ l))(hc:l.length<=c)(hcm:c<=9223372036854775807)(hl:∀e∈l,LK e)(h0:DV l=0)
  (hrB:Ad w B (Bo (mk22 f (ks ++ [0])))) (hd:(mk22 f (ks ++ [0])).length<=d) (MY:d<=9223372036854775807) :
  Calls Tryz.prog 57 #[.slice A l.length c,.slice B (mk22 f (ks ++ [0])).length d] w (Ax 0 w):=by
 have:=qz l A c 0 (.slice B (mk22 f (ks ++ [0])).length d) w hr hc hcm hl (fun W hx=>by
  have:=ZU (mk22 f (ks ++ [0])) B d W (hw.ext hx) (hrB.ext hx) hd MY (AjJ f _)
  rwa [AjI]at this)
 rwa [if_pos h0]at this
theorem AjC(us bs:Bs)(A:Option Addr)(c:Nat)(w:World)(hw:Am w)(hr:Ad w A (us.map byV))(hlen:us.length<=140737488351232) :
  Calls Tryz.prog 18 #[N8 A us.length c bs] w (fun e w'=>∃B d,e=.returned (.slice B (mk22 (FZ bs) (us.map (·.toNat) ++ [0])).length d)/\Ad w' B (Bo (mk22 (FZ bs) (us.map (·.toNat) ++ [0])))/\(mk22 (FZ bs) (us.map (·.toNat) ++ [0])).length<=d/\d<=9223372036854775807/\Aa w w'):=by
 refine(AjB us bs A c w hw hr hlen).mono ?_;rintro e w' ⟨v,rfl,hown,hx⟩;obtain⟨B,d,rfl,h1,h2,h3⟩:=Ad.of_own' (by omega) hown;exact⟨B,d,rfl,h1,h2,h3,hx⟩
section
open Go.Shelf
def AtO(l:List En)(c:List La)(w:World)(v5:Value)(A:Option Addr)(ca:Nat)(B:Option Addr)(d b6:Nat)(wx:World):Prop:=
 v5=.slice A l.length ca/\Ad wx A (AQ l)/\l.length<=ca/\ca<=9223372036854775807/\wx.heap[b6]?=some (.cells #[.slice B c.length d] 32)/\Ad wx B (Bo c)/\c.length<=d/\d<=9223372036854775807/\Aa w wx
theorem AcN{w:World}{b:Nat}{a0:Value}{t:TypeId}(v:Value)(h:w.heap[b]?=some (.cells #[a0] t)):(w.setCell ⟨b,0,none⟩ v).heap[b]?=some (.cells #[v] t):=by
 simp only [World.setCell,Array.getElem?_modify,h];simp
theorem vn{w:World}{b:Nat}{a0:Value}{t:TypeId}{A:Option Addr}{cs:List Value}{v:Value}(h:w.heap[b]?=some (.cells #[a0] t))(hr:Ad w A cs)(hn:∀x∈cs,x≠a0):Ad (w.setCell ⟨b,0,none⟩ v) A cs:=by
 refine⟨fun h0=>?_⟩;obtain⟨bA,o,e,hc⟩:=hr.ad h0;refine⟨bA,o,e,fun j hj=>?_⟩;have h1:=hc j hj;rw [World.cell?_setCell_far _ _ _ _ ?_]
 ·exact h1
 ·intro e2;simp only at e2;subst e2;simp only [World.cell?,h]at h1;have h2:(#[a0]:Array Value)[o+j]?=some cs[j]:=(by simpa using h1);rw [AqY]at h2;obtain⟨h3,h4⟩:=h2;have h5:o+j=0:=(by simpa using h3);refine hn cs[j] (AqL hj) ?_;rw [←h4];simp [h5]
theorem AeB(l:List En):∀x∈AQ l,x≠.slice none 0 0:=by
 intro x hx;unfold AQ at hx;rw [List.mem_flatMap]at hx;obtain⟨e,-,hx⟩:=hx;simp only [List.mem_cons,AqV,or_false]at hx
 rcases hx with rfl|rfl|rfl|rfl<;>intro h<;>cases h
theorem AiS(l:List La):∀x∈Bo l,x≠.slice none 0 0:=by
 intro x hx;unfold Bo at hx;rw [List.mem_flatMap]at hx;obtain⟨e,-,hx⟩:=hx;simp only [List.mem_cons,AqV,or_false]at hx
 rcases hx with rfl|rfl|rfl<;>intro h<;>cases h
theorem Aej(c:List La)(l:List En)(j:Nat)(hj:j<1):desc c l j=false:=by
 have:j=0:=(by omega);subst this;exact aE _ _
theorem iQ{w w':World}{b:Nat}{v:Value}{t:TypeId}(h:w.heap[b]?=some (.cells #[v] t))(hx:Aa w w'):w'.cell? ⟨b,0,none⟩=some v:=Ab (o:=0) ((hx.block _ (AqI h)).trans h) rfl
theorem AkR(dr:List Dr)(A:Option Addr)(ca:Nat)(us bs:Bs)(B:Option Addr)(d:Nat)(w:World)(hw:Am w)(hr:Ad w A (Hl dr))(hc:dr.length<=ca)(hcm:ca<=9223372036854775807)(hB:Ad w B (us.map byV))(T9:us.length<=140737488351232) :
  Calls Tryz.prog 5 #[.slice A dr.length ca,N8 B us.length d bs] w (Bv true w):=by
 unfold N8 byV;generalize hb0:bs.getD 0 0=b0;generalize hb1:bs.getD 1 0=b1;generalize hb2:bs.getD 2 0=b2;generalize hb3:bs.getD 3 0=b3;generalize hb4:bs.getD 4 0=b4;generalize hb5:bs.getD 5 0=b5;generalize DC:bs.getD 6 0=b6;generalize Fg:bs.getD 7 0=b7
 have mk22:∀W,Aa w W→Calls Tryz.prog 18 #[.agg #[.slice B us.length d,.int .u8 (b0.toNat:Nat),.int .u8 (b1.toNat:Nat),.int .u8 (b2.toNat:Nat),.int .u8 (b3.toNat:Nat),.int .u8 (b4.toNat:Nat),.int .u8 (b5.toNat:Nat),.int .u8 (b6.toNat:Nat),.int .u8 (b7.toNat:Nat)]] W _:=fun W hx=>by have:=AjC us bs B d W (hw.ext hx) (hB.ext hx) T9;unfold N8 byV at this;rw [hb0,hb1,hb2,hb3,hb4,hb5,DC,Fg]at this;exact this
 clear hb0 hb1 hb2 hb3 hb4 hb5 DC Fg;obtain⟨hck,hl8⟩:=nw dr;have Hx:=nv dr;have WZ:=Ad1 (Kl.mk22 (FZ bs) (us.map (·.toNat) ++ [0])) dr;have dN:=nt dr;have mk:=fun W (hx:Aa w W)=>AjD dr A ca W (hr.ext hx) hc hcm;have kn:=fun W (hx:Aa w W)=>AiO W (hw.ext hx);have hp:=Aa.refl w;have og:=fun (l:List En) A c B d W (hx:Aa w W)=>AkJ l A c (FZ bs) (us.map (·.toNat)) B d W (hw.ext hx);obtain⟨l,hl⟩:=AqG (GL dr);obtain⟨c,hcc⟩:=AqG (Kl.mk22 (FZ bs) (us.map (·.toNat) ++ [0]));rw [←hl]at hck hl8 Hx mk WZ dN;simp only [←hcc]at mk22 og WZ;have HL:=AqH (fun e (he:e∈l)=>Ajh (Hx e he));have GY:=AqH hck;have YZ:=AqH WZ;have Rn:=AqH dN;have YV:=AqH og;have hc4:c.length<=4:=(by rw [hcc];exact(nl _ _).len);clear hl hcc hck Hx WZ dN og hr hB;have MF:=hp.alloc (.cells #[.slice B us.length d,.int .u8 (b0.toNat:Nat),.int .u8 (b1.toNat:Nat),.int .u8 (b2.toNat:Nat),.int .u8 (b3.toNat:Nat),.int .u8 (b4.toNat:Nat),.int .u8 (b5.toNat:Nat),.int .u8 (b6.toNat:Nat),.int .u8 (b7.toNat:Nat)] 56);have hB0:=AqJ w (.cells #[.slice B us.length d,.int .u8 (b0.toNat:Nat),.int .u8 (b1.toNat:Nat),.int .u8 (b2.toNat:Nat),.int .u8 (b3.toNat:Nat),.int .u8 (b4.toNat:Nat),.int .u8 (b5.toNat:Nat),.int .u8 (b6.toNat:Nat),.int .u8 (b7.toNat:Nat)] 56);have mh:=kn _ MF;have nV:=AqH MF;have YD:=AqH hB0;clear MF hB0 kn hp;go_enter Tryz.func5,Tryz.ntmps5;(go_wp2_with fail);(with_reducible refine mh.mono ?_);rintro e w1 ⟨rfl,hx1⟩;have X1:=nV.out.trans hx1;have AY:=(hx1.block _ (AqI YD.out)).trans YD.out;obtain⟨bp,MV⟩:=AqG w.heap.size;rw [←MV]at AY ⊢;have q0:=Ab (o:=0) AY rfl;have q1:=Ab (o:=1) AY rfl;have q2:=Ab (o:=2) AY rfl;have q3:=Ab (o:=3) AY rfl;have q4:=Ab (o:=4) AY rfl;have q5:=Ab (o:=5) AY rfl;have q6:=Ab (o:=6) AY rfl;have q7:=Ab (o:=7) AY rfl;have q8:=Ab (o:=8) AY rfl;have Apx:=AqI AY;clear MV hx1 mh AY nV YD
 go_upto_region 3 with fail
 go_cut [5,6] (fun v5 v6 wx=>∃A2 c2 B2 d2 b6,v6=.pointer (some ⟨b6,0,none⟩)/\AtO l c w v5 A2 c2 B2 d2 b6 wx)
 case first=>
  go_region_held3 (fun w'=>w'.cell? ⟨bp,0,none⟩=some (Value.slice B us.length d)/\w'.cell? ⟨bp,1,none⟩=some (Value.int .u8 (b0.toNat:Nat))/\w'.cell? ⟨bp,2,none⟩=some (Value.int .u8 (b1.toNat:Nat))/\w'.cell? ⟨bp,3,none⟩=some (Value.int .u8 (b2.toNat:Nat))/\w'.cell? ⟨bp,4,none⟩=some (Value.int .u8 (b3.toNat:Nat))/\w'.cell? ⟨bp,5,none⟩=some (Value.int .u8 (b4.toNat:Nat))/\w'.cell? ⟨bp,6,none⟩=some (Value.int .u8 (b5.toNat:Nat))/\w'.cell? ⟨bp,7,none⟩=some (Value.int .u8 (b6.toNat:Nat))/\w'.cell? ⟨bp,8,none⟩=some (Value.int .u8 (b7.toNat:Nat)))
   (first|go_keep|(refine⟨?_,?_,?_,?_,?_,?_,?_,?_,?_⟩<;>(rw [World.cell?_setCell_far _ _ _ _ (by simp only [ne_eq];omega)];assumption)))
   (first|((with_reducible refine(mk _ ?_).mono ?_);(first|exact X1.drew|exact(X1.alloc _).drew|exact X1.drew.alloc _);rintro e w6 ⟨A2,c2,rfl,r2,hc2,Ou,Ay⟩;have X6:Aa w1 w6:=(by first|exact(Aa.refl _).drew.trans Ay|exact((Aa.refl _).alloc _).drew.trans Ay|exact((Aa.refl _).drew.alloc _).trans Ay);have s6:=X6.size;have g0:=X6.cellS q0;have g1:=X6.cellS q1;have g2:=X6.cellS q2;have g3:=X6.cellS q3;have g4:=X6.cellS q4;have g5:=X6.cellS q5;have g6:=X6.cellS q6;have g7:=X6.cellS q7;have g8:=X6.cellS q8;(first|(have Z6:w6.heap[w1.heap.size]?=some (.cells #[.slice none 0 0] 32):=(Ay.block _ (by simp)).trans (AqJ w1 _);have z6:=Ab (o:=0) Z6 rfl;have y6:=AK (o:=0) Z6)|skip))|((with_reducible refine(mk22 _ ?_).mono ?_);(first|exact X1.trans X6|exact(X1.trans X6).alloc _);rintro e w7 ⟨B2,d2,rfl,r7,BV,Jg,Aw⟩;have X7:Aa w1 w7:=(by first|exact X6.trans Aw|exact(X6.alloc _).trans Aw);have i0:=X7.cellS q0;have i1:=X7.cellS q1;have i2:=X7.cellS q2;have i3:=X7.cellS q3;have i4:=X7.cellS q4;have i5:=X7.cellS q5;have i6:=X7.cellS q6;have i7:=X7.cellS q7;have i8:=X7.cellS q8;(first|(have Z7:w7.heap[w1.heap.size]?=some (.cells #[.slice none 0 0] 32):=(Aw.block _ (AqI Z6)).trans Z6;have z7:=Ab (o:=0) Z7 rfl;have y7:=AK (o:=0) Z7)|(have Z7:w7.heap[w6.heap.size]?=some (.cells #[.slice none 0 0] 32):=(Aw.block _ (by simp)).trans (AqJ w6 _);have z7:=Ab (o:=0) Z7 rfl;have y7:=AK (o:=0) Z7)|skip)))
  all_goals go_wp2
  all_goals go_meet
  all_goals first
   | exact⟨_,_,_,_,_,rfl,rfl,r2.ext (Aw.trans ((Aa.refl _).alloc _)),hc2,Ou,AqJ w7 _,r7.ext ((Aa.refl _).alloc _),BV,Jg,(X1.trans X7).alloc _⟩
   | exact⟨_,_,_,_,_,rfl,rfl,vn Z7 (r2.ext (by first | exact Aw | exact((Aa.refl _).alloc _).trans Aw)) (AeB l),hc2,Ou,AcN _ Z7,vn Z7 r7 (AiS c),BV,Jg,(X1.trans X7).setCell (by have:=X1.size;simp only [];omega) _⟩
 case rest=>
  obtain⟨A2,c2,B2,d2,b6,rfl,rfl,r2,hc2,Ou,DC,r7,BV,Jg,X2⟩:=hcut;obtain⟨W2,rfl⟩:=XF X2;have JG:=AqH X2;have Hd:=AqH r2;have Rt:=AqH r7;have Ro:=AqH DC;have k6:=Ab (o:=0) DC rfl;have WM:∀e∈l,e.u.length<=1000000:=fun e he=>(by have:=(HL.out e he).1;omega);have o1:=(kS l A2 c2 c B2 d2 W2 r2 (by omega) r7 BV Jg (YV.out l A2 c2 B2 d2 W2 X2 r2 hc2 Ou HL.out GY.out r7 BV Jg)).mono fun _ _ h=>vu h;obtain⟨oo,fY⟩:=AqG (H8 c l);rw [←fY]at o1;have oR:=AqH fY;clear q0 q1 q2 q3 q4 q5 q6 q7 q8 mk mk22 r2 r7 DC X2 fY;(go_wp2_with fail);(with_reducible refine o1.mono ?_);rintro e w3 ⟨rfl,hx3⟩;have j6:=hx3.cellS k6;have s1:=Anm l A2 c2 c B2 d2 w3 (Hd.out.ext hx3) (Rt.out.ext hx3) BV Jg WM (qU Rn.out) (by omega) (fun W hx=>YV.out l A2 c2 B2 d2 W (JG.out.trans (hx3.trans hx)) (Hd.out.ext (hx3.trans hx)) hc2 Ou HL.out GY.out (Rt.out.ext (hx3.trans hx)) BV Jg);clear o1 k6;(go_wp2_with fail);(with_reducible refine s1.mono ?_);rintro e w4 ⟨v4,rfl,hown4,Ai⟩;clear s1 j6;obtain⟨A4,c4,rfl,r4,h41,h42⟩:=Ad.of_own' (by omega) hown4;have X4:=hx3.trans Ai;have Ij:=AqH X4;have NK:=AqH r4;have He:=AqH (AmZ c l);have BH:(0:Int)<=(l.length:Int):=(by omega);clear hown4 hx3 Ai X4 r4 BH
  go_upto_region 8 with fail
  go_loopw [12,13] (fun fv kv wr=>∃(k:Nat),kv=.int .i64 (k:Nat)/\k<=l.length+1/\1<=k/\((fv=.int .i64 (-1)/\∀j,j<k→desc c l j=false)∨∃f:Nat,fv=.int .i64 (f:Nat)/\oo=some f)/\Aa w4 wr) (fun _ kv _=>l.length+1-(intOf kv).toNat)
  case atStart=>exact⟨1,rfl,by omega,by omega,.inl ⟨rfl,Aej c l⟩,Aa.refl _⟩
  case round=>
   obtain⟨k,rfl,hk,BH,hf,Ac⟩:=hrel
   have hall:(u12=.int .i64 (-1)/\(∀j,j<k→desc c l j=false)/\k<l.length)∨∃z:Int,u12=.int .i64 z/\z=Vw oo/\(l.length<=k∨(k<l.length/\0<=z)):=by
    rcases hf with⟨e,hno⟩|⟨f,e,hof⟩
    ·by_cases hkn:k<l.length
     ·exact .inl ⟨e,hno,hkn⟩
     ·exact .inr ⟨-1,e,by rw [oR.out,kR fun j hj=>hno j (by omega)];rfl,.inl (by omega)⟩
    ·exact .inr ⟨(f:Int),e,by rw [hof];rfl,by omega⟩
   clear hf
   rcases hall with⟨rfl,hno,hkn⟩|⟨z,rfl,hz,hc⟩
   ·have Mo:=AqH hno;clear hno;have O6:(k:Int)<(l.length:Int):=(by omega);have k0:=(iQ Ro.out (Ij.out.trans Ac));obtain⟨b,o,rfl,g1,-,-,-⟩:=LV ((Hd.out.ext Ij.out).ext Ac) hkn;obtain⟨b',o',e,f1,-,-,-⟩:=LV ((Hd.out.ext Ij.out).ext Ac) (show k-1<l.length by omega);simp only [AqO,Addr.mk.injEq,and_true]at e;obtain⟨rfl,rfl⟩:=e;have hne:l[k-1].u≠l[k].u:=Acu Rn.out (by omega) hkn (by omega);have Wu:=aD c (l:=l) BH hkn;have hu1:=WM _ (AqL (show k-1<l.length by omega));have hu2:=WM _ (AqL hkn);obtain⟨ua,ji⟩:=AqG (l[k-1].u);obtain⟨ub,LC⟩:=AqG (l[k].u);rw [←ji]at f1 hne Wu hu1;rw [←LC]at g1 hne Wu hu2;have hge:=AdF (c:=c) hne;have hX:=(Ij.out.trans Ac);have lc:=fun (q:Af wr)=>ml c B2 d2 q.w (Rt.out.ext (hX.trans q.h)) BV Jg ua ub hu1 hu2;obtain⟨z,hz⟩:=AqG (JU c ua ub);rw [←hz]at lc hge;have HD:=AqH Wu;have oH:=AqH hge;clear hge;have y0:∀q:Af wr,q.w.cell? ⟨b6,0,none⟩=some (.slice B2 c.length d2):=Af.cell k0;have y1:∀q:Af wr,q.w.cell? ⟨b,o+k*4,none⟩=some (S ub):=Af.cell g1;have y2:∀q:Af wr,q.w.cell? ⟨b,o+(k-1)*4,none⟩=some (S ua):=Af.cell f1;have Kg:(k:Int)-1=((k-1:Nat):Int):=(by omega);have Qj:IntKind.wrap .i64 ((k-1:Nat):Int)=((k-1:Nat):Int):=AqQ _ (by omega);have hk0:(0:Int)<=(k:Int):=(by omega);have hj0:(0:Int)<=((k-1:Nat):Int):=(by omega);have Gh:((k-1:Nat):Int)<(l.length:Int):=(by omega);have eZ:IntKind.wrap .i64 ((k:Int)+1)=(k:Int)+1:=AqQ _ (by omega);clear g1 f1 k0 ji LC hz Wu hne
    go_upto_region 10 with fail
    refine F5 (by kernel_rfl) (by kernel_rfl) ?_
    repeat (go_big_quiet_step (with_reducible refine Ei (lc _)))
    refine wpQuiet_nil ?_;rintro _ ⟨q,rfl⟩;by_cases hz0:0<=z
    ·have HN:=AqH (show oo=some k by
      rw [oR.out]
      exact q9 hkn (fun j hj=>Mo.out j hj) (by rw [HD.out];exact decide_eq_true (oH.out.1 hz0)))
     go_wp2;go_roundw
     case rel=>exact⟨k+1,by go_num,by omega,by omega,.inr ⟨k,rfl,HN.out⟩,Ac.trans q.h⟩
     case measure=>simp [intOf];omega
    ·have HN:=AqH (show ∀j,j<k+1→desc c l j=false by
      intro j hj;by_cases e:j=k
      ·rw [e,HD.out];exact decide_eq_false (fun h=>hz0 (oH.out.2 h))
      ·exact Mo.out j (by omega))
     go_wp2;go_roundw
     case rel=>exact⟨k+1,by go_num,by omega,by omega,.inl ⟨rfl,HN.out⟩,Ac.trans q.h⟩
     case measure=>simp [intOf];omega
   ·have HZ:=AqH hz;clear hz
    rcases hc with hc|⟨hc,hc2⟩
    case' inl=>have O6:(l.length:Int)<=(k:Int):=by omega
    case' inr=>have O6:(k:Int)<(l.length:Int):=by omega
    all_goals
     have hX:=Ij.out.trans Ac;have cl:=sT l A2 c2 wr (Hd.out.ext hX) (by omega);have f1:oo.isNone=decide (z<0):=(by rw [HZ.out];exact Afo oo);have f2:((oo.getD 0:Nat):Int)=max z 0:=(by rw [HZ.out];exact Afn oo);rw [f1,f2];clear f1 f2;have Amu:=@wz Tryz.prog;(go_wp2_with fail);(with_reducible refine cl.mono ?_);rintro e w5 ⟨v5,rfl,O9,Ae⟩;clear cl;obtain⟨A5,c5,rfl,-,-,-⟩:=Ad.of_own' (by omega) O9;have so:=Anb c B2 d2 b6 Ae (iQ Ro.out hX) (Rt.out.ext hX) BV Jg (AqK _) l WM (qU Rn.out) (by omega) O9;(go_wp2_with fail);(with_reducible refine so.mono ?_);rintro e w6 ⟨rfl,hg6,Qn⟩;have Ay:Aa wr w6:=Ae.grown hg6 (fun j hj=>(O9.lt j hj).1);obtain⟨A6,c6,zV,r6,-,-⟩:=Ad.of_own' (by omega) Qn;simp only [Value.slice.injEq]at zV;obtain⟨rfl,-,-⟩:=zV;have r4:=NK.out.ext (Ac.trans Ay);have CN:=He.out;have eq:=AeX (Eu c l) A4 A5 c4 c5 w6 r4 r6 (by omega);rw [CN]at eq;have HX6:=AqH Ay;have DN:=AqH CN;clear so O9 Qn hg6 Ae r6 CN r4;(go_wp2_with fail);(with_reducible refine eq.mono ?_);rintro e w7 ⟨rfl,Aw⟩;have iO:=Ac.trans (HX6.out.trans Aw);have FK:=Ij.out.trans iO;have r4:=NK.out.ext iO;have r7:=Rt.out.ext FK;have k7:=iQ Ro.out FK;have Qk:∀e∈Eu c l,LK e:=fun e he=>HL.out e ((Us c l).mem_iff.1 he);have o2:=(kS (Eu c l) A4 c4 c B2 d2 w7 r4 (by rw [DN.out];omega) r7 BV Jg (YV.out (Eu c l) A4 c4 B2 d2 w7 (JG.out.trans FK) r4 (by rw [DN.out];omega) h42 Qk YZ.out r7 BV Jg)).mono fun _ _ h=>vu h;rw [AkQ,DN.out]at o2;have HXF:=AqH (JG.out.trans FK);clear eq r4 r7 Qk Aw iO FK;(go_wp2_with fail);(with_reducible refine o2.mono ?_);rintro e w8 ⟨rfl,Bd⟩;go_wp2;go_ret;exact⟨rfl,HXF.out.trans Bd⟩
end
end Go.Proofs.YtjalkoacphhgdaaGreatDoor
