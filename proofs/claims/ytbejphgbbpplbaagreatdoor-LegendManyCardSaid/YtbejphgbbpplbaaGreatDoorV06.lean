/- V06: SortM LP LQ Draw LR. -/
import Derived.Shelf.SlLaysF0
import Derived.Shelf.SlSortCmp.Insertion
import Derived.Test.YtbejphgbbpplbaaGreatDoorV02
import Derived.Lib.SlicesCompact
namespace Go.Proofs
open Go.Shelf
def Tryz.laysSortSt_ren:Go.Shelf.Ren:=⟨fun|6=>18|15=>61|14=>60|28=>136|29=>137|20=>128|21=>129|22=>130|23=>131|24=>132|25=>133|26=>134|27=>135|46=>212|47=>213|48=>214|49=>215|50=>216|57=>275|n=>n,fun|22=>23|24=>9|25=>59|3=>3|39=>111|0=>0|53=>193|55=>195|4=>4|46=>187|45=>186|50=>156|5=>5|9=>9|66=>266|70=>270|76=>317|77=>318|n=>n,fun|n=>n⟩
theorem Tryz.laysSortSt:Go.Proofs.SlLaysF.n6 Tryz.prog Tryz.laysSortSt_ren:={
 mixed:=by kernel_rfl
 f6:=⟨Tryz.f18.name,by decide,Tryz.func18.trans (congrArg some (by kernel_rfl))⟩
 f14:=⟨Tryz.f60.name,by decide,Tryz.func60.trans (congrArg some (by kernel_rfl))⟩
 f15:=Tryz.func61.trans (congrArg some (by kernel_rfl))
 f20:=⟨Tryz.f128.name,by decide,Tryz.func128.trans (congrArg some (by kernel_rfl))⟩
 f21:=⟨Tryz.f129.name,by decide,Tryz.func129.trans (congrArg some (by kernel_rfl))⟩
 f22:=⟨Tryz.f130.name,by decide,Tryz.func130.trans (congrArg some (by kernel_rfl))⟩
 f23:=⟨Tryz.f131.name,by decide,Tryz.func131.trans (congrArg some (by kernel_rfl))⟩
 f24:=⟨Tryz.f132.name,by decide,Tryz.func132.trans (congrArg some (by kernel_rfl))⟩
 f25:=⟨Tryz.f133.name,by decide,Tryz.func133.trans (congrArg some (by kernel_rfl))⟩
 f26:=⟨Tryz.f134.name,by decide,Tryz.func134.trans (congrArg some (by kernel_rfl))⟩
 f27:=⟨Tryz.f135.name,by decide,Tryz.func135.trans (congrArg some (by kernel_rfl))⟩
 f28:=Tryz.func136.trans (congrArg some (by kernel_rfl))
 f29:=Tryz.func137.trans (congrArg some (by kernel_rfl))
 f46:=⟨Tryz.f212.name,by decide,Tryz.func212.trans (congrArg some (by kernel_rfl))⟩
 f47:=Tryz.func213.trans (congrArg some (by kernel_rfl))
 f48:=Tryz.func214.trans (congrArg some (by kernel_rfl))
 f49:=⟨Tryz.f215.name,by decide,Tryz.func215.trans (congrArg some (by kernel_rfl))⟩
 f50:=⟨Tryz.f216.name,by decide,Tryz.func216.trans (congrArg some (by kernel_rfl))⟩
 f57:=⟨Tryz.f275.name,by decide,Tryz.func275.trans (congrArg some (by kernel_rfl))⟩
 t0:=Tryz.underlying0
 a0:=Tryz.isAgg0
 z0:=Tryz.sizeOf0
 v0:=Tryz.zeroValue0
 t3:=Tryz.underlying3
 a3:=Tryz.isAgg3
 z3:=Tryz.sizeOf3
 v3:=Tryz.zeroValue3
 t4:=Tryz.underlying4
 a4:=Tryz.isAgg4
 z4:=Tryz.sizeOf4
 v4:=Tryz.zeroValue4
 t5:=Tryz.underlying5
 a5:=Tryz.isAgg5
 z5:=Tryz.sizeOf5
 v5:=Tryz.zeroValue5
 t9:=Tryz.underlying9
 a9:=Tryz.isAgg9
 z9:=Tryz.sizeOf9
 v9:=Tryz.zeroValue9
 t22:=Tryz.underlying23
 a22:=Tryz.isAgg23
 z22:=Tryz.sizeOf23
 v22:=Tryz.zeroValue23
 a24:=Tryz.isAgg9
 z24:=Tryz.sizeOf9
 t25:=Tryz.underlying59
 a25:=Tryz.isAgg59
 z25:=Tryz.sizeOf59
 v25:=Tryz.zeroValue59
 t39:=Tryz.underlying111
 a39:=Tryz.isAgg111
 z39:=Tryz.sizeOf111
 v39:=Tryz.zeroValue111
 t45:=Tryz.underlying186
 a45:=Tryz.isAgg186
 z45:=Tryz.sizeOf186
 v45:=Tryz.zeroValue186
 t46:=Tryz.underlying187
 a46:=Tryz.isAgg187
 z46:=Tryz.sizeOf187
 v46:=Tryz.zeroValue187
 t50:=Tryz.underlying156
 a50:=Tryz.isAgg156
 z50:=Tryz.sizeOf156
 v50:=Tryz.zeroValue156
 t53:=Tryz.underlying193
 a53:=Tryz.isAgg193
 z53:=Tryz.sizeOf193
 v53:=Tryz.zeroValue193
 t55:=Tryz.underlying195
 a55:=Tryz.isAgg195
 z55:=Tryz.sizeOf195
 v55:=Tryz.zeroValue195
 t66:=Tryz.underlying266
 a66:=Tryz.isAgg266
 z66:=Tryz.sizeOf266
 v66:=Tryz.zeroValue266
 t70:=Tryz.underlying270
 a70:=Tryz.isAgg270
 z70:=Tryz.sizeOf270
 v70:=Tryz.zeroValue270
 t76:=Tryz.underlying317
 a76:=Tryz.isAgg317
 z76:=Tryz.sizeOf317
 v76:=Tryz.zeroValue317
 t77:=Tryz.underlying318
 a77:=Tryz.isAgg318
 z77:=Tryz.sizeOf318
 v77:=Tryz.zeroValue318}
end Go.Proofs
namespace Kl
structure En where
 u:Bs
 s:Bs
 p:Int
 t:Bs
deriving DecidableEq
structure La where
 u:Bs
 mn:Bs
 mx:Bs
deriving DecidableEq
def DN(f:Nat)(b:UInt8):Bool:=decide (b.toNat<f)||decide (126<b.toNat)
def IX(b:UInt8):Bool:=(decide (97<=b.toNat)&&decide (b.toNat<=122))||(decide (65<=b.toNat)&&decide (b.toNat<=90))
def LS(b:UInt8):Bool:=(decide (48<=b.toNat)&&decide (b.toNat<=57))||decide (b.toNat=95)
def nameB:Bs→Bool
 | []=>false
 | b::l=>decide (l.length < 32) && (IX b && l.all (fun c=>IX c || LS c))
def CP{α:Type}(p:α→Bool)(l:List α):Int:=match l.findIdx? p with|some j=>(j:Int)|none=>-1
theorem dY{α:Type}{p:α→Bool}{l:List α}{j:Nat}(hj:j<l.length)(hno:∀q∈l.take j,p q=false)(h:p l[j]=true):CP p l=(j:Int):=by
 unfold CP
 have:l.findIdx? p=some j:=by rw [List.findIdx?_eq_some_iff_getElem];refine⟨hj,h,fun i hi=>?_⟩;rw [Bool.not_eq_true];refine hno l[i] ?_;rw [List.mem_take_iff_getElem];exact⟨i,by omega,rfl⟩
 rw [this]
theorem VZ{α:Type}{p:α→Bool}{l:List α}(hno:∀q∈l,p q=false):CP p l = -1:=by
 unfold CP
 have:l.findIdx? p=none:=by rw [List.findIdx?_eq_none_iff];exact hno
 rw [this]
theorem zV{α:Type}(p:α→Bool)(l:List α):decide (0<=CP p l)=l.any p:=by
 unfold CP
 cases h:l.findIdx? p with
 | none=>
  rw [List.findIdx?_eq_none_iff]at h
  symm
  simp only [Int.reduceNeg,Int.reduceLE,decide_false,List.any_eq_false];intro x hx;rw [h x hx];simp
 | some j=>
  rw [List.findIdx?_eq_some_iff_getElem]at h;obtain⟨hj,h1,_⟩:=h;rw [decide_eq_true (by simp)]
  symm
  rw [List.any_eq_true];exact⟨_,List.getElem_mem hj,h1⟩
theorem Af4{α:Type}(p:α→Bool)(l:List α):-1<=CP p l:=by
 unfold CP
 split<;>omega
theorem Af5{α:Type}(p:α→Bool)(l:List α):CP p l<(l.length:Int):=by
 unfold CP
 split
 ·rename_i j h
  rw [List.findIdx?_eq_some_iff_getElem]at h;obtain⟨hj,_⟩:=h;omega
 ·omega
def Nu(l:List En)(u:Bs):Int:=CP (fun e=>e.u == u) l
def DD(b:List En)(x:En):Int:=
 if nameB x.u=false then 8 else if 0<=Nu b x.u then 9 else if x.s.length≠1 then 7 else if x.s.any (DN 33)=true then 7
 else if b.any (fun y=>y.s == x.s)=true then 9 else if x.p<1 then 12 else if 5<x.p then 12 else if 80<x.t.length then 16 else if x.t.any (DN 32)=true then 15 else 0
def Kq(b:List En):List En→Int
 | []=>0
 | x::r=>if DD b x=0 then Kq (b ++ [x]) r else DD b x
def EN(l:List En):Int:=if 20<l.length then 4 else Kq [] l
theorem AaU{b:List En}{l:List En}{k:Nat}(h:k<l.length)(hb:b=l.take k):Kq b (l.drop k)=if DD b l[k]=0 then Kq (l.take (k+1)) (l.drop (k+1))else DD b l[k]:=by
 rw [List.drop_eq_getElem_cons h,hb,List.take_succ_eq_append_getElem h]
 rfl
theorem Acf{b:List En}{x:En}(h:DD b x=0):1<=x.p/\x.p<=5:=by
 unfold DD at h
 split at h<;>(try split at h)<;>(try split at h)<;>(try split at h)<;>(try split at h)<;>(try split at h)<;>(try split at h)<;>omega
theorem nW:∀(l b:List En),Kq b l=0→∀e∈l,1<=e.p/\e.p<=5
 | [],_,_=>by simp
 | x::l,b,h=>by
  unfold Kq at h;by_cases h0:DD b x=0
  ·rw [if_pos h0]at h;intro e he
   rcases List.mem_cons.1 he with rfl|he
   ·exact Acf h0
   ·exact nW l _ h e he
  ·rw [if_neg h0]at h;exact absurd h h0
theorem nV{l:List En}(h:EN l=0):l.length<=20:=by
 unfold EN at h
 split at h<;>omega
theorem AaT{l:List En}(h:EN l=0):∀e∈l,1<=e.p/\e.p<=5:=by
 have hl:=nV h;unfold EN at h;rw [if_neg (by omega)]at h;exact nW l [] h
def Ij(p:Int):Bs:=if p=1 then "plain".toUTF8.data.toList else if p=2 then "dots".toUTF8.data.toList else if p=3 then "dashes".toUTF8.data.toList else if p=4 then "bricks".toUTF8.data.toList else "crosses".toUTF8.data.toList
def Fy(x:En):Bs:=x.s ++ [32]++x.u ++ [32]++Ij x.p++(if x.t = [] then [] else [58,32]++x.t)
def BF(c:List La)(u:Bs):Int:=CP (fun x=>x.u == u) c
def I3(x y:Int):Int:=if x<y then -1 else if y<x then 1 else 0
structure Dr where
 u:UInt8
 s:UInt8
 p:UInt8
 t:UInt8
def AgQ:List Bs:=[[65],[66],[67],[68],[69],[70],[97],[98],[99],[100],[120],[121]]
def Akb:List Bs:=[[],[115,97,110,100],[97,32,98],[49,47,50,32,116,111,32,51]]
end Kl
namespace Kl
open Go Go.Sort
open Go.Proofs (ltOf)
open Go.Lib (compareBytes)
theorem nM:∀a:Bs,compareBytes a a=0
 | []=>rfl
 | x::a=>by unfold compareBytes;rw [if_neg (UInt8.lt_irrefl x),if_neg (UInt8.lt_irrefl x),nM a]
theorem Ur:∀{a b:Bs},compareBytes a b=0→a=b
 | [],[],_=>rfl
 | [],_::_,h=>by simp [compareBytes]at h
 | _::_,[],h=>by simp [compareBytes]at h
 | x::a,y::b,h=>by
  unfold compareBytes at h;by_cases h1:x<y
  ·rw [if_pos h1]at h;omega
  ·rw [if_neg h1]at h;by_cases h2:y<x
   ·rw [if_pos h2]at h;omega
   ·rw [if_neg h2]at h
    have:x=y:=by apply UInt8.toNat_inj.1;rw [UInt8.lt_iff_toNat_lt]at h1 h2;omega
    rw [this,Ur h]
theorem OJ:∀(a b:Bs),compareBytes b a =-compareBytes a b
 | [],[]=>rfl
 | [],_::_=>by simp [compareBytes]
 | _::_,[]=>by simp [compareBytes]
 | x::a,y::b=>by
  unfold compareBytes;have h3:=OJ a b;by_cases h1:x<y
  ·have h2:¬y<x:=(by rw [UInt8.lt_iff_toNat_lt]at *;omega);rw [if_pos h1,if_neg h2,if_pos h1];rfl
  ·by_cases h2:y<x
   ·rw [if_pos h2,if_neg h1,if_pos h2]
   ·rw [if_neg h1,if_neg h2,if_neg h2,if_neg h1];exact h3
theorem Y9:∀{a b c:Bs},compareBytes a b<0→compareBytes b c<0→compareBytes a c<0
 | [],_,[],h1,h2=>by
  rename_i b
  have:=OJ [] b;omega
 | [],_,_::_,_,_=>by simp [compareBytes]
 | _::_,[],_,h1,_=>by simp [compareBytes]at h1
 | _::_,_::_,[],_,h2=>by simp [compareBytes]at h2
 | x::a,y::b,z::c,h1,h2=>by
  unfold compareBytes at h1 h2 ⊢;simp only [UInt8.lt_iff_toNat_lt]at *;by_cases e1:x.toNat<y.toNat
  ·by_cases e2:y.toNat<z.toNat
   ·rw [if_pos (by omega)];omega
   ·rw [if_neg e2]at h2;by_cases e3:z.toNat<y.toNat
    ·rw [if_pos e3]at h2;omega
    ·rw [if_pos (by omega)];omega
  ·rw [if_neg e1]at h1;by_cases e2:y.toNat<x.toNat
   ·rw [if_pos e2]at h1;omega
   ·rw [if_neg e2]at h1;by_cases e3:y.toNat<z.toNat
    ·rw [if_pos (by omega)];omega
    ·rw [if_neg e3]at h2;by_cases e4:z.toNat<y.toNat
     ·rw [if_pos e4]at h2;omega
     ·rw [if_neg e4]at h2;rw [if_neg (by omega),if_neg (by omega)];exact Y9 h1 h2
def DC(c:List La)(a b:Bs):Int:=if I3 (BF c b) (BF c a)≠0 then I3 (BF c b) (BF c a)else compareBytes a b
theorem Abc(x y:Int):I3 x y<0↔x<y:=by unfold I3;split<;>(try split)<;>omega
theorem Abd(x y:Int):I3 x y=0↔x=y:=by unfold I3;split<;>(try split)<;>omega
theorem oK(c:List La)(a b:Bs):DC c a b<0↔BF c b<BF c a∨(BF c b=BF c a/\compareBytes a b<0):=by
 unfold DC;have h1:=Abc (BF c b) (BF c a);have h2:=Abd (BF c b) (BF c a)
 split<;>omega
theorem di(c:List La)(a b:Bs):ltOf (DC c) a b=true↔BF c b<BF c a∨(BF c b=BF c a/\compareBytes a b<0):=by
 unfold ltOf;rw [decide_eq_true_iff,oK]
theorem dl(c:List La)(a b:Bs):ltOf (DC c) a b=false↔¬(BF c b<BF c a∨(BF c b=BF c a/\compareBytes a b<0)):=by
 rw [←di];simp
theorem AjT(c:List La):SWO (ltOf (DC c)) where
 irrefl x:=by rw [dl,nM];omega
 trans x y z h1 h2:=by rw [di]at *;have:=@Y9 x y z;omega
 ntrans x y z h1 h2:=by
  rw [dl]at *;have s1:=OJ x y;have s2:=OJ y z;have s3:=OJ x z;by_cases e1:compareBytes x y=0
  ·have:=Ur e1;subst this;omega
  ·by_cases e2:compareBytes y z=0
   ·have:=Ur e2;subst this;omega
   ·have:=@Y9 z y x;omega
theorem Akh(c:List La)(x y:Bs)(h1:ltOf (DC c) x y=false)(h2:ltOf (DC c) y x=false):x=y:=by
 have e1:¬DC c x y<0:=(by simpa [ltOf]using h1);have e2:¬DC c y x<0:=(by simpa [ltOf]using h2);rw [oK]at e1 e2;have s1:=OJ x y;exact Ur (by omega)
def EC(c:List La)(l:List Bs):List Bs:=l.mergeSort (fun x y=>!ltOf (DC c) y x)
end Kl
namespace Kl
structure Pt where
 x:Rat
 y:Rat
structure Sg where
 a:Pt
 b:Pt
structure Cv where
 low:Pt
 high:Pt
 W:Nat
 H:Nat
structure Cv.Ok(c:Cv):Prop where
 x:c.low.x<c.high.x
 y:c.low.y<c.high.y
 w1:1<=c.W
 w2:c.W<=2000
 h1:1<=c.H
 h2:c.H<=2000
def nk(a b k:Rat):Rat:=a+k*(b-a)
def er(part whole:Rat)(size:Nat):Int:=(part*(size:Rat)/whole+1/2).floor
def QT(c:Cv)(p:Pt):Int:=er (p.x-c.low.x) (c.high.x-c.low.x) c.W
def Tq(c:Cv)(p:Pt):Int:=er (c.high.y-p.y) (c.high.y-c.low.y) c.H
def atR(s:Sg)(k:Rat):Pt:=⟨nk s.a.x s.b.x k,nk s.a.y s.b.y k⟩
def AgC(a b:Rat):Rat:=if a<b then b else a
def AgE(a b:Rat):Rat:=if b<a then b else a
def Ce(fr way:Rat):Option (Rat×Rat)→Option (Rat×Rat)
 | none=>none
 | some (l,h)=>if way=0 then (if 0<=fr then some (l,h)else none)else if 0 < way then some (AgC l (-fr / way),h)else some (l,AgE h (-fr / way))
/-! ### Pixels -/
/-! ### Neighbours -/
end Kl
namespace Kl
open Go Go.Sort
def Cz(F:List Bs):List Bs:=Lib.compact ((F.filter (fun s=>s != [])).mergeSort (fun x y=>decide (x<=y)))
def Ol:Bs:=[32,116,111,32]
def SV(y:La):Bs:=if y.mx = [] then [45] else y.mx
def Gd(u t:Bs)(y:La):Bs:=if y.u=u then y.mn++Ol++SV y else t
def textU(c:List La)(u:Bs):Bs:=c.foldl (Gd u) []
def QV(c:List La)(i:Nat)(u:Bs):En:=⟨u,[UInt8.ofNat (97+i)],1+((i%5:Nat):Int),textU c u⟩
def Cg(c:List La)(l:List Bs):List En:=l.zipIdx.map fun p=>QV c p.2 p.1
theorem Nq(c:List La)(l:List Bs):(Cg c l).length=l.length:=by simp [Cg]
theorem YI(c:List La)(l:List Bs){i:Nat}(h:i<l.length)(h':i<(Cg c l).length):(Cg c l)[i]=QV c i l[i]:=by simp [Cg]
theorem Abt(c:List La)(l:List Bs){i:Nat}(h:i<l.length):Cg c (l.take (i+1))=Cg c (l.take i) ++ [QV c i l[i]]:=by
 apply List.ext_getElem
 ·simp [Nq];omega
 ·intro j h1 h2;rw [Nq,List.length_take]at h1;rw [YI c _ (by simp;omega),List.getElem_take];by_cases hj:j<i
  ·rw [List.getElem_append_left (by rw [Nq];simp;omega),YI c _ (by simp;omega),List.getElem_take]
  ·have:j=i:=(by omega);subst this;have e:(Cg c (l.take j)).length=j:=(by rw [Nq,List.length_take];omega);rw [List.getElem_append_right (by omega)];simp
def I5(c:List La)(F:List Bs):Int:=
 if (Cz F).any (fun u=>!nameB u)=true then 8 else if 20<(Cz F).length then 4 else if (Cg c (EC c (Cz F))).any (fun x=>decide (80<x.t.length))=true then 16 else 0
end Kl
