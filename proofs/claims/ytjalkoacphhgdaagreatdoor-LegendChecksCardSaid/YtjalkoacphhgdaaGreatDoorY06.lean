/- Y06: SortM LP LQ Draw LR. -/
import Derived.Shelf.SlLaysF0
import Derived.Shelf.SlSortCmp.Insertion
import Derived.Test.YtjalkoacphhgdaaGreatDoorY02
import Derived.Lib.SlicesCompact
namespace Go.Proofs
open Go.Shelf
def Tryz.laysSortSt_ren:Go.Shelf.Ren:=⟨fun|6=>40|15=>64|14=>95|28=>130|29=>131|20=>169|21=>170|22=>171|23=>172|24=>173|25=>174|26=>175|27=>176|46=>252|47=>203|48=>204|49=>253|50=>254|57=>302|n=>n,fun|22=>23|24=>9|25=>89|3=>3|39=>113|0=>0|53=>182|55=>184|4=>4|46=>176|45=>175|50=>156|5=>5|9=>9|66=>258|70=>262|76=>313|77=>314|n=>n,fun|n=>n⟩
theorem Tryz.laysSortSt:Go.Proofs.SlLaysF.n6 Tryz.prog Tryz.laysSortSt_ren:={
 mixed:=by kernel_rfl
 f6:=⟨Tryz.f40.name,by decide,Tryz.func40.trans (congrArg some (by kernel_rfl))⟩
 f14:=⟨Tryz.f95.name,by decide,Tryz.func95.trans (congrArg some (by kernel_rfl))⟩
 f15:=Tryz.func64.trans (congrArg some (by kernel_rfl))
 f20:=⟨Tryz.f169.name,by decide,Tryz.func169.trans (congrArg some (by kernel_rfl))⟩
 f21:=⟨Tryz.f170.name,by decide,Tryz.func170.trans (congrArg some (by kernel_rfl))⟩
 f22:=⟨Tryz.f171.name,by decide,Tryz.func171.trans (congrArg some (by kernel_rfl))⟩
 f23:=⟨Tryz.f172.name,by decide,Tryz.func172.trans (congrArg some (by kernel_rfl))⟩
 f24:=⟨Tryz.f173.name,by decide,Tryz.func173.trans (congrArg some (by kernel_rfl))⟩
 f25:=⟨Tryz.f174.name,by decide,Tryz.func174.trans (congrArg some (by kernel_rfl))⟩
 f26:=⟨Tryz.f175.name,by decide,Tryz.func175.trans (congrArg some (by kernel_rfl))⟩
 f27:=⟨Tryz.f176.name,by decide,Tryz.func176.trans (congrArg some (by kernel_rfl))⟩
 f28:=Tryz.func130.trans (congrArg some (by kernel_rfl))
 f29:=Tryz.func131.trans (congrArg some (by kernel_rfl))
 f46:=⟨Tryz.f252.name,by decide,Tryz.func252.trans (congrArg some (by kernel_rfl))⟩
 f47:=Tryz.func203.trans (congrArg some (by kernel_rfl))
 f48:=Tryz.func204.trans (congrArg some (by kernel_rfl))
 f49:=⟨Tryz.f253.name,by decide,Tryz.func253.trans (congrArg some (by kernel_rfl))⟩
 f50:=⟨Tryz.f254.name,by decide,Tryz.func254.trans (congrArg some (by kernel_rfl))⟩
 f57:=⟨Tryz.f302.name,by decide,Tryz.func302.trans (congrArg some (by kernel_rfl))⟩
 t0:=Tryz.underlying0
 a0:=Tryz.isAgg0
 z0:=Tryz.sizeOf0
 v0:=Tryz.zeroValue0
 t3:=Tryz.underlying3
 a3:=Tryz.isAgg3
 z3:=Tryz.sizeOf3
 v3:=Tryz.zeroValue3
 t4:=Tryz.underlying4
 a4:=Tryz.isAgg4
 z4:=Tryz.sizeOf4
 v4:=Tryz.zeroValue4
 t5:=Tryz.underlying5
 a5:=Tryz.isAgg5
 z5:=Tryz.sizeOf5
 v5:=Tryz.zeroValue5
 t9:=Tryz.underlying9
 a9:=Tryz.isAgg9
 z9:=Tryz.sizeOf9
 v9:=Tryz.zeroValue9
 t22:=Tryz.underlying23
 a22:=Tryz.isAgg23
 z22:=Tryz.sizeOf23
 v22:=Tryz.zeroValue23
 a24:=Tryz.isAgg9
 z24:=Tryz.sizeOf9
 t25:=Tryz.underlying89
 a25:=Tryz.isAgg89
 z25:=Tryz.sizeOf89
 v25:=Tryz.zeroValue89
 t39:=Tryz.underlying113
 a39:=Tryz.isAgg113
 z39:=Tryz.sizeOf113
 v39:=Tryz.zeroValue113
 t45:=Tryz.underlying175
 a45:=Tryz.isAgg175
 z45:=Tryz.sizeOf175
 v45:=Tryz.zeroValue175
 t46:=Tryz.underlying176
 a46:=Tryz.isAgg176
 z46:=Tryz.sizeOf176
 v46:=Tryz.zeroValue176
 t50:=Tryz.underlying156
 a50:=Tryz.isAgg156
 z50:=Tryz.sizeOf156
 v50:=Tryz.zeroValue156
 t53:=Tryz.underlying182
 a53:=Tryz.isAgg182
 z53:=Tryz.sizeOf182
 v53:=Tryz.zeroValue182
 t55:=Tryz.underlying184
 a55:=Tryz.isAgg184
 z55:=Tryz.sizeOf184
 v55:=Tryz.zeroValue184
 t66:=Tryz.underlying258
 a66:=Tryz.isAgg258
 z66:=Tryz.sizeOf258
 v66:=Tryz.zeroValue258
 t70:=Tryz.underlying262
 a70:=Tryz.isAgg262
 z70:=Tryz.sizeOf262
 v70:=Tryz.zeroValue262
 t76:=Tryz.underlying313
 a76:=Tryz.isAgg313
 z76:=Tryz.sizeOf313
 v76:=Tryz.zeroValue313
 t77:=Tryz.underlying314
 a77:=Tryz.isAgg314
 z77:=Tryz.sizeOf314
 v77:=Tryz.zeroValue314}
end Go.Proofs
namespace Kl
structure En where
 u:Bs
 s:Bs
 p:Int
 t:Bs
deriving DecidableEq
structure La where
 u:Bs
 mn:Bs
 mx:Bs
deriving DecidableEq
def BH(f:Nat)(b:UInt8):Bool:=decide (b.toNat<f)||decide (126<b.toNat)
def Gw(b:UInt8):Bool:=(decide (97<=b.toNat)&&decide (b.toNat<=122))||(decide (65<=b.toNat)&&decide (b.toNat<=90))
def GE(b:UInt8):Bool:=(decide (48<=b.toNat)&&decide (b.toNat<=57))||decide (b.toNat=95)
def nameB:Bs→Bool
 | []=>false
 | b::l=>decide (l.length < 32) && (Gw b && l.all (fun c=>Gw c || GE c))
def CO{α:Type}(p:α→Bool)(l:List α):Int:=match l.findIdx? p with|some j=>(j:Int)|none=>-1
theorem dN{α:Type}{p:α→Bool}{l:List α}{j:Nat}(hj:j<l.length)(hno:∀q∈l.take j,p q=false)(h:p l[j]=true):CO p l=(j:Int):=by
 unfold CO
 have:l.findIdx? p=some j:=by rw [List.findIdx?_eq_some_iff_getElem];refine⟨hj,h,fun i hi=>?_⟩;rw [Bool.not_eq_true];refine hno l[i] ?_;rw [List.mem_take_iff_getElem];exact⟨i,by omega,rfl⟩
 rw [this]
theorem VO{α:Type}{p:α→Bool}{l:List α}(hno:∀q∈l,p q=false):CO p l = -1:=by
 unfold CO
 have:l.findIdx? p=none:=by rw [List.findIdx?_eq_none_iff];exact hno
 rw [this]
theorem yV{α:Type}(p:α→Bool)(l:List α):decide (0<=CO p l)=l.any p:=by
 unfold CO
 cases h:l.findIdx? p with
 | none=>
  rw [List.findIdx?_eq_none_iff]at h
  symm
  simp only [Int.reduceNeg,Int.reduceLE,decide_false,List.any_eq_false];intro x hx;rw [h x hx];simp
 | some j=>
  rw [List.findIdx?_eq_some_iff_getElem]at h;obtain⟨hj,h1,_⟩:=h;rw [decide_eq_true (by simp)]
  symm
  rw [List.any_eq_true];exact⟨_,List.getElem_mem hj,h1⟩
theorem Afe{α:Type}(p:α→Bool)(l:List α):-1<=CO p l:=by
 unfold CO
 split<;>omega
theorem Aff{α:Type}(p:α→Bool)(l:List α):CO p l<(l.length:Int):=by
 unfold CO
 split
 ·rename_i j h
  rw [List.findIdx?_eq_some_iff_getElem]at h;obtain⟨hj,_⟩:=h;omega
 ·omega
def I5(l:List En)(u:Bs):Int:=CO (fun e=>e.u == u) l
def BL(b:List En)(x:En):Int:=
 if nameB x.u=false then 8 else if 0<=I5 b x.u then 9 else if x.s.length≠1 then 7 else if x.s.any (BH 33)=true then 7
 else if b.any (fun y=>y.s == x.s)=true then 9 else if x.p<1 then 12 else if 5<x.p then 12 else if 80<x.t.length then 16 else if x.t.any (BH 32)=true then 15 else 0
def Hn(b:List En):List En→Int
 | []=>0
 | x::r=>if BL b x=0 then Hn (b ++ [x]) r else BL b x
def BK(l:List En):Int:=if 20<l.length then 4 else Hn [] l
theorem nJ{b:List En}{l:List En}{k:Nat}(h:k<l.length)(hb:b=l.take k):Hn b (l.drop k)=if BL b l[k]=0 then Hn (l.take (k+1)) (l.drop (k+1))else BL b l[k]:=by
 rw [List.drop_eq_getElem_cons h,hb,List.take_succ_eq_append_getElem h]
 rfl
theorem Ab4{b:List En}{x:En}(h:BL b x=0):1<=x.p/\x.p<=5:=by
 unfold BL at h
 split at h<;>(try split at h)<;>(try split at h)<;>(try split at h)<;>(try split at h)<;>(try split at h)<;>(try split at h)<;>omega
theorem nI:∀(l b:List En),Hn b l=0→∀e∈l,1<=e.p/\e.p<=5
 | [],_,_=>by simp
 | x::l,b,h=>by
  unfold Hn at h;by_cases h0:BL b x=0
  ·rw [if_pos h0]at h;intro e he
   rcases List.mem_cons.1 he with rfl|he
   ·exact Ab4 h0
   ·exact nI l _ h e he
  ·rw [if_neg h0]at h;exact absurd h h0
theorem nH{l:List En}(h:BK l=0):l.length<=20:=by
 unfold BK at h
 split at h<;>omega
theorem Aa0{l:List En}(h:BK l=0):∀e∈l,1<=e.p/\e.p<=5:=by
 have hl:=nH h;unfold BK at h;rw [if_neg (by omega)]at h;exact nI l [] h
def Ii(p:Int):Bs:=if p=1 then "plain".toUTF8.data.toList else if p=2 then "dots".toUTF8.data.toList else if p=3 then "dashes".toUTF8.data.toList else if p=4 then "bricks".toUTF8.data.toList else "crosses".toUTF8.data.toList
def Fv(x:En):Bs:=x.s ++ [32]++x.u ++ [32]++Ii x.p++(if x.t = [] then [] else [58,32]++x.t)
def BD(c:List La)(u:Bs):Int:=CO (fun x=>x.u == u) c
def I4(x y:Int):Int:=if x<y then -1 else if y<x then 1 else 0
structure Dr where
 u:UInt8
 s:UInt8
 p:UInt8
 t:UInt8
def Agx:List Bs:=[[65],[66],[67],[68],[69],[70],[97],[98],[99],[100],[120],[121]]
def AjI:List Bs:=[[],[115,97,110,100],[97,32,98],[49,47,50,32,116,111,32,51]]
end Kl
namespace Kl
open Go Go.Sort
open Go.Proofs (ltOf)
open Go.Lib (compareBytes)
theorem mX:∀a:Bs,compareBytes a a=0
 | []=>rfl
 | x::a=>by unfold compareBytes;rw [if_neg (UInt8.lt_irrefl x),if_neg (UInt8.lt_irrefl x),mX a]
theorem Ul:∀{a b:Bs},compareBytes a b=0→a=b
 | [],[],_=>rfl
 | [],_::_,h=>by simp [compareBytes]at h
 | _::_,[],h=>by simp [compareBytes]at h
 | x::a,y::b,h=>by
  unfold compareBytes at h;by_cases h1:x<y
  ·rw [if_pos h1]at h;omega
  ·rw [if_neg h1]at h;by_cases h2:y<x
   ·rw [if_pos h2]at h;omega
   ·rw [if_neg h2]at h
    have:x=y:=by apply UInt8.toNat_inj.1;rw [UInt8.lt_iff_toNat_lt]at h1 h2;omega
    rw [this,Ul h]
theorem OH:∀(a b:Bs),compareBytes b a =-compareBytes a b
 | [],[]=>rfl
 | [],_::_=>by simp [compareBytes]
 | _::_,[]=>by simp [compareBytes]
 | x::a,y::b=>by
  unfold compareBytes;have h3:=OH a b;by_cases h1:x<y
  ·have h2:¬y<x:=(by rw [UInt8.lt_iff_toNat_lt]at *;omega);rw [if_pos h1,if_neg h2,if_pos h1];rfl
  ·by_cases h2:y<x
   ·rw [if_pos h2,if_neg h1,if_pos h2]
   ·rw [if_neg h1,if_neg h2,if_neg h2,if_neg h1];exact h3
theorem Yx:∀{a b c:Bs},compareBytes a b<0→compareBytes b c<0→compareBytes a c<0
 | [],_,[],h1,h2=>by
  rename_i b
  have:=OH [] b;omega
 | [],_,_::_,_,_=>by simp [compareBytes]
 | _::_,[],_,h1,_=>by simp [compareBytes]at h1
 | _::_,_::_,[],_,h2=>by simp [compareBytes]at h2
 | x::a,y::b,z::c,h1,h2=>by
  unfold compareBytes at h1 h2 ⊢;simp only [UInt8.lt_iff_toNat_lt]at *;by_cases e1:x.toNat<y.toNat
  ·by_cases e2:y.toNat<z.toNat
   ·rw [if_pos (by omega)];omega
   ·rw [if_neg e2]at h2;by_cases e3:z.toNat<y.toNat
    ·rw [if_pos e3]at h2;omega
    ·rw [if_pos (by omega)];omega
  ·rw [if_neg e1]at h1;by_cases e2:y.toNat<x.toNat
   ·rw [if_pos e2]at h1;omega
   ·rw [if_neg e2]at h1;by_cases e3:y.toNat<z.toNat
    ·rw [if_pos (by omega)];omega
    ·rw [if_neg e3]at h2;by_cases e4:z.toNat<y.toNat
     ·rw [if_pos e4]at h2;omega
     ·rw [if_neg e4]at h2;rw [if_neg (by omega),if_neg (by omega)];exact Yx h1 h2
def DR(c:List La)(a b:Bs):Int:=if I4 (BD c b) (BD c a)≠0 then I4 (BD c b) (BD c a)else compareBytes a b
theorem Aa8(x y:Int):I4 x y<0↔x<y:=by unfold I4;split<;>(try split)<;>omega
theorem Aa9(x y:Int):I4 x y=0↔x=y:=by unfold I4;split<;>(try split)<;>omega
theorem nM(c:List La)(a b:Bs):DR c a b<0↔BD c b<BD c a∨(BD c b=BD c a/\compareBytes a b<0):=by
 unfold DR;have h1:=Aa8 (BD c b) (BD c a);have h2:=Aa9 (BD c b) (BD c a)
 split<;>omega
theorem zX(c:List La)(a b:Bs):ltOf (DR c) a b=true↔BD c b<BD c a∨(BD c b=BD c a/\compareBytes a b<0):=by
 unfold ltOf;rw [decide_eq_true_iff,nM]
theorem zY(c:List La)(a b:Bs):ltOf (DR c) a b=false↔¬(BD c b<BD c a∨(BD c b=BD c a/\compareBytes a b<0)):=by
 rw [←zX];simp
theorem AjA(c:List La):SWO (ltOf (DR c)) where
 irrefl x:=by rw [zY,mX];omega
 trans x y z h1 h2:=by rw [zX]at *;have:=@Yx x y z;omega
 ntrans x y z h1 h2:=by
  rw [zY]at *;have s1:=OH x y;have s2:=OH y z;have s3:=OH x z;by_cases e1:compareBytes x y=0
  ·have:=Ul e1;subst this;omega
  ·by_cases e2:compareBytes y z=0
   ·have:=Ul e2;subst this;omega
   ·have:=@Yx z y x;omega
theorem AjO(c:List La)(x y:Bs)(h1:ltOf (DR c) x y=false)(h2:ltOf (DR c) y x=false):x=y:=by
 have e1:¬DR c x y<0:=(by simpa [ltOf]using h1);have e2:¬DR c y x<0:=(by simpa [ltOf]using h2);rw [nM]at e1 e2;have s1:=OH x y;exact Ul (by omega)
def Jg(c:List La)(l:List Bs):List Bs:=l.mergeSort (fun x y=>!ltOf (DR c) y x)
end Kl
namespace Kl
structure Pt where
 x:Rat
 y:Rat
structure Sg where
 a:Pt
 b:Pt
structure Cv where
 low:Pt
 high:Pt
 W:Nat
 H:Nat
structure Cv.Ok(c:Cv):Prop where
 x:c.low.x<c.high.x
 y:c.low.y<c.high.y
 w1:1<=c.W
 w2:c.W<=2000
 h1:1<=c.H
 h2:c.H<=2000
def l8(a b k:Rat):Rat:=a+k*(b-a)
def ax(part whole:Rat)(size:Nat):Int:=(part*(size:Rat)/whole+1/2).floor
def QS(c:Cv)(p:Pt):Int:=ax (p.x-c.low.x) (c.high.x-c.low.x) c.W
def Tm(c:Cv)(p:Pt):Int:=ax (c.high.y-p.y) (c.high.y-c.low.y) c.H
def atR(s:Sg)(k:Rat):Pt:=⟨l8 s.a.x s.b.x k,l8 s.a.y s.b.y k⟩
def Agj(a b:Rat):Rat:=if a<b then b else a
def Agl(a b:Rat):Rat:=if b<a then b else a
def Cg(fr way:Rat):Option (Rat×Rat)→Option (Rat×Rat)
 | none=>none
 | some (l,h)=>if way=0 then (if 0<=fr then some (l,h)else none)else if 0 < way then some (Agj l (-fr / way),h)else some (l,Agl h (-fr / way))
/-! ### Pixels -/
/-! ### Neighbours -/
end Kl
namespace Kl
open Go Go.Sort
def Fc(F:List Bs):List Bs:=Lib.compact ((F.filter (fun s=>s != [])).mergeSort (fun x y=>decide (x<=y)))
def Oj:Bs:=[32,116,111,32]
def We(y:La):Bs:=if y.mx = [] then [45] else y.mx
def G1(u t:Bs)(y:La):Bs:=if y.u=u then y.mn++Oj++We y else t
def textU(c:List La)(u:Bs):Bs:=c.foldl (G1 u) []
def QT(c:List La)(i:Nat)(u:Bs):En:=⟨u,[UInt8.ofNat (97+i)],1+((i%5:Nat):Int),textU c u⟩
def Ds(c:List La)(l:List Bs):List En:=l.zipIdx.map fun p=>QT c p.2 p.1
theorem OJ(c:List La)(l:List Bs):(Ds c l).length=l.length:=by simp [Ds]
theorem Y8(c:List La)(l:List Bs){i:Nat}(h:i<l.length)(h':i<(Ds c l).length):(Ds c l)[i]=QT c i l[i]:=by simp [Ds]
theorem AaK(c:List La)(l:List Bs){i:Nat}(h:i<l.length):Ds c (l.take (i+1))=Ds c (l.take i) ++ [QT c i l[i]]:=by
 apply List.ext_getElem
 ·simp [OJ];omega
 ·intro j h1 h2;rw [OJ,List.length_take]at h1;rw [Y8 c _ (by simp;omega),List.getElem_take];by_cases hj:j<i
  ·rw [List.getElem_append_left (by rw [OJ];simp;omega),Y8 c _ (by simp;omega),List.getElem_take]
  ·have:j=i:=(by omega);subst this;have e:(Ds c (l.take j)).length=j:=(by rw [OJ,List.length_take];omega);rw [List.getElem_append_right (by omega)];simp
def QU(c:List La)(F:List Bs):Int:=
 if (Fc F).any (fun u=>!nameB u)=true then 8 else if 20<(Fc F).length then 4 else if (Ds c (Jg c (Fc F))).any (fun x=>decide (80<x.t.length))=true then 16 else 0
end Kl
