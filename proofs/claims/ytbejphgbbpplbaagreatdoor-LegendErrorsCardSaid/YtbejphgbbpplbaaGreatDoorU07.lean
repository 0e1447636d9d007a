/- U07: SortM LP LQ LR LC Zed E1 E2. -/
import Derived.Shelf.SlLaysF0
import Derived.Shelf.SlSortCmp.Insertion
import Derived.Lib.SlicesCompact
import Derived.Test.YtbejphgbbpplbaaGreatDoorU06
import Derived.Deep.RegionHeld3
namespace Go.Proofs
open Go.Shelf
def Tryz.laysSortEn_ren:Go.Shelf.Ren:=⟨fun|6=>87|15=>61|14=>158|28=>136|29=>137|20=>237|21=>238|22=>239|23=>240|24=>241|25=>242|26=>243|27=>244|46=>289|47=>213|48=>214|49=>290|50=>291|57=>341|n=>n,fun|22=>26|24=>40|25=>141|3=>3|39=>111|0=>0|53=>193|55=>195|4=>4|46=>187|45=>186|50=>156|5=>5|9=>9|66=>266|70=>270|76=>317|77=>318|n=>n,fun|n=>n⟩
theorem Tryz.laysSortEn:Go.Proofs.SlLaysF0.n6 Tryz.prog Tryz.laysSortEn_ren:={
 mixed:=by kernel_rfl
 f6:=⟨Tryz.f87.name,by decide,Tryz.func87.trans (congrArg some (by kernel_rfl))⟩
 f14:=⟨Tryz.f158.name,by decide,Tryz.func158.trans (congrArg some (by kernel_rfl))⟩
 f15:=Tryz.func61.trans (congrArg some (by kernel_rfl))
 f20:=⟨Tryz.f237.name,by decide,Tryz.func237.trans (congrArg some (by kernel_rfl))⟩
 f21:=⟨Tryz.f238.name,by decide,Tryz.func238.trans (congrArg some (by kernel_rfl))⟩
 f22:=⟨Tryz.f239.name,by decide,Tryz.func239.trans (congrArg some (by kernel_rfl))⟩
 f23:=⟨Tryz.f240.name,by decide,Tryz.func240.trans (congrArg some (by kernel_rfl))⟩
 f24:=⟨Tryz.f241.name,by decide,Tryz.func241.trans (congrArg some (by kernel_rfl))⟩
 f25:=⟨Tryz.f242.name,by decide,Tryz.func242.trans (congrArg some (by kernel_rfl))⟩
 f26:=⟨Tryz.f243.name,by decide,Tryz.func243.trans (congrArg some (by kernel_rfl))⟩
 f27:=⟨Tryz.f244.name,by decide,Tryz.func244.trans (congrArg some (by kernel_rfl))⟩
 f28:=Tryz.func136.trans (congrArg some (by kernel_rfl))
 f29:=Tryz.func137.trans (congrArg some (by kernel_rfl))
 f46:=⟨Tryz.f289.name,by decide,Tryz.func289.trans (congrArg some (by kernel_rfl))⟩
 f47:=Tryz.func213.trans (congrArg some (by kernel_rfl))
 f48:=Tryz.func214.trans (congrArg some (by kernel_rfl))
 f49:=⟨Tryz.f290.name,by decide,Tryz.func290.trans (congrArg some (by kernel_rfl))⟩
 f50:=⟨Tryz.f291.name,by decide,Tryz.func291.trans (congrArg some (by kernel_rfl))⟩
 f57:=⟨Tryz.f341.name,by decide,Tryz.func341.trans (congrArg some (by kernel_rfl))⟩
 t0:=Tryz.underlying0
 a0:=Tryz.isAgg0
 z0:=Tryz.sizeOf0
 v0:=Tryz.zeroValue0
 t3:=Tryz.underlying3
 a3:=Tryz.isAgg3
 z3:=Tryz.sizeOf3
 v3:=Tryz.zeroValue3
 t4:=Tryz.underlying4
 a4:=Tryz.isAgg4
 z4:=Tryz.sizeOf4
 v4:=Tryz.zeroValue4
 t5:=Tryz.underlying5
 a5:=Tryz.isAgg5
 z5:=Tryz.sizeOf5
 v5:=Tryz.zeroValue5
 t9:=Tryz.underlying9
 a9:=Tryz.isAgg9
 z9:=Tryz.sizeOf9
 v9:=Tryz.zeroValue9
 t22:=Tryz.underlying26
 a22:=Tryz.isAgg26
 z22:=Tryz.sizeOf26
 v22:=Tryz.zeroValue26
 t25:=Tryz.underlying141
 a25:=Tryz.isAgg141
 z25:=Tryz.sizeOf141
 v25:=Tryz.zeroValue141
 t39:=Tryz.underlying111
 a39:=Tryz.isAgg111
 z39:=Tryz.sizeOf111
 v39:=Tryz.zeroValue111
 t45:=Tryz.underlying186
 a45:=Tryz.isAgg186
 z45:=Tryz.sizeOf186
 v45:=Tryz.zeroValue186
 t46:=Tryz.underlying187
 a46:=Tryz.isAgg187
 z46:=Tryz.sizeOf187
 v46:=Tryz.zeroValue187
 t50:=Tryz.underlying156
 a50:=Tryz.isAgg156
 z50:=Tryz.sizeOf156
 v50:=Tryz.zeroValue156
 t53:=Tryz.underlying193
 a53:=Tryz.isAgg193
 z53:=Tryz.sizeOf193
 v53:=Tryz.zeroValue193
 t55:=Tryz.underlying195
 a55:=Tryz.isAgg195
 z55:=Tryz.sizeOf195
 v55:=Tryz.zeroValue195
 t66:=Tryz.underlying266
 a66:=Tryz.isAgg266
 z66:=Tryz.sizeOf266
 v66:=Tryz.zeroValue266
 t70:=Tryz.underlying270
 a70:=Tryz.isAgg270
 z70:=Tryz.sizeOf270
 v70:=Tryz.zeroValue270
 t76:=Tryz.underlying317
 a76:=Tryz.isAgg317
 z76:=Tryz.sizeOf317
 v76:=Tryz.zeroValue317
 t77:=Tryz.underlying318
 a77:=Tryz.isAgg318
 z77:=Tryz.sizeOf318
 v77:=Tryz.zeroValue318}
def Tryz.laysSortSt_ren:Go.Shelf.Ren:=⟨fun|6=>18|15=>61|14=>60|28=>136|29=>137|20=>128|21=>129|22=>130|23=>131|24=>132|25=>133|26=>134|27=>135|46=>212|47=>213|48=>214|49=>215|50=>216|57=>275|n=>n,fun|22=>23|24=>9|25=>59|3=>3|39=>111|0=>0|53=>193|55=>195|4=>4|46=>187|45=>186|50=>156|5=>5|9=>9|66=>266|70=>270|76=>317|77=>318|n=>n,fun|n=>n⟩
theorem Tryz.laysSortSt:Go.Proofs.SlLaysF.n6 Tryz.prog Tryz.laysSortSt_ren:={
 mixed:=by kernel_rfl
 f6:=⟨Tryz.f18.name,by decide,Tryz.func18.trans (congrArg some (by kernel_rfl))⟩
 f14:=⟨Tryz.f60.name,by decide,Tryz.func60.trans (congrArg some (by kernel_rfl))⟩
 f15:=Tryz.func61.trans (congrArg some (by kernel_rfl))
 f20:=⟨Tryz.f128.name,by decide,Tryz.func128.trans (congrArg some (by kernel_rfl))⟩
 f21:=⟨Tryz.f129.name,by decide,Tryz.func129.trans (congrArg some (by kernel_rfl))⟩
 f22:=⟨Tryz.f130.name,by decide,Tryz.func130.trans (congrArg some (by kernel_rfl))⟩
 f23:=⟨Tryz.f131.name,by decide,Tryz.func131.trans (congrArg some (by kernel_rfl))⟩
 f24:=⟨Tryz.f132.name,by decide,Tryz.func132.trans (congrArg some (by kernel_rfl))⟩
 f25:=⟨Tryz.f133.name,by decide,Tryz.func133.trans (congrArg some (by kernel_rfl))⟩
 f26:=⟨Tryz.f134.name,by decide,Tryz.func134.trans (congrArg some (by kernel_rfl))⟩
 f27:=⟨Tryz.f135.name,by decide,Tryz.func135.trans (congrArg some (by kernel_rfl))⟩
 f28:=Tryz.func136.trans (congrArg some (by kernel_rfl))
 f29:=Tryz.func137.trans (congrArg some (by kernel_rfl))
 f46:=⟨Tryz.f212.name,by decide,Tryz.func212.trans (congrArg some (by kernel_rfl))⟩
 f47:=Tryz.func213.trans (congrArg some (by kernel_rfl))
 f48:=Tryz.func214.trans (congrArg some (by kernel_rfl))
 f49:=⟨Tryz.f215.name,by decide,Tryz.func215.trans (congrArg some (by kernel_rfl))⟩
 f50:=⟨Tryz.f216.name,by decide,Tryz.func216.trans (congrArg some (by kernel_rfl))⟩
 f57:=⟨Tryz.f275.name,by decide,Tryz.func275.trans (congrArg some (by kernel_rfl))⟩
 t0:=Tryz.underlying0
 a0:=Tryz.isAgg0
 z0:=Tryz.sizeOf0
 v0:=Tryz.zeroValue0
 t3:=Tryz.underlying3
 a3:=Tryz.isAgg3
 z3:=Tryz.sizeOf3
 v3:=Tryz.zeroValue3
 t4:=Tryz.underlying4
 a4:=Tryz.isAgg4
 z4:=Tryz.sizeOf4
 v4:=Tryz.zeroValue4
 t5:=Tryz.underlying5
 a5:=Tryz.isAgg5
 z5:=Tryz.sizeOf5
 v5:=Tryz.zeroValue5
 t9:=Tryz.underlying9
 a9:=Tryz.isAgg9
 z9:=Tryz.sizeOf9
 v9:=Tryz.zeroValue9
 t22:=Tryz.underlying23
 a22:=Tryz.isAgg23
 z22:=Tryz.sizeOf23
 v22:=Tryz.zeroValue23
 a24:=Tryz.isAgg9
 z24:=Tryz.sizeOf9
 t25:=Tryz.underlying59
 a25:=Tryz.isAgg59
 z25:=Tryz.sizeOf59
 v25:=Tryz.zeroValue59
 t39:=Tryz.underlying111
 a39:=Tryz.isAgg111
 z39:=Tryz.sizeOf111
 v39:=Tryz.zeroValue111
 t45:=Tryz.underlying186
 a45:=Tryz.isAgg186
 z45:=Tryz.sizeOf186
 v45:=Tryz.zeroValue186
 t46:=Tryz.underlying187
 a46:=Tryz.isAgg187
 z46:=Tryz.sizeOf187
 v46:=Tryz.zeroValue187
 t50:=Tryz.underlying156
 a50:=Tryz.isAgg156
 z50:=Tryz.sizeOf156
 v50:=Tryz.zeroValue156
 t53:=Tryz.underlying193
 a53:=Tryz.isAgg193
 z53:=Tryz.sizeOf193
 v53:=Tryz.zeroValue193
 t55:=Tryz.underlying195
 a55:=Tryz.isAgg195
 z55:=Tryz.sizeOf195
 v55:=Tryz.zeroValue195
 t66:=Tryz.underlying266
 a66:=Tryz.isAgg266
 z66:=Tryz.sizeOf266
 v66:=Tryz.zeroValue266
 t70:=Tryz.underlying270
 a70:=Tryz.isAgg270
 z70:=Tryz.sizeOf270
 v70:=Tryz.zeroValue270
 t76:=Tryz.underlying317
 a76:=Tryz.isAgg317
 z76:=Tryz.sizeOf317
 v76:=Tryz.zeroValue317
 t77:=Tryz.underlying318
 a77:=Tryz.isAgg318
 z77:=Tryz.sizeOf318
 v77:=Tryz.zeroValue318}
end Go.Proofs
namespace Kl
structure En where
 u:Bs
 s:Bs
 p:Int
 t:Bs
deriving DecidableEq
structure La where
 u:Bs
 mn:Bs
 mx:Bs
deriving DecidableEq
def Dd(f:Nat)(b:UInt8):Bool:=decide (b.toNat<f)||decide (126<b.toNat)
def Ii(b:UInt8):Bool:=(decide (97<=b.toNat)&&decide (b.toNat<=122))||(decide (65<=b.toNat)&&decide (b.toNat<=90))
def Li(b:UInt8):Bool:=(decide (48<=b.toNat)&&decide (b.toNat<=57))||decide (b.toNat=95)
def nameB:Bs→Bool
 | []=>false
 | b::l=>decide (l.length < 32) && (Ii b && l.all (fun c=>Ii c || Li c))
def CC{α:Type}(p:α→Bool)(l:List α):Int:=match l.findIdx? p with|some j=>(j:Int)|none=>-1
theorem XS{α:Type}{p:α→Bool}{l:List α}{j:Nat}(hj:j<l.length)(hno:∀q∈l.take j,p q=false)(h:p l[j]=true):CC p l=(j:Int):=by
 unfold CC
 have:l.findIdx? p=some j:=by rw [List.findIdx?_eq_some_iff_getElem];refine⟨hj,h,fun i hi=>?_⟩;rw [Bool.not_eq_true];refine hno l[i] ?_;rw [List.mem_take_iff_getElem];exact⟨i,by omega,rfl⟩
 rw [this]
theorem Rb{α:Type}{p:α→Bool}{l:List α}(hno:∀q∈l,p q=false):CC p l = -1:=by
 unfold CC
 have:l.findIdx? p=none:=by rw [List.findIdx?_eq_none_iff];exact hno
 rw [this]
theorem kT{α:Type}(p:α→Bool)(l:List α):decide (0<=CC p l)=l.any p:=by
 unfold CC
 cases h:l.findIdx? p with
 | none=>
  rw [List.findIdx?_eq_none_iff]at h
  symm
  simp only [Int.reduceNeg,Int.reduceLE,decide_false,List.any_eq_false];intro x hx;rw [h x hx];simp
 | some j=>
  rw [List.findIdx?_eq_some_iff_getElem]at h;obtain⟨hj,h1,_⟩:=h;rw [decide_eq_true (by simp)]
  symm
  rw [List.any_eq_true];exact⟨_,List.getElem_mem hj,h1⟩
theorem Aj5{α:Type}(p:α→Bool)(l:List α):-1<=CC p l:=by
 unfold CC
 split<;>omega
theorem Aj6{α:Type}(p:α→Bool)(l:List α):CC p l<(l.length:Int):=by
 unfold CC
 split
 ·rename_i j h
  rw [List.findIdx?_eq_some_iff_getElem]at h;obtain⟨hj,_⟩:=h;omega
 ·omega
def I6(l:List En)(u:Bs):Int:=CC (fun e=>e.u == u) l
def CZ(b:List En)(x:En):Int:=
 if nameB x.u=false then 8 else if 0<=I6 b x.u then 9 else if x.s.length≠1 then 7 else if x.s.any (Dd 33)=true then 7
 else if b.any (fun y=>y.s == x.s)=true then 9 else if x.p<1 then 12 else if 5<x.p then 12 else if 80<x.t.length then 16 else if x.t.any (Dd 32)=true then 15 else 0
def Jg(b:List En):List En→Int
 | []=>0
 | x::r=>if CZ b x=0 then Jg (b ++ [x]) r else CZ b x
def Dh(l:List En):Int:=if 20<l.length then 4 else Jg [] l
theorem AeI{b:List En}{l:List En}{k:Nat}(h:k<l.length)(hb:b=l.take k):Jg b (l.drop k)=if CZ b l[k]=0 then Jg (l.take (k+1)) (l.drop (k+1))else CZ b l[k]:=by
 rw [List.drop_eq_getElem_cons h,hb,List.take_succ_eq_append_getElem h]
 rfl
structure JK(e:En):Prop where
 nm:nameB e.u=true
 one:e.s.length=1
 sy:e.s.any (Dd 33)=false
 lo:1<=e.p
 hi:e.p<=5
 ln:e.t.length<=80
 tx:e.t.any (Dd 32)=false
theorem AfP{b:List En}{x:En}(h:JK x)(hb:∀y∈b,y.u≠x.u/\y.s≠x.s):CZ b x=0:=by
 have h1:I6 b x.u = -1:=Rb fun q hq=>(by simpa using (hb q hq).1);have h2:b.any (fun y=>y.s == x.s)=false:=List.any_eq_false.2 fun q hq=>(by simpa using (hb q hq).2);have:=h.nm;have h3:=h.one;have h4:=h.lo;have h5:=h.hi;have h6:=h.ln;unfold CZ;rw [h.nm,h1,h.sy,h.tx,h2,if_neg (by simp),if_neg (by omega),if_neg (by omega),if_neg (by simp),if_neg (by simp),if_neg (by omega),if_neg (by omega),if_neg (by omega),if_neg (by simp)]
def Mx(x y:En):Prop:=x.u≠y.u/\x.s≠y.s
theorem uJ:∀(l b:List En),(∀e∈l,JK e)→(b++l).Pairwise Mx→Jg b l=0
 | [],_,_,_=>rfl
 | x::l,b,hg,hp=>by have h1:CZ b x=0:=AfP (hg x (by simp)) fun y hy=>(List.pairwise_append.1 hp).2.2 y hy x (by simp);show (if CZ b x=0 then Jg (b ++ [x]) l else CZ b x)=0;rw [if_pos h1];exact uJ l _ (fun e he=>hg e (List.mem_cons_of_mem _ he)) (by rw [List.append_assoc];exact hp)
theorem AeG{l:List En}(hl:l.length<=20)(hg:∀e∈l,JK e)(hp:l.Pairwise Mx):Dh l=0:=by
 unfold Dh;rw [if_neg (by omega)];exact uJ l [] hg hp
theorem AfQ{b:List En}{x:En}(h:CZ b x=0):1<=x.p/\x.p<=5:=by
 unfold CZ at h
 split at h<;>(try split at h)<;>(try split at h)<;>(try split at h)<;>(try split at h)<;>(try split at h)<;>(try split at h)<;>omega
theorem uK:∀(l b:List En),Jg b l=0→∀e∈l,1<=e.p/\e.p<=5
 | [],_,_=>by simp
 | x::l,b,h=>by
  unfold Jg at h;by_cases h0:CZ b x=0
  ·rw [if_pos h0]at h;intro e he
   rcases List.mem_cons.1 he with rfl|he
   ·exact AfQ h0
   ·exact uK l _ h e he
  ·rw [if_neg h0]at h;exact absurd h h0
theorem uI{l:List En}(h:Dh l=0):l.length<=20:=by
 unfold Dh at h
 split at h<;>omega
theorem AeH{l:List En}(h:Dh l=0):∀e∈l,1<=e.p/\e.p<=5:=by
 have hl:=uI h;unfold Dh at h;rw [if_neg (by omega)]at h;exact uK l [] h
def IM(p:Int):Bs:=if p=1 then "plain".toUTF8.data.toList else if p=2 then "dots".toUTF8.data.toList else if p=3 then "dashes".toUTF8.data.toList else if p=4 then "bricks".toUTF8.data.toList else "crosses".toUTF8.data.toList
def Gb(x:En):Bs:=x.s ++ [32]++x.u ++ [32]++IM x.p++(if x.t = [] then [] else [58,32]++x.t)
def BQ(c:List La)(u:Bs):Int:=CC (fun x=>x.u == u) c
def Jj(x y:Int):Int:=if x<y then -1 else if y<x then 1 else 0
structure Dr where
 u:UInt8
 s:UInt8
 p:UInt8
 t:UInt8
def NI:List Bs:=[[65],[66],[67],[68],[69],[70],[97],[98],[99],[100],[120],[121]]
def P4:List Bs:=[[],[115,97,110,100],[97,32,98],[49,47,50,32,116,111,32,51]]
def F6(x:Dr):En:=⟨NI.getD (x.u.toNat%12) [],[33+x.s%90],1+((x.p.toNat%5:Nat):Int),P4.getD (x.t.toNat%4) []⟩
def Gc(out:List En)(x:Dr):List En:=if out.any (fun y=>y.u == (F6 x).u||y.s == (F6 x).s)=true then out else out ++ [F6 x]
def IJ(d:List Dr):List En:=(d.take 8).foldl Gc []
theorem Ale:∀k,k<12→nameB (NI.getD k [])=true:=by decide +kernel
theorem Abu:∀k,k<4→(P4.getD k []).length<=80/\(P4.getD k []).any (Dd 32)=false:=by decide +kernel
theorem AoC(b:UInt8):[33+b%90].any (Dd 33)=false:=by
 have h1:(b%90).toNat<90:=by rw [UInt8.toNat_mod];exact Nat.mod_lt _ (by decide)
 have h2:(33+b%90).toNat=33+(b%90).toNat:=by rw [UInt8.toNat_add];exact Nat.mod_eq_of_lt (by show 33+(b%90).toNat<256;omega)
 simp only [List.any_cons,List.any_nil,Bool.or_false];unfold Dd;rw [h2,decide_eq_false (by omega),decide_eq_false (by omega)]
 rfl
theorem AkN(x:Dr):JK (F6 x):=
 ⟨Ale _ (Nat.mod_lt _ (by decide)),rfl,AoC _,by show 1<=1+((x.p.toNat%5:Nat):Int);omega,by show 1+((x.p.toNat%5:Nat):Int)<=5;omega,(Abu _ (Nat.mod_lt _ (by decide))).1,(Abu _ (Nat.mod_lt _ (by decide))).2⟩
theorem AkR{out:List En}(x:Dr)(hg:∀e∈out,JK e)(hp:out.Pairwise Mx):(∀e∈Gc out x,JK e)/\(Gc out x).Pairwise Mx/\(Gc out x).length<=out.length+1:=by
 unfold Gc
 split
 ·exact⟨hg,hp,by omega⟩
 ·rename_i h
  rw [Bool.not_eq_true,List.any_eq_false]at h;refine⟨fun e he=>?_,List.pairwise_append.2 ⟨hp,by simp,fun a ha b hb=>?_⟩,by simp⟩
  ·rcases List.mem_append.1 he with h|h
   ·exact hg e h
   ·rw [List.mem_singleton.1 h];exact AkN x
  ·rw [List.mem_singleton.1 hb];have:=h a ha;simp only [Bool.or_eq_true,beq_iff_eq,not_or]at this;exact this
theorem Yi:∀(d:List Dr) (out:List En),(∀e∈out,JK e)→out.Pairwise Mx→(∀e∈d.foldl Gc out,JK e)/\(d.foldl Gc out).Pairwise Mx/\(d.foldl Gc out).length<=out.length+d.length
 | [],_,hg,hp=>⟨hg,hp,by simp⟩
 | x::d,out,hg,hp=>by obtain⟨h1,h2,h3⟩:=AkR x hg hp;have h:=Yi d _ h1 h2;exact⟨h.1,h.2.1,by have:=h.2.2;simp only [List.foldl_cons,List.length_cons];omega⟩
theorem AkQ(d:List Dr):Dh (IJ d)=0/\(IJ d).length<=8:=by
 obtain⟨h1,h2,h3⟩:=Yi (d.take 8) [] (by simp) List.Pairwise.nil
 have h4:(IJ d).length<=8:=by have:(d.take 8).length<=8:=(by simp;omega);have h5:([]:List En).length=0:=rfl;unfold IJ;omega
 exact⟨AeG (by omega) h1 h2,h4⟩
end Kl
namespace Kl
open Go Go.Sort
open Go.Proofs (ltOf)
open Go.Lib (compareBytes)
theorem tY:∀a:Bs,compareBytes a a=0
 | []=>rfl
 | x::a=>by unfold compareBytes;rw [if_neg (UInt8.lt_irrefl x),if_neg (UInt8.lt_irrefl x),tY a]
theorem VN:∀{a b:Bs},compareBytes a b=0→a=b
 | [],[],_=>rfl
 | [],_::_,h=>by simp [compareBytes]at h
 | _::_,[],h=>by simp [compareBytes]at h
 | x::a,y::b,h=>by
  unfold compareBytes at h;by_cases h1:x<y
  ·rw [if_pos h1]at h;omega
  ·rw [if_neg h1]at h;by_cases h2:y<x
   ·rw [if_pos h2]at h;omega
   ·rw [if_neg h2]at h
    have:x=y:=by apply UInt8.toNat_inj.1;rw [UInt8.lt_iff_toNat_lt]at h1 h2;omega
    rw [this,VN h]
theorem Qa:∀(a b:Bs),compareBytes b a =-compareBytes a b
 | [],[]=>rfl
 | [],_::_=>by simp [compareBytes]
 | _::_,[]=>by simp [compareBytes]
 | x::a,y::b=>by
  unfold compareBytes;have h3:=Qa a b;by_cases h1:x<y
  ·have h2:¬y<x:=(by rw [UInt8.lt_iff_toNat_lt]at *;omega);rw [if_pos h1,if_neg h2,if_pos h1];rfl
  ·by_cases h2:y<x
   ·rw [if_pos h2,if_neg h1,if_pos h2]
   ·rw [if_neg h1,if_neg h2,if_neg h2,if_neg h1];exact h3
theorem aU:∀{a b c:Bs},compareBytes a b<0→compareBytes b c<0→compareBytes a c<0
 | [],_,[],h1,h2=>by
  rename_i b
  have:=Qa [] b;omega
 | [],_,_::_,_,_=>by simp [compareBytes]
 | _::_,[],_,h1,_=>by simp [compareBytes]at h1
 | _::_,_::_,[],_,h2=>by simp [compareBytes]at h2
 | x::a,y::b,z::c,h1,h2=>by
  unfold compareBytes at h1 h2 ⊢;simp only [UInt8.lt_iff_toNat_lt]at *;by_cases e1:x.toNat<y.toNat
  ·by_cases e2:y.toNat<z.toNat
   ·rw [if_pos (by omega)];omega
   ·rw [if_neg e2]at h2;by_cases e3:z.toNat<y.toNat
    ·rw [if_pos e3]at h2;omega
    ·rw [if_pos (by omega)];omega
  ·rw [if_neg e1]at h1;by_cases e2:y.toNat<x.toNat
   ·rw [if_pos e2]at h1;omega
   ·rw [if_neg e2]at h1;by_cases e3:y.toNat<z.toNat
    ·rw [if_pos (by omega)];omega
    ·rw [if_neg e3]at h2;by_cases e4:z.toNat<y.toNat
     ·rw [if_pos e4]at h2;omega
     ·rw [if_neg e4]at h2;rw [if_neg (by omega),if_neg (by omega)];exact aU h1 h2
def Cz(c:List La)(a b:Bs):Int:=if Jj (BQ c b) (BQ c a)≠0 then Jj (BQ c b) (BQ c a)else compareBytes a b
theorem AeP(x y:Int):Jj x y<0↔x<y:=by unfold Jj;split<;>(try split)<;>omega
theorem AeQ(x y:Int):Jj x y=0↔x=y:=by unfold Jj;split<;>(try split)<;>omega
theorem uS(c:List La)(a b:Bs):Cz c a b<0↔BQ c b<BQ c a∨(BQ c b=BQ c a/\compareBytes a b<0):=by
 unfold Cz;have h1:=AeP (BQ c b) (BQ c a);have h2:=AeQ (BQ c b) (BQ c a)
 split<;>omega
theorem ut(c:List La)(a b:Bs):ltOf (Cz c) a b=true↔BQ c b<BQ c a∨(BQ c b=BQ c a/\compareBytes a b<0):=by
 unfold ltOf;rw [decide_eq_true_iff,uS]
theorem uv(c:List La)(a b:Bs):ltOf (Cz c) a b=false↔¬(BQ c b<BQ c a∨(BQ c b=BQ c a/\compareBytes a b<0)):=by
 rw [←ut];simp
theorem YW(c:List La):SWO (ltOf (Cz c)) where
 irrefl x:=by rw [uv,tY];omega
 trans x y z h1 h2:=by rw [ut]at *;have:=@aU x y z;omega
 ntrans x y z h1 h2:=by
  rw [uv]at *;have s1:=Qa x y;have s2:=Qa y z;have s3:=Qa x z;by_cases e1:compareBytes x y=0
  ·have:=VN e1;subst this;omega
  ·by_cases e2:compareBytes y z=0
   ·have:=VN e2;subst this;omega
   ·have:=@aU z y x;omega
theorem Abv(c:List La)(x y:Bs)(h1:ltOf (Cz c) x y=false)(h2:ltOf (Cz c) y x=false):x=y:=by
 have e1:¬Cz c x y<0:=(by simpa [ltOf]using h1);have e2:¬Cz c y x<0:=(by simpa [ltOf]using h2);rw [uS]at e1 e2;have s1:=Qa x y;exact VN (by omega)
def G3(c:List La)(l:List Bs):List Bs:=l.mergeSort (fun x y=>!ltOf (Cz c) y x)
end Kl
namespace Kl
open Go Go.Sort
def Cw(F:List Bs):List Bs:=Lib.compact ((F.filter (fun s=>s != [])).mergeSort (fun x y=>decide (x<=y)))
def P5:Bs:=[32,116,111,32]
def Yj(y:La):Bs:=if y.mx = [] then [45] else y.mx
def G4(u t:Bs)(y:La):Bs:=if y.u=u then y.mn++P5++Yj y else t
def textU(c:List La)(u:Bs):Bs:=c.foldl (G4 u) []
def SI(c:List La)(i:Nat)(u:Bs):En:=⟨u,[UInt8.ofNat (97+i)],1+((i%5:Nat):Int),textU c u⟩
def D8(c:List La)(l:List Bs):List En:=l.zipIdx.map fun p=>SI c p.2 p.1
theorem Ow(c:List La)(l:List Bs):(D8 c l).length=l.length:=by simp [D8]
theorem VR(c:List La)(l:List Bs){i:Nat}(h:i<l.length)(h':i<(D8 c l).length):(D8 c l)[i]=SI c i l[i]:=by simp [D8]
theorem Afc(c:List La)(l:List Bs){i:Nat}(h:i<l.length):D8 c (l.take (i+1))=D8 c (l.take i) ++ [SI c i l[i]]:=by
 apply List.ext_getElem
 ·simp [Ow];omega
 ·intro j h1 h2;rw [Ow,List.length_take]at h1;rw [VR c _ (by simp;omega),List.getElem_take];by_cases hj:j<i
  ·rw [List.getElem_append_left (by rw [Ow];simp;omega),VR c _ (by simp;omega),List.getElem_take]
  ·have:j=i:=(by omega);subst this;have e:(D8 c (l.take j)).length=j:=(by rw [Ow,List.length_take];omega);rw [List.getElem_append_right (by omega)];simp
def MO(c:List La)(F:List Bs):Int:=
 if (Cw F).any (fun u=>!nameB u)=true then 8 else if 20<(Cw F).length then 4 else if (D8 c (G3 c (Cw F))).any (fun x=>decide (80<x.t.length))=true then 16 else 0
end Kl
namespace Kl
open Classical
noncomputable def rv(l:Bs):Rat:=if h:∃q,l=R q then Classical.choose h else 0
theorem YH(q:Rat):rv (R q)=q:=by
 unfold rv;have h:∃p,R q=R p:=⟨q,rfl⟩;rw [dif_pos h];exact(Sx (Classical.choose_spec h)).symm
theorem Aa3{l:Bs}(h:Cc l):l=R (rv l)/\(D (rv l).num.natAbs).length<=200/\(D (rv l).den).length<=200:=by
 obtain⟨q,rfl,h1,h2⟩:=h;rw [YH];exact⟨rfl,h1,h2⟩
noncomputable def colS(b:List La)(x:La):Int:=
 if ¬Cc x.mn then 2 else if x.mx≠[]/\¬Cc x.mx then 2 else if nameB x.u=false then 8 else if 0<=BQ b x.u then 9 else if rv x.mn<0 then 3
 else if x.mx≠[]/\rv x.mx<rv x.mn then 6 else 0
noncomputable def Lg(b:List La):List La→Int
 | []=>0
 | x::r=>if colS b x=0 then Lg (b ++ [x]) r else colS b x
noncomputable def MN(l:List La):Int:=if l.length=0 then 13 else if 60<l.length then 4 else Lg [] l
theorem AeW{b:List La}{l:List La}{k:Nat}(h:k<l.length)(hb:b=l.take k):Lg b (l.drop k)=if colS b l[k]=0 then Lg (l.take (k+1)) (l.drop (k+1))else colS b l[k]:=by
 rw [List.drop_eq_getElem_cons h,hb,List.take_succ_eq_append_getElem h]
 rfl
theorem bG{b:List La}{u:Bs}{p:Rat}{m:Option Rat}(h1:Cc (R p))(h2:∀q,m=some q→Cc (R q)/\R q≠[]/\p<=q)(h3:nameB u=true)(h4:∀y∈b,y.u≠u)(h5:0<=p) :
  colS b ⟨u,R p,m.elim [] R⟩=0:=by
 have hp:BQ b u = -1:=Rb fun y hy=>(by simpa using h4 y hy);unfold colS;simp only [hp,h3,YH];rw [if_neg (by simpa using h1)]
 cases m with
 | none=>
  rw [if_neg (by simp),if_neg (by simp),if_neg (by omega),if_neg (by exact Rat.not_lt.2 h5),if_neg (by simp)]
 | some q=>obtain⟨a1,a2,a3⟩:=h2 q rfl;simp only [Option.elim_some,YH];rw [if_neg (by simp [a1]),if_neg (by simp),if_neg (by omega),if_neg (by exact Rat.not_lt.2 h5),if_neg (by rintro⟨_,h⟩;exact absurd a3 (Rat.not_le.2 h))]
end Kl
namespace Go.Proofs.YtbejphgbbpplbaaGreatDoor
open Go.RowKit Kl
def az(l:List Int)(i:Nat):Int:=l.getD i 0
def zs(l:List Int):List Value:=l.map fun x=>.int .i64 x
def zn(l:List Nat):List Int:=l.map fun (x:Nat)=>(x:Int)
theorem AbO(l:List Nat):(zn l).length=l.length:=by simp [zn]
theorem AdV(l:List Nat)(i:Nat):az (zn l) i=(AM l i:Nat):=by
 unfold az zn AM;rw [List.getD_eq_getElem?_getD,List.getD_eq_getElem?_getD,List.getElem?_map]
 cases l[i]?<;>rfl
theorem Ap5{l:List Int}{j:Nat}(h:j<l.length):(zs l)[j]?=some (.int .i64 (az l j)):=by
 unfold zs az;rw [List.getElem?_map,List.getD_eq_getElem?_getD,Asf h];rfl
def D3:List Int→Int
 | []=>0
 | x::l=>x+10000*D3 l
theorem xl:∀l:List Nat,D3 (zn l)=(AE 10000 l:Nat)
 | []=>rfl
 | x::l=>by have e:zn (x::l)=(x:Int)::zn l:=rfl;rw [e,D3,AE,xl l];omega
theorem Alw(l m:List Int):D3 (l++m)=D3 l+10000^l.length*D3 m:=by
 induction l with
 | nil=>simp [D3]
 | cons x l ih=>simp only [List.cons_append,D3,ih,List.length_cons,Int.pow_succ,Int.mul_add];rw [Int.mul_comm ((10000:Int)^l.length) 10000,Int.mul_assoc];omega
theorem xk(l:List Int)(x:Int):D3 (l ++ [x])=D3 l+10000^l.length*x:=by rw [Alw];simp [D3]
theorem xj:∀{l:List Int} {j:Nat} (y:Int),j<l.length→D3 (l.set j y)=D3 l+10000^j*(y-az l j)
 | x::l,0,y,_=>by simp [D3,az];omega
 | x::l,j+1,y,h=>by have ih:=xj (l:=l) (j:=j) y (by simpa using h);have e:az (x::l) (j+1)=az l j:=(by simp [az]);rw [List.set_cons_succ,D3,D3,ih,e,Int.mul_add,Int.pow_succ,Int.mul_comm ((10000:Int)^j) 10000,Int.mul_assoc];omega
theorem AoG{l:List Int}{k:Nat}(h:k<l.length):l.take (k+1)=l.take k ++ [az l k]:=by
 rw [Asd h];simp [az,h]
theorem zh(n:Nat):((10000:Int)^n)=((10000^n:Nat):Int):=by simp
/-! ### carry -/
def cB:Int:=1000000000000000
structure Oa(l:List Int)(i:Nat)(out:List Nat)(over:Int):Prop where
 len:out.length=i
 lt:∀x∈out,x<10000
 lo:-1000000000000000<=over
 hi:over<=1000000000000000
 sum:(AE 10000 out:Int)+10000^i*over=D3 (l.take i)
theorem Oa.start(l:List Int):Oa l 0 [] 0:=⟨rfl,by simp,by omega,by omega,by simp [AE,D3]⟩
theorem Oa.step{l:List Int}{i:Nat}{out:List Nat}{over x s:Int}{n:Nat}(h:Oa l i out over)(hx:x=if i<l.length then az l i else 0)(hs:s=over+x)(hb1:-1000000000000000<=x)(hb2:x<=1000000000000000)(hn:(n:Int)=s%10000) :
  Oa l (i+1) (out ++ [n]) ((s-n)/10000):=by
 have hl:=h.lo;have hh:=h.hi;refine⟨by rw [List.length_append,h.len];rfl,?_,by omega,by omega,?_⟩
 ·intro y hy
  rcases List.mem_append.1 hy with hy|hy
  ·exact h.lt y hy
  ·simp at hy;subst hy;omega
 ·have e1:D3 (l.take (i+1))=D3 (l.take i)+10000^i*x:=by
   by_cases hi:i<l.length
   ·rw [if_pos hi]at hx;rw [AoG hi,xk,List.length_take,Nat.min_eq_left (by omega),hx]
   ·rw [if_neg hi]at hx;rw [Asi (by omega),Asi (by omega),hx];simp
  have LQ:=h.sum;rw [e1,←LQ,He,h.len,Int.pow_succ];have e2:s=n+10000*((s-n)/10000):=(by omega);rw [Int.natCast_add,Int.natCast_mul,←zh,Int.mul_assoc,Int.add_assoc,Int.add_assoc,←Int.mul_add,←Int.mul_add,←hs,←e2]
theorem Oa.done{l:List Int}{i N:Nat}{out:List Nat}(h:Oa l i out 0)(hi:l.length<=i)(hN:D3 l=(N:Int)):AE 10000 out=N:=by
 have hs:=h.sum;rw [Asi hi]at hs;simp at hs;omega
/-! ### joined -/
structure JU(p q:List Nat)(k:Int)(i:Nat)(out:List Int):Prop where
 le:i<=q.length
 len:i<=out.length
 len2:out.length<=p.length+i+1
 bd:∀j,-100000000*(10000:Int)<=az out j/\az out j<=100000000*10000
 bd2:∀j,i<=j→0<=az out j/\az out j<10000
 sum:D3 out=(AE 10000 p:Int)+k*(AE 10000 (q.take i):Nat)
theorem AdU{l:List Int}{j:Nat}(h:l.length<=j):az l j=0:=by unfold az;rw [List.getD_eq_getElem?_getD,List.getElem?_eq_none h];rfl
theorem tB{p:List Nat}(hp:∀x∈p,x<10000)(j:Nat):0<=az (zn p) j/\az (zn p) j<10000:=by
 by_cases h:j<p.length
 ·rw [AdV];have:=MJ hp h;omega
 ·rw [AdU (by rw [AbO];omega)];omega
theorem JU.start{p:List Nat}(hp:∀x∈p,x<10000)(q:List Nat)(k:Int):JU p q k 0 (zn p):=
 ⟨by omega,by omega,by rw [AbO];omega,fun j=>by have:=tB hp j;omega,fun j _=>tB hp j,by rw [xl];simp [AE]⟩
theorem tA(l:List Int)(j:Nat):az (l ++ [0]) j=az l j:=by
 unfold az;rw [List.getD_eq_getElem?_getD,List.getD_eq_getElem?_getD]
 rcases Nat.lt_trichotomy j l.length with h|h|h
 ·rw [List.getElem?_append_left h]
 ·subst h;rw [List.getElem?_append_right (by omega),List.getElem?_eq_none (ArZ _)];simp
 ·rw [List.getElem?_eq_none (by simp;omega),List.getElem?_eq_none (by omega)]
theorem JU.grow{p q:List Nat}{k:Int}{i:Nat}{out:List Int}(h:JU p q k i out)(hl:out.length<=i):JU p q k i (out ++ [0]):=
 ⟨h.le,by have:=h.len;simp;omega,by have:=h.len;have:=h.len2;simp at *;omega,fun j=>by rw [tA];exact h.bd j,fun j hj=>by rw [tA];exact h.bd2 j hj,by rw [xk,h.sum];simp⟩
theorem sZ{l:List Int}{i:Nat}(y:Int)(hi:i<l.length)(j:Nat):az (l.set i y) j=if j=i then y else az l j:=by
 unfold az;rw [List.getD_eq_getElem?_getD,List.getD_eq_getElem?_getD];by_cases h:j=i
 ·subst h;rw [if_pos rfl,List.getElem?_set_self hi];rfl
 ·rw [if_neg h,List.getElem?_set_ne (by omega)]
theorem AkW{k:Int}{x:Nat}(h1:-10000<=k)(h2:k<=10000)(hx:x<10000):-100000000<=k*(x:Int)/\k*(x:Int)<=100000000:=by
 have a1:(-10000:Int)*x<=k*x:=Int.mul_le_mul_of_nonneg_right h1 (by omega);have a2:k*x<=(10000:Int)*x:=Int.mul_le_mul_of_nonneg_right h2 (by omega);omega
theorem JU.step{p q:List Nat}{k:Int}{i:Nat}{out:List Int}(h:JU p q k i out)(hi:i<q.length)(hl:i<out.length)(hq:∀x∈q,x<10000)(h1:-10000<=k)(h2:k<=10000) :
  JU p q k (i+1) (out.set i (az out i+k*(AM q i:Nat))):=by
 have hm:=AkW h1 h2 (MJ hq hi);refine⟨hi,by rw [List.length_set];omega,by have:=h.len2;rw [List.length_set];omega,fun j=>?_,fun j hj=>?_,?_⟩
 ·rw [sZ _ hl]
  split
  ·have:=h.bd2 i (ArZ _);omega
  ·exact h.bd j
 ·rw [sZ _ hl,if_neg (by omega)];exact h.bd2 j (by omega)
 ·rw [xj _ hl,h.sum,NX hi,He,List.length_take,Nat.min_eq_left (by omega),Int.natCast_add,Int.natCast_mul,←zh,Int.mul_add];have e:az out i+k*(AM q i:Nat)-az out i=k*(AM q i:Nat):=(by omega);rw [e,Int.mul_left_comm,Int.add_assoc]
theorem JU.done{p q:List Nat}{k:Int}{out:List Int}(h:JU p q k q.length out):D3 out=(AE 10000 p:Int)+k*(AE 10000 q:Nat)/\(∀x∈out,-1000000000000000<=x/\x<=1000000000000000)/\out.length<=p.length+q.length+1:=by
 refine⟨by rw [h.sum,List.take_length],fun x hx=>?_,h.len2⟩;obtain⟨j,hj,rfl⟩:=List.getElem_of_mem hx;have:=h.bd j;have e:az out j=out[j]:=(by unfold az;rw [List.getD_eq_getElem?_getD,Asf hj];rfl);rw [e]at this;omega
/-! ### times -/
structure PR(n i k x:Nat)(q out:List Nat)(v:Nat):Prop where
 le:k<=q.length
 len:out.length=n
 bd:∀j,AM out j<=(if j<i+k then i+1 else i)*100000000
 sum:AE 10000 out=v+10000^i*(x*AE 10000 (q.take k))
theorem sY{l:List Nat}{i:Nat}(y:Nat)(hi:i<l.length)(j:Nat):AM (l.set i y) j=if j=i then y else AM l j:=by
 unfold AM;rw [List.getD_eq_getElem?_getD,List.getD_eq_getElem?_getD];by_cases h:j=i
 ·subst h;rw [if_pos rfl,List.getElem?_set_self hi];rfl
 ·rw [if_neg h,List.getElem?_set_ne (by omega)]
theorem PR.step{n i k x v:Nat}{q out:List Nat}(h:PR n i k x q out v)(hk:k<q.length)(hn:i+k<n)(hx:x<10000)(hq:∀y∈q,y<10000) :
  PR n i (k+1) x q (out.set (i+k) (AM out (i+k)+x*AM q k)) v:=by
 have hl:=h.len;have hy:=MJ hq hk;have hm:x*AM q k<=100000000:=Asl (Nat.mul_le_mul (Nat.le_of_lt hx) (Nat.le_of_lt hy)) (by omega);refine⟨hk,by rw [List.length_set];exact hl,fun j=>?_,?_⟩
 ·rw [sY _ (by omega)];have h1:=h.bd j
  split
  ·subst j;rw [if_neg (by omega)]at h1;rw [if_pos (by omega)];omega
  ·by_cases hj:j<i+k
   ·rw [if_pos hj]at h1;rw [if_pos (by omega)];exact h1
   ·rw [if_neg hj]at h1;rw [if_neg (by omega)];exact h1
 ·have hs:=UB (b:=10000) (l:=out) (j:=i+k) (AM out (i+k)+x*AM q k) (by omega);have h2:=h.sum;rw [NX hk,He,List.length_take,Nat.min_eq_left (by omega),Nat.mul_add x,Nat.mul_add (10000^i)]
  have e:10000^i*(x*(10000^k*AM q k))=10000^(i+k)*(x*AM q k):=by rw [Nat.pow_add,Nat.mul_left_comm x,Nat.mul_assoc]
  rw [e];rw [Nat.mul_add]at hs;omega
theorem PR.next{n i x v:Nat}{p q out:List Nat}(h:PR n i q.length x q out v)(hx:x=AM p i)(hi:i<p.length)(hv:v=AE 10000 (p.take i)*AE 10000 q)(y:Nat) :
  PR n (i+1) 0 y q out (AE 10000 (p.take (i+1))*AE 10000 q):=by
 refine⟨by omega,h.len,fun j=>?_,?_⟩
 ·have h1:=h.bd j;refine Asl h1 (Nat.mul_le_mul_right _ ?_);by_cases a:j<i+q.length
  ·rw [if_pos a];by_cases b:j<i+1+0
   ·rw [if_pos b];omega
   ·rw [if_neg b];omega
  ·rw [if_neg a];by_cases b:j<i+1+0
   ·rw [if_pos b];omega
   ·rw [if_neg b];omega
 ·rw [h.sum,List.take_length,hv,hx,NX hi,He,List.length_take,Nat.min_eq_left (by omega),Nat.add_mul];simp [AE,Nat.mul_assoc]
/-! ### parts: one digit of a quotient -/
theorem Ae3{W:World}{b o:Nat}{cs:Array Value}{t:TypeId}{fz:Nat×Nat}{v:Value}(h:W.heap[b]?=some (.cells cs t fz))(hv:cs[o]?=some v):W.cell? ⟨b,o,none⟩=some v:=by
 unfold World.cell?;simp [h,hv]
structure Lc(w:World)(A:Option Addr)(c:Nat)(l:List Int):Prop where
 cap:l.length<=c
 max:c<=9223372036854775807
 len:l.length<=100000
 ad:0<l.length→∃b o,A=some ⟨b,o,none⟩/\∀j,j<l.length→w.cell? ⟨b,o+j,none⟩=some (.int .i64 (az l j))
def RZ(w:World)(v:Value)(l:List Int):Prop:=∃A c,v=.slice A l.length c/\Lc w A c l
theorem Lc.ext{w w':World}{A:Option Addr}{c:Nat}{l:List Int}(h:Lc w A c l)(hx:Aa w w'):Lc w' A c l:=
 ⟨h.cap,h.max,h.len,fun h0=>by
  obtain⟨b,o,e,hc⟩:=h.ad h0
  exact⟨b,o,e,fun j hj=>hx.cellS (hc j hj)⟩⟩
theorem RZ.ext{w w':World}{v:Value}{l:List Int}(h:RZ w v l)(hx:Aa w w'):RZ w' v l:=by
 obtain⟨A,c,e,h⟩:=h;exact⟨A,c,e,h.ext hx⟩
theorem RZ.nil(w:World):RZ w (.slice none 0 0) (zn []):=⟨none,0,rfl,by simp [zn],by omega,by simp [zn],fun h=>by simp [zn]at h⟩
theorem RZ.lit(w:World)(l:List Int)(t:TypeId)(hl:l.length<=100000):RZ (w.alloc (.cells (zs l).toArray t)) (.slice (some ⟨w.heap.size,0,none⟩) l.length l.length) l:=
 ⟨some ⟨w.heap.size,0,none⟩,l.length,rfl,ArZ _,by omega,hl,fun _=>⟨w.heap.size,0,rfl,fun j hj=>by
  refine Ae3 (ArY w _) ?_;rw [Nat.zero_add,←Array.getElem?_toList]
  exact Ap5 hj⟩⟩
theorem Lc.take{w:World}{A:Option Addr}{c:Nat}{l:List Int}(h:Lc w A c l){k:Nat}(hk:k<=l.length):RZ w (.slice A k c) (l.take k):=by
 have e:(l.take k).length=k:=(by rw [List.length_take];omega);refine⟨A,c,by rw [e],by have:=h.cap;omega,h.max,by have:=h.len;omega,fun h0=>?_⟩;obtain⟨b,o,e1,hc⟩:=h.ad (by omega);refine⟨b,o,e1,fun j hj=>?_⟩
 have:az (l.take k) j=az l j:=by rw [e]at hj;simp [az,hj]
 rw [this];exact hc j (by omega)
theorem Tryz.infoI:(Tryz.prog.info? 3).map (fun i=>(i.zero,i.size,i.bytes))=some (some (.int .i64 0),1,8):=by kernel_rfl
theorem lL(n:Nat)(hn:n<=200000)(c:Int)(hc:c=(n:Int))(W:World) :
  (Instr.makeSlice 69 (.int .i64 c) (.int .i64 c)).run Tryz.prog W=.ok (.slice (some ⟨W.heap.size,0,none⟩) n n) (W.alloc (.cells (madeCells #[.int .i64 0] n) 3)):=by
 subst hc;obtain⟨i0,hi,hz0,hz1,hz2⟩:=info_parts Tryz.infoI;have h:=run_make (P:=Tryz.prog) W 69 3 i0 (.int .i64 0) Tryz.underlying69 hi hz0 .i64 .i64 n n (by omega) (by omega) (by rw [hz2];omega) (by omega);rw [hz1,Nat.mul_one]at h;simp only [Int.toNat_natCast]at h;exact h
theorem Y6(W:World)(base n:Nat)(hb:base<=W.heap.size)(hn:n<=200000) :
  (W.alloc (.cells (madeCells #[.int .i64 0] n) 3)).ownsRow base 3 1 (.slice (some ⟨W.heap.size,0,none⟩) n n) n (zs (zn (List.replicate n 0))):=by
 have h:=World.ownsRow_lit (w:=W) (base:=base) (e:=3) (size:=1) (madeCells #[.int .i64 0] n) n hb (by unfold maxLen;omega) (by rw [size_madeCells];omega);rw [toList_madeCells_one]at h
 simpa [zs,zn]using h
section
variable {ops : Array Oper} {rest : List Oper} {o : Oper} {a : Act} {Q : Exit → Act → World → Prop}
end
/-! ### take -/
structure S7(n:Nat)(s:Bs)(e:Nat)(o:List Nat):Prop where
 le:e<=s.length
 lt:∀x∈o,x<10000
 len:e+o.length<=s.length
 sum:n=val (s.take e)*10000^o.length+AE 10000 o
theorem S7.start(s:Bs):S7 (val s) s s.length []:=⟨ArZ _,by simp,by simp,by simp [AE]⟩
theorem Api{l:Bs}(h:Cb l)(hl:l.length<=4):val l<10000:=by
 have h1:=KQ h;have h2:10^l.length<=10^4:=Nat.pow_le_pow_right (by omega) hl;have h3:(10:Nat)^4=10000:=(by decide);omega
theorem S7.step{n:Nat}{s:Bs}{e:Nat}{o:List Nat}(h:S7 n s e o)(ha:Cb s)(h0:0<e):S7 n s (e-4) (o ++ [val ((s.take e).drop (e-4))]):=by
 have hd:Cb ((s.take e).drop (e-4)):=sK (ZX ha e) _;have Ce:((s.take e).drop (e-4)).length=e-(e-4):=(by rw [List.length_drop,List.length_take,Nat.min_eq_left h.le]);have hv:=Api hd (by omega);have hle:=h.le;refine⟨by omega,?_,by have:=h.len;rw [List.length_append,List.length_singleton];omega,?_⟩
 ·intro x hx
  rcases List.mem_append.1 hx with hx|hx
  ·exact h.lt x hx
  ·simp at hx;subst hx;exact hv
 ·have hs:val (s.take e)=val (s.take (e-4))*10000+val ((s.take e).drop (e-4)):=by
   conv=>lhs;rw [←List.take_append_drop (e-4) (s.take e)]
   rw [val_append,Ce,List.take_take,Nat.min_eq_left (by omega)];by_cases h4:4<=e
   ·rw [show e-(e-4)=4 by omega]
   ·rw [show e-4=0 by omega];simp [Mw]
  rw [He,List.length_append,List.length_singleton,Nat.pow_succ];have:=h.sum;rw [hs]at this;rw [this];generalize 10000^o.length=p;generalize val (s.take (e-4))=a;generalize val ((s.take e).drop (e-4))=b;rw [Nat.add_mul,Nat.mul_assoc,Nat.mul_comm 10000 p,Nat.mul_comm b p];omega
end Go.Proofs.YtbejphgbbpplbaaGreatDoor
