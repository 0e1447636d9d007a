/- X06: SortM LP Draw LC Drn. -/
import Derived.Shelf.SlLaysF0
import Derived.Shelf.SlLaysF
import Derived.Test.YtjalkoacphhgdaaGreatDoorX02
namespace Go.Proofs
open Go.Shelf
def Tryz.laysSortEn_ren:Go.Shelf.Ren:=⟨fun|6=>23|15=>64|14=>63|28=>130|29=>131|20=>122|21=>123|22=>124|23=>125|24=>126|25=>127|26=>128|27=>129|46=>202|47=>203|48=>204|49=>205|50=>206|57=>269|n=>n,fun|22=>26|24=>40|25=>63|3=>3|39=>113|0=>0|53=>182|55=>184|4=>4|46=>176|45=>175|50=>156|5=>5|9=>9|66=>258|70=>262|76=>313|77=>314|n=>n,fun|n=>n⟩
theorem Tryz.laysSortEn:Go.Proofs.SlLaysF0.n6 Tryz.prog Tryz.laysSortEn_ren:={
 mixed:=by kernel_rfl
 f6:=⟨Tryz.f23.name,by decide,Tryz.func23.trans (congrArg some (by kernel_rfl))⟩
 f14:=⟨Tryz.f63.name,by decide,Tryz.func63.trans (congrArg some (by kernel_rfl))⟩
 f15:=Tryz.func64.trans (congrArg some (by kernel_rfl))
 f20:=⟨Tryz.f122.name,by decide,Tryz.func122.trans (congrArg some (by kernel_rfl))⟩
 f21:=⟨Tryz.f123.name,by decide,Tryz.func123.trans (congrArg some (by kernel_rfl))⟩
 f22:=⟨Tryz.f124.name,by decide,Tryz.func124.trans (congrArg some (by kernel_rfl))⟩
 f23:=⟨Tryz.f125.name,by decide,Tryz.func125.trans (congrArg some (by kernel_rfl))⟩
 f24:=⟨Tryz.f126.name,by decide,Tryz.func126.trans (congrArg some (by kernel_rfl))⟩
 f25:=⟨Tryz.f127.name,by decide,Tryz.func127.trans (congrArg some (by kernel_rfl))⟩
 f26:=⟨Tryz.f128.name,by decide,Tryz.func128.trans (congrArg some (by kernel_rfl))⟩
 f27:=⟨Tryz.f129.name,by decide,Tryz.func129.trans (congrArg some (by kernel_rfl))⟩
 f28:=Tryz.func130.trans (congrArg some (by kernel_rfl))
 f29:=Tryz.func131.trans (congrArg some (by kernel_rfl))
 f46:=⟨Tryz.f202.name,by decide,Tryz.func202.trans (congrArg some (by kernel_rfl))⟩
 f47:=Tryz.func203.trans (congrArg some (by kernel_rfl))
 f48:=Tryz.func204.trans (congrArg some (by kernel_rfl))
 f49:=⟨Tryz.f205.name,by decide,Tryz.func205.trans (congrArg some (by kernel_rfl))⟩
 f50:=⟨Tryz.f206.name,by decide,Tryz.func206.trans (congrArg some (by kernel_rfl))⟩
 f57:=⟨Tryz.f269.name,by decide,Tryz.func269.trans (congrArg some (by kernel_rfl))⟩
 t0:=Tryz.underlying0
 a0:=Tryz.isAgg0
 z0:=Tryz.sizeOf0
 v0:=Tryz.zeroValue0
 t3:=Tryz.underlying3
 a3:=Tryz.isAgg3
 z3:=Tryz.sizeOf3
 v3:=Tryz.zeroValue3
 t4:=Tryz.underlying4
 a4:=Tryz.isAgg4
 z4:=Tryz.sizeOf4
 v4:=Tryz.zeroValue4
 t5:=Tryz.underlying5
 a5:=Tryz.isAgg5
 z5:=Tryz.sizeOf5
 v5:=Tryz.zeroValue5
 t9:=Tryz.underlying9
 a9:=Tryz.isAgg9
 z9:=Tryz.sizeOf9
 v9:=Tryz.zeroValue9
 t22:=Tryz.underlying26
 a22:=Tryz.isAgg26
 z22:=Tryz.sizeOf26
 v22:=Tryz.zeroValue26
 t25:=Tryz.underlying63
 a25:=Tryz.isAgg63
 z25:=Tryz.sizeOf63
 v25:=Tryz.zeroValue63
 t39:=Tryz.underlying113
 a39:=Tryz.isAgg113
 z39:=Tryz.sizeOf113
 v39:=Tryz.zeroValue113
 t45:=Tryz.underlying175
 a45:=Tryz.isAgg175
 z45:=Tryz.sizeOf175
 v45:=Tryz.zeroValue175
 t46:=Tryz.underlying176
 a46:=Tryz.isAgg176
 z46:=Tryz.sizeOf176
 v46:=Tryz.zeroValue176
 t50:=Tryz.underlying156
 a50:=Tryz.isAgg156
 z50:=Tryz.sizeOf156
 v50:=Tryz.zeroValue156
 t53:=Tryz.underlying182
 a53:=Tryz.isAgg182
 z53:=Tryz.sizeOf182
 v53:=Tryz.zeroValue182
 t55:=Tryz.underlying184
 a55:=Tryz.isAgg184
 z55:=Tryz.sizeOf184
 v55:=Tryz.zeroValue184
 t66:=Tryz.underlying258
 a66:=Tryz.isAgg258
 z66:=Tryz.sizeOf258
 v66:=Tryz.zeroValue258
 t70:=Tryz.underlying262
 a70:=Tryz.isAgg262
 z70:=Tryz.sizeOf262
 v70:=Tryz.zeroValue262
 t76:=Tryz.underlying313
 a76:=Tryz.isAgg313
 z76:=Tryz.sizeOf313
 v76:=Tryz.zeroValue313
 t77:=Tryz.underlying314
 a77:=Tryz.isAgg314
 z77:=Tryz.sizeOf314
 v77:=Tryz.zeroValue314}
def Tryz.laysSortSt_ren:Go.Shelf.Ren:=⟨fun|6=>40|15=>64|14=>95|28=>130|29=>131|20=>169|21=>170|22=>171|23=>172|24=>173|25=>174|26=>175|27=>176|46=>252|47=>203|48=>204|49=>253|50=>254|57=>302|n=>n,fun|22=>23|24=>9|25=>89|3=>3|39=>113|0=>0|53=>182|55=>184|4=>4|46=>176|45=>175|50=>156|5=>5|9=>9|66=>258|70=>262|76=>313|77=>314|n=>n,fun|n=>n⟩
theorem Tryz.laysSortSt:Go.Proofs.SlLaysF.n6 Tryz.prog Tryz.laysSortSt_ren:={
 mixed:=by kernel_rfl
 f6:=⟨Tryz.f40.name,by decide,Tryz.func40.trans (congrArg some (by kernel_rfl))⟩
 f14:=⟨Tryz.f95.name,by decide,Tryz.func95.trans (congrArg some (by kernel_rfl))⟩
 f15:=Tryz.func64.trans (congrArg some (by kernel_rfl))
 f20:=⟨Tryz.f169.name,by decide,Tryz.func169.trans (congrArg some (by kernel_rfl))⟩
 f21:=⟨Tryz.f170.name,by decide,Tryz.func170.trans (congrArg some (by kernel_rfl))⟩
 f22:=⟨Tryz.f171.name,by decide,Tryz.func171.trans (congrArg some (by kernel_rfl))⟩
 f23:=⟨Tryz.f172.name,by decide,Tryz.func172.trans (congrArg some (by kernel_rfl))⟩
 f24:=⟨Tryz.f173.name,by decide,Tryz.func173.trans (congrArg some (by kernel_rfl))⟩
 f25:=⟨Tryz.f174.name,by decide,Tryz.func174.trans (congrArg some (by kernel_rfl))⟩
 f26:=⟨Tryz.f175.name,by decide,Tryz.func175.trans (congrArg some (by kernel_rfl))⟩
 f27:=⟨Tryz.f176.name,by decide,Tryz.func176.trans (congrArg some (by kernel_rfl))⟩
 f28:=Tryz.func130.trans (congrArg some (by kernel_rfl))
 f29:=Tryz.func131.trans (congrArg some (by kernel_rfl))
 f46:=⟨Tryz.f252.name,by decide,Tryz.func252.trans (congrArg some (by kernel_rfl))⟩
 f47:=Tryz.func203.trans (congrArg some (by kernel_rfl))
 f48:=Tryz.func204.trans (congrArg some (by kernel_rfl))
 f49:=⟨Tryz.f253.name,by decide,Tryz.func253.trans (congrArg some (by kernel_rfl))⟩
 f50:=⟨Tryz.f254.name,by decide,Tryz.func254.trans (congrArg some (by kernel_rfl))⟩
 f57:=⟨Tryz.f302.name,by decide,Tryz.func302.trans (congrArg some (by kernel_rfl))⟩
 t0:=Tryz.underlying0
 a0:=Tryz.isAgg0
 z0:=Tryz.sizeOf0
 v0:=Tryz.zeroValue0
 t3:=Tryz.underlying3
 a3:=Tryz.isAgg3
 z3:=Tryz.sizeOf3
 v3:=Tryz.zeroValue3
 t4:=Tryz.underlying4
 a4:=Tryz.isAgg4
 z4:=Tryz.sizeOf4
 v4:=Tryz.zeroValue4
 t5:=Tryz.underlying5
 a5:=Tryz.isAgg5
 z5:=Tryz.sizeOf5
 v5:=Tryz.zeroValue5
 t9:=Tryz.underlying9
 a9:=Tryz.isAgg9
 z9:=Tryz.sizeOf9
 v9:=Tryz.zeroValue9
 t22:=Tryz.underlying23
 a22:=Tryz.isAgg23
 z22:=Tryz.sizeOf23
 v22:=Tryz.zeroValue23
 a24:=Tryz.isAgg9
 z24:=Tryz.sizeOf9
 t25:=Tryz.underlying89
 a25:=Tryz.isAgg89
 z25:=Tryz.sizeOf89
 v25:=Tryz.zeroValue89
 t39:=Tryz.underlying113
 a39:=Tryz.isAgg113
 z39:=Tryz.sizeOf113
 v39:=Tryz.zeroValue113
 t45:=Tryz.underlying175
 a45:=Tryz.isAgg175
 z45:=Tryz.sizeOf175
 v45:=Tryz.zeroValue175
 t46:=Tryz.underlying176
 a46:=Tryz.isAgg176
 z46:=Tryz.sizeOf176
 v46:=Tryz.zeroValue176
 t50:=Tryz.underlying156
 a50:=Tryz.isAgg156
 z50:=Tryz.sizeOf156
 v50:=Tryz.zeroValue156
 t53:=Tryz.underlying182
 a53:=Tryz.isAgg182
 z53:=Tryz.sizeOf182
 v53:=Tryz.zeroValue182
 t55:=Tryz.underlying184
 a55:=Tryz.isAgg184
 z55:=Tryz.sizeOf184
 v55:=Tryz.zeroValue184
 t66:=Tryz.underlying258
 a66:=Tryz.isAgg258
 z66:=Tryz.sizeOf258
 v66:=Tryz.zeroValue258
 t70:=Tryz.underlying262
 a70:=Tryz.isAgg262
 z70:=Tryz.sizeOf262
 v70:=Tryz.zeroValue262
 t76:=Tryz.underlying313
 a76:=Tryz.isAgg313
 z76:=Tryz.sizeOf313
 v76:=Tryz.zeroValue313
 t77:=Tryz.underlying314
 a77:=Tryz.isAgg314
 z77:=Tryz.sizeOf314
 v77:=Tryz.zeroValue314}
end Go.Proofs
namespace Kl
structure En where
 u:Bs
 s:Bs
 p:Int
 t:Bs
deriving DecidableEq
structure La where
 u:Bs
 mn:Bs
 mx:Bs
deriving DecidableEq
def CQ(f:Nat)(b:UInt8):Bool:=decide (b.toNat<f)||decide (126<b.toNat)
def H7(b:UInt8):Bool:=(decide (97<=b.toNat)&&decide (b.toNat<=122))||(decide (65<=b.toNat)&&decide (b.toNat<=90))
def KY(b:UInt8):Bool:=(decide (48<=b.toNat)&&decide (b.toNat<=57))||decide (b.toNat=95)
def nameB:Bs→Bool
 | []=>false
 | b::l=>decide (l.length < 32) && (H7 b && l.all (fun c=>H7 c || KY c))
def C5{α:Type}(p:α→Bool)(l:List α):Int:=match l.findIdx? p with|some j=>(j:Int)|none=>-1
theorem jA{α:Type}{p:α→Bool}{l:List α}{j:Nat}(hj:j<l.length)(hno:∀q∈l.take j,p q=false)(h:p l[j]=true):C5 p l=(j:Int):=by
 unfold C5
 have:l.findIdx? p=some j:=by rw [List.findIdx?_eq_some_iff_getElem];refine⟨hj,h,fun i hi=>?_⟩;rw [Bool.not_eq_true];refine hno l[i] ?_;rw [List.mem_take_iff_getElem];exact⟨i,by omega,rfl⟩
 rw [this]
theorem TJ{α:Type}{p:α→Bool}{l:List α}(hno:∀q∈l,p q=false):C5 p l = -1:=by
 unfold C5
 have:l.findIdx? p=none:=by rw [List.findIdx?_eq_none_iff];exact hno
 rw [this]
theorem iZ{α:Type}(p:α→Bool)(l:List α):decide (0<=C5 p l)=l.any p:=by
 unfold C5
 cases h:l.findIdx? p with
 | none=>
  rw [List.findIdx?_eq_none_iff]at h
  symm
  simp only [Int.reduceNeg,Int.reduceLE,decide_false,List.any_eq_false];intro x hx;rw [h x hx];simp
 | some j=>
  rw [List.findIdx?_eq_some_iff_getElem]at h;obtain⟨hj,h1,_⟩:=h;rw [decide_eq_true (by simp)]
  symm
  rw [List.any_eq_true];exact⟨_,List.getElem_mem hj,h1⟩
theorem Xn{α:Type}(p:α→Bool)(l:List α):-1<=C5 p l:=by
 unfold C5
 split<;>omega
theorem ky{α:Type}(p:α→Bool)(l:List α):C5 p l<(l.length:Int):=by
 unfold C5
 split
 ·rename_i j h
  rw [List.findIdx?_eq_some_iff_getElem]at h;obtain⟨hj,_⟩:=h;omega
 ·omega
def MC(l:List En)(u:Bs):Int:=C5 (fun e=>e.u == u) l
def CG(b:List En)(x:En):Int:=
 if nameB x.u=false then 8 else if 0<=MC b x.u then 9 else if x.s.length≠1 then 7 else if x.s.any (CQ 33)=true then 7
 else if b.any (fun y=>y.s == x.s)=true then 9 else if x.p<1 then 12 else if 5<x.p then 12 else if 80<x.t.length then 16 else if x.t.any (CQ 32)=true then 15 else 0
def IY(b:List En):List En→Int
 | []=>0
 | x::r=>if CG b x=0 then IY (b ++ [x]) r else CG b x
def DV(l:List En):Int:=if 20<l.length then 4 else IY [] l
theorem Ad2{b:List En}{l:List En}{k:Nat}(h:k<l.length)(hb:b=l.take k):IY b (l.drop k)=if CG b l[k]=0 then IY (l.take (k+1)) (l.drop (k+1))else CG b l[k]:=by
 rw [List.drop_eq_getElem_cons h,hb,List.take_succ_eq_append_getElem h]
 rfl
structure JB(e:En):Prop where
 nm:nameB e.u=true
 one:e.s.length=1
 sy:e.s.any (CQ 33)=false
 lo:1<=e.p
 hi:e.p<=5
 ln:e.t.length<=80
 tx:e.t.any (CQ 32)=false
theorem AeE{b:List En}{x:En}(h:JB x)(hb:∀y∈b,y.u≠x.u/\y.s≠x.s):CG b x=0:=by
 have h1:MC b x.u = -1:=TJ fun q hq=>(by simpa using (hb q hq).1);have h2:b.any (fun y=>y.s == x.s)=false:=List.any_eq_false.2 fun q hq=>(by simpa using (hb q hq).2);have:=h.nm;have h3:=h.one;have h4:=h.lo;have h5:=h.hi;have h6:=h.ln;unfold CG;rw [h.nm,h1,h.sy,h.tx,h2,if_neg (by simp),if_neg (by omega),if_neg (by omega),if_neg (by simp),if_neg (by simp),if_neg (by omega),if_neg (by omega),if_neg (by omega),if_neg (by simp)]
def IP(x y:En):Prop:=x.u≠y.u/\x.s≠y.s
theorem sP:∀(l b:List En),(∀e∈l,JB e)→(b++l).Pairwise IP→IY b l=0
 | [],_,_,_=>rfl
 | x::l,b,hg,hp=>by have h1:CG b x=0:=AeE (hg x (by simp)) fun y hy=>(List.pairwise_append.1 hp).2.2 y hy x (by simp);show (if CG b x=0 then IY (b ++ [x]) l else CG b x)=0;rw [if_pos h1];exact sP l _ (fun e he=>hg e (List.mem_cons_of_mem _ he)) (by rw [List.append_assoc];exact hp)
theorem sN{l:List En}(hl:l.length<=20)(hg:∀e∈l,JB e)(hp:l.Pairwise IP):DV l=0:=by
 unfold DV;rw [if_neg (by omega)];exact sP l [] hg hp
theorem AeF{b:List En}{x:En}(h:CG b x=0):1<=x.p/\x.p<=5:=by
 unfold CG at h
 split at h<;>(try split at h)<;>(try split at h)<;>(try split at h)<;>(try split at h)<;>(try split at h)<;>(try split at h)<;>omega
theorem sQ:∀(l b:List En),IY b l=0→∀e∈l,1<=e.p/\e.p<=5
 | [],_,_=>by simp
 | x::l,b,h=>by
  unfold IY at h;by_cases h0:CG b x=0
  ·rw [if_pos h0]at h;intro e he
   rcases List.mem_cons.1 he with rfl|he
   ·exact AeF h0
   ·exact sQ l _ h e he
  ·rw [if_neg h0]at h;exact absurd h h0
theorem sO{l:List En}(h:DV l=0):l.length<=20:=by
 unfold DV at h
 split at h<;>omega
theorem Ad0{l:List En}(h:DV l=0):∀e∈l,1<=e.p/\e.p<=5:=by
 have hl:=sO h;unfold DV at h;rw [if_neg (by omega)]at h;exact sQ l [] h
def IC(p:Int):Bs:=if p=1 then "plain".toUTF8.data.toList else if p=2 then "dots".toUTF8.data.toList else if p=3 then "dashes".toUTF8.data.toList else if p=4 then "bricks".toUTF8.data.toList else "crosses".toUTF8.data.toList
def FP(x:En):Bs:=x.s ++ [32]++x.u ++ [32]++IC x.p++(if x.t = [] then [] else [58,32]++x.t)
def AP(c:List La)(u:Bs):Int:=C5 (fun x=>x.u == u) c
def Do(x y:Int):Int:=if x<y then -1 else if y<x then 1 else 0
structure Dr where
 u:UInt8
 s:UInt8
 p:UInt8
 t:UInt8
def N1:List Bs:=[[65],[66],[67],[68],[69],[70],[97],[98],[99],[100],[120],[121]]
def OT:List Bs:=[[],[115,97,110,100],[97,32,98],[49,47,50,32,116,111,32,51]]
def Fv(x:Dr):En:=⟨N1.getD (x.u.toNat%12) [],[33+x.s%90],1+((x.p.toNat%5:Nat):Int),OT.getD (x.t.toNat%4) []⟩
def FQ(out:List En)(x:Dr):List En:=if out.any (fun y=>y.u == (Fv x).u||y.s == (Fv x).s)=true then out else out ++ [Fv x]
def GL(d:List Dr):List En:=(d.take 8).foldl FQ []
theorem Ake:∀k,k<12→nameB (N1.getD k [])=true:=by decide +kernel
theorem y8:∀k,k<4→(OT.getD k []).length<=80/\(OT.getD k []).any (CQ 32)=false:=by decide +kernel
theorem AnF(b:UInt8):[33+b%90].any (CQ 33)=false:=by
 have h1:(b%90).toNat<90:=by rw [UInt8.toNat_mod];exact Nat.mod_lt _ (by decide)
 have h2:(33+b%90).toNat=33+(b%90).toNat:=by rw [UInt8.toNat_add];exact Nat.mod_eq_of_lt (by show 33+(b%90).toNat<256;omega)
 simp only [List.any_cons,List.any_nil,Bool.or_false];unfold CQ;rw [h2,decide_eq_false (by omega),decide_eq_false (by omega)]
 rfl
theorem AjM(x:Dr):JB (Fv x):=
 ⟨Ake _ (Nat.mod_lt _ (by decide)),rfl,AnF _,by show 1<=1+((x.p.toNat%5:Nat):Int);omega,by show 1+((x.p.toNat%5:Nat):Int)<=5;omega,(y8 _ (Nat.mod_lt _ (by decide))).1,(y8 _ (Nat.mod_lt _ (by decide))).2⟩
theorem AjN{out:List En}(x:Dr)(hg:∀e∈out,JB e)(hp:out.Pairwise IP):(∀e∈FQ out x,JB e)/\(FQ out x).Pairwise IP/\(FQ out x).length<=out.length+1:=by
 unfold FQ
 split
 ·exact⟨hg,hp,by omega⟩
 ·rename_i h
  rw [Bool.not_eq_true,List.any_eq_false]at h;refine⟨fun e he=>?_,List.pairwise_append.2 ⟨hp,by simp,fun a ha b hb=>?_⟩,by simp⟩
  ·rcases List.mem_append.1 he with h|h
   ·exact hg e h
   ·rw [List.mem_singleton.1 h];exact AjM x
  ·rw [List.mem_singleton.1 hb];have:=h a ha;simp only [Bool.or_eq_true,beq_iff_eq,not_or]at this;exact this
theorem XA:∀(d:List Dr) (out:List En),(∀e∈out,JB e)→out.Pairwise IP→(∀e∈d.foldl FQ out,JB e)/\(d.foldl FQ out).Pairwise IP/\(d.foldl FQ out).length<=out.length+d.length
 | [],_,hg,hp=>⟨hg,hp,by simp⟩
 | x::d,out,hg,hp=>by obtain⟨h1,h2,h3⟩:=AjN x hg hp;have h:=XA d _ h1 h2;exact⟨h.1,h.2.1,by have:=h.2.2;simp only [List.foldl_cons,List.length_cons];omega⟩
theorem nw(d:List Dr):DV (GL d)=0/\(GL d).length<=8:=by
 obtain⟨h1,h2,h3⟩:=XA (d.take 8) [] (by simp) List.Pairwise.nil
 have h4:(GL d).length<=8:=by have:(d.take 8).length<=8:=(by simp;omega);have h5:([]:List En).length=0:=rfl;unfold GL;omega
 exact⟨sN (by omega) h1 h2,h4⟩
end Kl
namespace Kl
structure Pt where
 x:Rat
 y:Rat
structure Sg where
 a:Pt
 b:Pt
structure Cv where
 low:Pt
 high:Pt
 W:Nat
 H:Nat
structure Cv.Ok(c:Cv):Prop where
 x:c.low.x<c.high.x
 y:c.low.y<c.high.y
 w1:1<=c.W
 w2:c.W<=2000
 h1:1<=c.H
 h2:c.H<=2000
def yt(a b k:Rat):Rat:=a+k*(b-a)
def ot(part whole:Rat)(size:Nat):Int:=(part*(size:Rat)/whole+1/2).floor
def RS(c:Cv)(p:Pt):Int:=ot (p.x-c.low.x) (c.high.x-c.low.x) c.W
def Uj(c:Cv)(p:Pt):Int:=ot (c.high.y-p.y) (c.high.y-c.low.y) c.H
def atR(s:Sg)(k:Rat):Pt:=⟨yt s.a.x s.b.x k,yt s.a.y s.b.y k⟩
def AjF(a b:Rat):Rat:=if a<b then b else a
def AjH(a b:Rat):Rat:=if b<a then b else a
def Ck(fr way:Rat):Option (Rat×Rat)→Option (Rat×Rat)
 | none=>none
 | some (l,h)=>if way=0 then (if 0<=fr then some (l,h)else none)else if 0 < way then some (AjF l (-fr / way),h)else some (l,AjH h (-fr / way))
/-! ### Pixels -/
/-! ### Neighbours -/
end Kl
namespace Kl
open Classical
noncomputable def rv(l:Bs):Rat:=if h:∃q,l=R q then Classical.choose h else 0
theorem lX(q:Rat):rv (R q)=q:=by
 unfold rv;have h:∃p,R q=R p:=⟨q,rfl⟩;rw [dif_pos h];exact(NQ (Classical.choose_spec h)).symm
theorem lY{l:Bs}(h:BO l):l=R (rv l)/\(D (rv l).num.natAbs).length<=200/\(D (rv l).den).length<=200:=by
 obtain⟨q,rfl,h1,h2⟩:=h;rw [lX];exact⟨rfl,h1,h2⟩
noncomputable def colS(b:List La)(x:La):Int:=
 if ¬BO x.mn then 2 else if x.mx≠[]/\¬BO x.mx then 2 else if nameB x.u=false then 8 else if 0<=AP b x.u then 9 else if rv x.mn<0 then 3
 else if x.mx≠[]/\rv x.mx<rv x.mn then 6 else 0
noncomputable def Ez(b:List La):List La→Int
 | []=>0
 | x::r=>if colS b x=0 then Ez (b ++ [x]) r else colS b x
noncomputable def KW(l:List La):Int:=if l.length=0 then 13 else if 60<l.length then 4 else Ez [] l
theorem AdI{b:List La}{l:List La}{k:Nat}(h:k<l.length)(hb:b=l.take k):Ez b (l.drop k)=if colS b l[k]=0 then Ez (l.take (k+1)) (l.drop (k+1))else colS b l[k]:=by
 rw [List.drop_eq_getElem_cons h,hb,List.take_succ_eq_append_getElem h]
 rfl
theorem Vl{b:List La}{u:Bs}{p:Rat}{m:Option Rat}(h1:BO (R p))(h2:∀q,m=some q→BO (R q)/\R q≠[]/\p<=q)(h3:nameB u=true)(h4:∀y∈b,y.u≠u)(h5:0<=p) :
  colS b ⟨u,R p,m.elim [] R⟩=0:=by
 have hp:AP b u = -1:=TJ fun y hy=>(by simpa using h4 y hy);unfold colS;simp only [hp,h3,lX];rw [if_neg (by simpa using h1)]
 cases m with
 | none=>
  rw [if_neg (by simp),if_neg (by simp),if_neg (by omega),if_neg (by exact Rat.not_lt.2 h5),if_neg (by simp)]
 | some q=>obtain⟨a1,a2,a3⟩:=h2 q rfl;simp only [Option.elim_some,lX];rw [if_neg (by simp [a1]),if_neg (by simp),if_neg (by omega),if_neg (by exact Rat.not_lt.2 h5),if_neg (by rintro⟨_,h⟩;exact absurd a3 (Rat.not_le.2 h))]
end Kl
namespace Go.Proofs.YtjalkoacphhgdaaGreatDoor
open Go.RowKit Kl
def Amq{α:Type} : Result α→World
 | .ok _ w=>w
 | .halt _ w=>w
theorem Ac1{α:Type}(a:Ask α):∀(w:World),w.drawn<=(w.ask a).2.drawn:=by
 induction a with
 | done a=>intro w;exact AqK _
 | ask what range k ih=>
  intro w;unfold World.ask;simp only []
  split
  ·exact ih _ _
  ·exact AqU (Nat.le_succ w.drawn) (ih _ {w with drawn:=w.drawn+1})
theorem AnG(w:World)(c:Sys):w.drawn<=(w.sys c).2.drawn:=by
 have h:=Ac1 (Kernel.perform c w.os) w;unfold World.sys
 split
 ·exact AqK _
 ·rename_i r os w' _ he
  rw [he]at h;exact h
theorem Afa{ε α β:Type}{x:Except ε α}{f:α→Except ε β}{y:β}(h:(x >>= f)=.ok y):∃a,x=.ok a/\f a=.ok y:=by
 cases x with
 | error e=>cases h
 | ok a=>exact⟨a,rfl,h⟩
theorem Aoi{p:Program}{w w':World}{a:Addr}{u:TypeId}{k:Addr}{v:Value}{at_:Bool}{l:List Addr}(h:w.viewStore p a u k v at_=.ok (w',l)):w'.drawn=w.drawn:=by
 unfold World.viewStore at h;simp only []at h
 repeat' first
  | (cases h;done)
  | (simp only [pure,Except.pure,Except.ok.injEq,Prod.mk.injEq]at h;obtain⟨rfl,_⟩:=h;rfl)
  | (obtain⟨_,_,h⟩:=Afa h)
  | split at h
theorem Aff{p:Program}{w w':World}{a:Addr}{v:Value}{at_:Bool}{l:List Addr}(h:w.farStore p a v at_=.ok (w',l)):w'.drawn=w.drawn:=by
 unfold World.farStore at h
 split at h
 ·split at h
  ·rename_i hv;simp only [Except.ok.injEq]at h;subst h;exact Aoi hv
  ·cases h
 ·cases h
theorem wn (p : Program) {α : Type} (s : Sem α) : ∀ (w : World), w.drawn ≤ (Amq (s.run p w)).drawn := by
  induction s with
  | pure a => intro w; exact AqK _
  | load m a k ih => intro w; simp only [Sem.run]; (repeat' split) <;> first | exact ih _ _ | exact AqK _
  | store m a v k ih =>
    intro w
    cases v <;> simp only [Sem.run] <;> first
      | exact AqK _
      | (split
         · split
           · exact AqK _
           · exact ih (w.setCell a _)
         · split
           · rename_i hf; rw [← Aff hf]; exact ih _
           · exact AqK _)
  | new o k ih => intro w; simp only [Sem.run]; exact ih w.heap.size { w with heap := w.heap.push o }
  | shape r k ih => intro w; simp only [Sem.run]; exact ih _ _
  | freeze a n k ih =>
    intro w; simp only [Sem.run]
    refine AqU (Nat.le_of_eq ?_) (ih (w.freeze a n))
    unfold World.freeze; split <;> rfl
  | frozen a k ih => intro w; simp only [Sem.run]; exact ih _ _
  | getObj r k ih => intro w; simp only [Sem.run]; split <;> first | exact ih _ _ | exact AqK _
  | setObj r o k ih => intro w; simp only [Sem.run]; split <;> first | exact ih { w with heap := w.heap.setIfInBounds r o } | exact AqK _
  | choose q k ih => intro w; simp only [Sem.run]; split <;> first | exact ih _ _ | exact AqU (Nat.le_succ w.drawn) (ih _ { w with drawn := w.drawn + 1 })
  | sys c k ih => intro w; simp only [Sem.run]; exact AqU (AnG w c) (ih _ _)
  | program k ih => intro w; simp only [Sem.run]; exact ih _ _
  | mark m k ih => intro w; simp only [Sem.run]; exact ih _
  | halt h => intro w; exact AqK _
theorem GO{p:Program}{α:Type}{s:Sem α}{w w':World}{a:α}(h:s.run p w=.ok a w'):w.drawn<=w'.drawn:=by
 have:=wn p s w;rw [h]at this;exact this
theorem Yk{p:Program}{α:Type}{s:Sem α}{w w':World}{a:Halt}(h:s.run p w=.halt a w'):w.drawn<=w'.drawn:=by
 have:=wn p s w;rw [h]at this;exact this
theorem Uk{p:Program}{α:Type}{s:Sem α}{w w':World}{a:α}{es es':Array Event}(h:s.runT p w es=(.ok a w',es')):w.drawn<=w'.drawn:=by
 have e:=Sem.runT_fst p s w es;rw [h]at e;exact GO e.symm
theorem lS{p:Program}{α:Type}{s:Sem α}{w w':World}{a:Halt}{es es':Array Event}(h:s.runT p w es=(.halt a w',es')):w.drawn<=w'.drawn:=by
 have e:=Sem.runT_fst p s w es;rw [h]at e;exact Yk e.symm
theorem Yj{p:Program}{α:Type}{s:Sem α}{w w':World}{a:α}{es:Array Event}(h:(s.runT p w es).1=.ok a w'):w.drawn<=w'.drawn:=GO ((Sem.runT_fst p s w es).symm.trans h)
theorem wm{p:Program}{α:Type}{s:Sem α}{w w':World}{a:Halt}{es:Array Event}(h:(s.runT p w es).1=.halt a w'):w.drawn<=w'.drawn:=Yk ((Sem.runT_fst p s w es).symm.trans h)
def C9(w:World):GStep→Prop
 | .go _ w' _=>w.drawn<=w'.drawn
 | .comm _ _ _ _ w' _=>w.drawn<=w'.drawn
 | .spawn _ _ w' _=>w.drawn<=w'.drawn
 | .count _ w' _=>w.drawn<=w'.drawn
 | .timer _ _ w' _=>w.drawn<=w'.drawn
 | .alone _ _ w' _=>w.drawn<=w'.drawn
 | .newcoro _ _ _ w' _=>w.drawn<=w'.drawn
 | .coroswitch _ _ _ w' _=>w.drawn<=w'.drawn
 | .collect _ w' _=>w.drawn<=w'.drawn
 | .watch _ w' _=>w.drawn<=w'.drawn
 | .ended _ _ _=>True
theorem Kr{w:World}{es:Array Event}{g:GStep}(h:C9 w g):C9 w (GStep.after es g):=by cases g<;>exact h
theorem Gr{w w':World}{g:GStep}(h:w.drawn<=w'.drawn)(k:C9 w' g):C9 w g:=by
 cases g<;>first|exact AqU h k|trivial
theorem Akz(fr:Frame)(l:List ByteArray)(m:String)(b:Bool)(w:World):C9 w (dieOf fr l m b w):=AqK _
theorem XQ(fr:Frame)(m:String)(w:World):C9 w (endThrow fr m w):=AqK _
theorem Ak0(w:World)(fd:Nat)(t:ByteArray)(o:Outcome):C9 w (endWith w fd t o):=by
 unfold endWith;simp only []
 repeat' first
  | trivial
  | split
theorem kK(p:Program)(fr:Frame)(v:Value)(w:World):C9 w (endPrinting p fr v w):=by
 unfold endPrinting;simp only []
 repeat' first
  | trivial
  | exact XQ _ _ _
  | split
theorem qo(p:Program)(fr:Frame)(cs:List Frame)(d:Option Dying)(m:String)(w:World):C9 w (endFatal p fr cs d m w):=by
 unfold endFatal;simp only []
 repeat' first
  | trivial
  | (rename_i h;exact Gr (GO h) (Akz _ _ _ _ _))
  | split
theorem Ak6(p:Program)(fr:Frame)(d:Dying)(f:Fatal)(w:World):C9 w (writeOn p fr d f w):=by
 unfold writeOn;simp only []
 repeat' first
  | trivial
  | (rename_i h;exact Uk h)
  | (rename_i h;exact lS h)
  | split
theorem Aky(p:Program)(fr:Frame)(d:Dying)(w:World):C9 w (die p fr d w):=by
 unfold die;simp only []
 repeat' first
  | trivial
  | exact Ak6 _ _ _ _ _
  | exact Ak0 _ _ _ _
  | exact AqK _
  | (rename_i h;exact GO h)
  | (rename_i h;exact Uk h)
  | (rename_i h;exact Gr (lS h) (kK _ _ _ _))
  | (rename_i h;exact Kr (Yj h))
  | (rename_i h;exact Kr (Gr (wm h) (kK _ _ _ _)))
  | split
theorem Ak2{w:World}{c:Prop}[Decidable c]{a b:GStep}(ha:C9 w a)(hb:C9 w b):C9 w (if c then a else b):=by split<;>assumption
theorem kL(p:Program)(b:Bool)(fr:Frame)(cs:List Frame)(d:Option Dying)(v:Value)(w:World):C9 w (doReturn p b fr cs d v w):=by
 unfold doReturn;simp only []
 repeat' first
  | trivial
  | exact AqK _
  | split
theorem Akx(p:Program)(fr:Frame)(cs:List Frame)(dy:Option Dying)(d:Deferred)(w:World):C9 w (callDeferred p fr cs dy d w):=by
 unfold callDeferred;refine Ak2 trivial ?_
 ·generalize hx:(invoke d.target d.args).runT p w #[]=x;obtain⟨r,es⟩:=x;simp only [];refine Kr ?_
  cases r with
  | ok a w'=>
   have hd:=Uk hx
   cases a<;>(try simp only [])<;>repeat' first
    | trivial
    | exact hd
    | (injections;done)
    | (injections;subst_vars;exact hd)
    | split
  | halt h w'=>
   have hd:=lS hx
   cases h<;>(try simp only [])<;>repeat' first
    | trivial
    | exact hd
    | (injections;done)
    | (injections;subst_vars;exact hd)
    | exact Gr hd (qo _ _ _ _ _ _)
    | exact Gr hd (XQ _ _ _)
    | split
theorem kJ(p:Program)(fr:Frame)(cs:List Frame)(d:Option Dying)(g:Nat)(w:World):C9 w (early p fr cs d g w):=by
 unfold early;simp only []
 repeat' first
  | trivial
  | exact AqK _
  | (refine Gr (GO (by assumption)) ?_)
  | split
theorem Ak5 (p : Program) (b : Bool) (fr : Frame) (cs : List Frame) (d : Option Dying) (w : World) : C9 w (unwind p b fr cs d w) := by
  unfold unwind
  split
  · generalize hx : (Instr.takeDeferred _).runT p w #[] = x
    obtain ⟨r, es⟩ := x
    simp only []
    refine Kr ?_
    cases r with
    | ok a w' => exact Uk hx
    | halt h w' => trivial
  · exact Akx _ _ _ _ _ _
  · repeat' first
      | trivial
      | exact AqK _
      | (rename_i h; exact GO h)
      | exact kK _ _ _ _
      | exact kL _ _ _ _ _ _ _
      | (generalize hx : (results _ _).runT p w #[] = x
         obtain ⟨r, es⟩ := x
         simp only []
         refine Kr ?_
         cases r with
         | ok a w' => exact Gr (Uk hx) (kL _ _ _ _ _ _ _)
         | halt h w' => cases h <;> trivial)
      | split
theorem XP(p:Program)(b:Bool)(fr:Frame)(cs:List Frame)(d:Option Dying)(s:Sem Next)(w:World):C9 w (stepG.apply p b fr cs d s w):=by
 unfold stepG.apply
 have hr:(if b=true then s.runT p w #[] else (s.run p w,#[])).1=s.run p w:=by
  split
  ·exact Sem.runT_fst p s w #[]
  ·rfl
 generalize hx:(if b=true then s.runT p w #[] else (s.run p w,#[]))=x at hr;obtain⟨r,es⟩:=x;simp only []at hr;simp only [];refine Kr ?_
 cases r with
 | ok a w'=>
  have hd:=GO hr.symm
  cases a<;>(try simp only [])<;>repeat' first
   | trivial
   | exact hd
   | (injections;done)
   | (injections;subst_vars;exact hd)
   | (injections;subst_vars;exact Gr hd (kJ _ _ _ _ _ _))
   | exact Gr hd (XQ _ _ _)
   | split
 | halt h w'=>
  have hd:=Yk hr.symm
  cases h<;>(try simp only [])<;>repeat' first
   | trivial
   | exact hd
   | (injections;done)
   | (injections;subst_vars;exact hd)
   | (injections;subst_vars;exact Gr hd (kJ _ _ _ _ _ _))
   | exact Gr hd (qo _ _ _ _ _ _)
   | exact Gr hd (XQ _ _ _)
   | exact Gr hd (kJ _ _ _ _ _ _)
   | split
theorem Ak3(p:Program)(b:Bool)(fr:Frame)(cs:List Frame)(d:Option Dying)(w:World):C9 w (stepG.oper p b fr cs d w):=by
 unfold stepG.oper
 split
 ·trivial
 ·split<;>exact XP _ _ _ _ _ _ _
theorem ql{α:Type}{w:World}(o:Option α)(a:GStep)(f:α→GStep)(ha:C9 w a)(h:∀x,C9 w (f x)):C9 w (o.elim a f):=by
 cases o
 ·exact ha
 ·exact h _
theorem Ak1(p:Program)(m b:Bool)(fr:Frame)(cs:List Frame)(d:Option Dying)(w:World):C9 w (stepG.exec p m b fr cs d w):=by
 unfold stepG.exec;simp only []
 split
 all_goals repeat' first
  | trivial
  | exact AqK _
  | exact Ak3 _ _ _ _ _ _
  | exact XP _ _ _ _ _ _ _
  | (rename_i h;exact GO h)
  | refine ql _ _ _ ?_ (fun _=>AqK _)
  | exact ql _ _ _ trivial (fun _=>XP _ _ _ _ _ _ _)
  | (rename_i h;exact Kr (Gr (Yj h) (kL _ _ _ _ _ _ _)))
  | (rename_i h;exact Kr (Gr (Yj h) (XP _ _ _ _ _ _ _)))
  | (rename_i h;exact Kr (Yj h))
  | (rename_i h;exact Kr (wm h))
  | split
theorem Ak4(p:Program)(m:Bool)(g:Goroutine)(w:World)(b:Bool):C9 w (stepG p m g w b):=by
 obtain⟨fr,callers,status,dying,offers⟩:=g;simp only [stepG]
 split
 ·exact Aky _ _ _ _
 ·exact Ak1 _ _ _ _ _ _ _
 ·exact Ak5 _ _ _ _ _ _
/-! ### The machine -/
def N3(w:World):Stepped→Prop
 | .next m=>w.drawn<=m.world.drawn
 | .ended _ _=>True
theorem ON{w w':World}{g:Stepped}(h:w.drawn<=w'.drawn)(k:N3 w' g):N3 w g:=by
 cases g<;>first|exact AqU h k|trivial
def TY(w:World):Move→Prop
 | .goroutine m _=>w.drawn<=m.world.drawn
 | .machine s _=>N3 w s
theorem TZ{w w':World}{g:Move}(h:w.drawn<=w'.drawn)(k:TY w' g):TY w g:=by
 cases g
 ·exact AqU h k
 ·exact ON h k
theorem Aoj{rest:Rest}{cases:Array CommCase}{w w':World}(h:waitingAt rest cases w=some w'):w'.drawn=w.drawn:=by
 unfold waitingAt at h
 repeat' first
  | (cases h;done)
  | (simp only [AqO]at h;subst h;rfl)
  | split at h
theorem Ak9(p:Program)(rest:Rest)(gs:Array Goroutine)(i:Nat)(g:Goroutine)(cases:Array CommCase)(b:Bool)(shape:CommShape)(w:World):N3 w (communicate p rest gs i g cases b shape w).1:=by
 unfold communicate;simp only []
 repeat' first
  | trivial
  | exact AqK _
  | (refine ON (GO (by assumption)) ?_)
  | (refine ON (Yk (by assumption)) ?_)
  | (rename_i h;exact Nat.le_of_eq (Aoj h).symm)
  | split
theorem qq(p:Program)(gs:Array Goroutine)(rest:Rest)(w:World):N3 w (look p gs rest w):=by
 unfold look;simp only []
 repeat' first
  | trivial
  | exact AqK _
  | (refine ON (GO (by assumption)) ?_)
  | split
theorem AkB(p:Program)(m:Machine)(k:Nat):N3 m.world (serve p m k):=by
 unfold serve;simp only []
 repeat' first
  | trivial
  | exact AqK _
  | split
theorem AnO{m m':Machine}{op:TimerOp}{v:Value}(h:timerOp m op=.ok (v,m')):m'.world.drawn=m.world.drawn:=by
 have hd:∀(w:World) (c:Nat),(drain w c).2.drawn=w.drawn:=by intro w c;unfold drain;split<;>rfl
 have hr:∀(m:Machine) (k:Nat) (t:Timer) (a b:Nat),(retime m k t a b).2.world.drawn=m.world.drawn:=by
  intro m k t a b;unfold retime
  cases t.chan with
  | none=>rfl
  | some c=>exact hd _ _
 have hn:∀(m m0:Machine) (var:Addr) (f:Nat→Timer→Value×Machine),(∀k t,(f k t).2.world.drawn=m0.world.drawn)→∀{v m'},timerOp.named m var f=.ok (v,m')→m'.world.drawn=m0.world.drawn:=by
  intro m m0 var f hf v m' h;unfold timerOp.named at h
  split at h
  ·simp only [Except.ok.injEq]at h;have:=hf (by assumption) (m.rest.timers.getD (by assumption) default);rw [h]at this;exact this
  ·cases h
 have ho:∀{m m':Machine} {var:Addr},timerOp.opened m var=some m'→m'.world.drawn=m.world.drawn:=by
  intro m m' var h;unfold timerOp.opened at h
  repeat' first
   | (cases h;done)
   | (simp only [AqO]at h;subst h;rfl)
   | split at h
 unfold timerOp at h;simp only []at h
 repeat' first
  | (cases h;done)
  | (simp only [Except.ok.injEq,Prod.mk.injEq]at h;obtain⟨_,rfl⟩:=h;rfl)
  | exact hn _ _ _ _ (fun k t=>hr _ _ _ _ _) h
  | (rename_i h1;exact(hn _ _ _ _ (fun k t=>hr _ _ _ _ _) h).trans (ho h1))
  | split at h
theorem AkA(p:Program)(m:Machine)(i:Nat)(b:Bool):N3 m.world (runT p m i b).1:=by
 simp only [runT];generalize m.gs.swapAt! _ _=gg;have hs:=Ak4 p (i == 0) gg.1 m.world b
 revert hs
 generalize stepG p _ gg.1 m.world b=s;intro hs
 cases s<;>simp only [C9]at hs<;>(try simp only [])
 all_goals repeat' first
  | trivial
  | exact hs
  | exact ON hs (Ak9 _ _ _ _ _ _ _ _ _)
  | exact ON hs (qq _ _ _ _)
  | (rename_i h;exact AqU hs (Nat.le_of_eq (AnO h).symm))
  | split
theorem AbY{p:Program}{α:Type}{s:Sem α}{W w':World}{gs:Array Goroutine}{rest:Rest}{t:Nat}{a:α}(h:s.run p (Machine.advanceTo ⟨W,gs,rest⟩ t).world=.ok a w'):W.drawn<=w'.drawn:=by have:=GO h;exact this
theorem kM(p:Program)(m:Machine):TY m.world (askOn p m):=by
 unfold askOn;simp only []
 repeat' first
  | trivial
  | exact AqK _
  | exact AkB _ _ _
  | (refine TZ (GO (by assumption)) ?_)
  | (refine TZ (AbY (by assumption)) ?_)
  | split
theorem qp(p:Program)(m:Machine):TY m.world (ask p m):=by
 unfold ask
 split
 ·split
  ·trivial
  ·refine TZ (GO (by assumption)) ?_;have:=qq p m.gs m.rest (by assumption)
   split
   ·rename_i h;rw [h]at this;exact TZ this (kM _ _)
   ·rename_i e _;cases e<;>first|exact absurd rfl (by assumption)|trivial
  ·exact TZ (GO (by assumption)) (kM _ _)
 ·exact kM _ _
theorem Ak7(p:Program)(m:Machine):TY m.world (move p m):=by
 unfold move
 repeat' first
  | trivial
  | exact AqK _
  | exact qp p _
  | exact qp p {m with rest:={m.rest with slice:=none}}
  | split
theorem AkC(p:Program)(m:Machine):N3 m.world (step p m):=by
 have hm:=Ak7 p m;unfold step stepT
 cases h:move p m with
 | goroutine m1 i=>rw [h]at hm;exact ON hm (AkA p m1 i true)
 | machine s ops=>rw [h]at hm;exact hm
theorem wl(p:Program):∀(n:Nat) (m m':Machine),runN p n m=.next m'→m.world.drawn<=m'.world.drawn
 | 0,m,m',h=>by simp only [runN,Stepped.next.injEq]at h;rw [h];exact AqK _
 | n+1,m,m',h=>by
  have hs:=AkC p m;unfold runN at h
  cases h1:step p m with
  | next m1=>rw [h1]at h hs;exact AqU hs (wl p n m1 m' h)
  | ended o w=>rw [h1]at h;cases h
theorem Steps.drawn{P:Program}{m m':Machine}(h:Steps P m m'):m.world.drawn<=m'.world.drawn:=by
 obtain⟨n,hn⟩:=h;exact wl P n m m' hn
theorem Calls.drawn{P:Program}{f:FuncId}{args:Array Value}{w:World}{R:Ending→World→Prop}(h:Calls P f args w R)(hr:∀e w',R e w'→∃v,e=.returned v):Calls P f args w fun e w'=>R e w'/\w.drawn<=w'.drawn:=by
 intro cs;obtain⟨e,w',fr,h1,h2,h3⟩:=h cs;obtain⟨v,rfl⟩:=hr e w' h1;exact⟨_,w',fr,⟨h1,Steps.drawn h2⟩,h2,h3⟩
theorem Aa.grow{w w':World}(h:Aa w w')(hd:w.drawn<=w'.drawn):∃q os,w'=Go.Sort.grow (w.drewN q) os:=by
 refine⟨w'.drawn-w.drawn,w'.heap.extract w.heap.size w'.heap.size,?_⟩
 have hh:w.heap++w'.heap.extract w.heap.size w'.heap.size=w'.heap:=by
  apply Array.ext_getElem?;intro i;rw [Array.getElem?_append]
  split
  ·rename_i hi;exact(h.block i hi).symm
  ·rename_i hi
   rw [Array.getElem?_extract]
   split
   ·congr 1;omega
   ·rw [Array.getElem?_eq_none (by omega)]
 have h1:=h.os;have h2:=h.tape;have h3:=h.output;unfold Go.Sort.grow World.drewN;simp only;rw [hh,Nat.add_sub_of_le hd,←h1,←h2,←h3]
end Go.Proofs.YtjalkoacphhgdaaGreatDoor
