/- I22: ShLay ShM12 ShM13 ShM14 ShM15 ShM16 ShM18 ShM19 ShM20. -/
import Derived.Test.YtnddllipjippnaaGreatDoorI19
import Derived.Shelf.SlSortCmp.InsertionK
set_option maxRecDepth 100000
set_option maxHeartbeats 8000000
namespace Go.Proofs.YtnddllipjippnaaGreatDoor
open Go.RowKit Kl Go.Sort
theorem TM{w a b:World}{r:Nat}(h:Ab w a)(hg:a.grownBy b (some r))(hr:w.heap.size<=r):Ab w b:=
 ⟨hg.os.trans h.os,hg.tape.trans h.tape,hg.output.trans h.output,AsA h.size hg.size,fun k hk=>(hg.block k (As9 hk h.size) (by simp;omega)).trans (h.block k hk)⟩
section
variable {α : Type} [Inhabited α]
theorem QC(enc:α→List Value)(k:Nat)(w:World)(blk off m:Nat)(dk:Array α)(os:Array Obj):w.grownBy (sortWorldK enc k w blk off m dk os) (some blk):=by
 refine⟨rfl,rfl,rfl,?_,fun i hi hne=>?_⟩
 ·exact size_sortWorldK_c enc k w blk off m dk os
 ·have hb:i≠blk:=fun e=>hne (by rw [e]);show ((w.heap.modify blk _)++os)[i]?=w.heap[i]?;rw [Array.getElem?_append_left (by simpa using hi),Array.getElem?_modify,if_neg (fun e=>hb e.symm)]
theorem nL{g:Nat}{cb:Array Value}{enc:α→List Value}{k:Nat}{cf:α→α→Int}{blk off size:Nat}{w:World}
  (h:∀W,w.grownBy W (some blk)→∀x y,Calls Tryz.prog g (#[.agg (enc x).toArray,.agg (enc y).toArray]++cb) W (AI (cf x y) W)):CmpLays Tryz.prog g cb enc k cf blk off size w:=by
 intro m os dk _ x y;refine(Calls.drawn (h _ (QC enc k w blk off m dk os) x y) (fun e w' h=>⟨_,h.1⟩)).mono ?_;rintro e w' ⟨⟨he,hx⟩,hd⟩;exact⟨he,hx.grow hd⟩
theorem AoL(enc:α→List Value)(k:Nat)(w:World)(blk off m:Nat)(dk:Array α)(os:Array Obj){c:Array Value}{e:TypeId}{fr:Nat×Nat}(h:w.heap[blk]?=some (.cells c e fr)) :
  (sortWorldK enc k w blk off m dk os).heap[blk]?=some (.cells (putCells id off (flatK enc k dk) c) e fr):=by
 have hlt:=Asy h;show ((w.heap.modify blk (onCells (putCells id off (flatK enc k dk))))++os)[blk]?=_;rw [Array.getElem?_append_left (by simpa using hlt),Array.getElem?_modify,if_pos rfl,h]
 rfl
end
theorem eU{α:Type}{enc:α→List Value}{k:Nat}(hk:∀x,(enc x).length=k):∀(l:List α),(l.flatMap enc).length=l.length*k
 | []=>by simp
 | x::l=>by rw [List.flatMap_cons,List.length_append,hk,eU hk l,List.length_cons,Nat.add_mul,Nat.one_mul,Nat.add_comm]
section
variable {α : Type} [Inhabited α] {enc : α → List Value} {k : Nat}
theorem Xx(hk:∀x,(enc x).length=k)(k0:0<k):∀(l:List α) (t:Nat),t<l.length*k→(l.flatMap enc)[t]?=some ((enc l[t/k]!)[t%k]!)
 | [],t,h=>by simp at h
 | x::l,t,h=>by
  rw [List.flatMap_cons];by_cases ht:t<k
  ·rw [List.getElem?_append_left (by rw [hk];exact ht),Nat.div_eq_of_lt ht,Nat.mod_eq_of_lt ht,As5 (by rw [hk];exact ht)];simp [hk,ht]
  ·have e1:t/k=(t-k)/k+1:=by rw [Nat.div_eq_sub_div k0 (by omega)]
   have e2:t%k=(t-k)%k:=by rw [Nat.mod_eq_sub_mod (by omega)]
   have hl:t-k<l.length*k:=by rw [List.length_cons,Nat.add_mul,Nat.one_mul]at h;omega
   rw [List.getElem?_append_right (by rw [hk];omega),hk,Xx hk k0 l (t-k) hl,e1,e2];simp
theorem zD(hk:∀x,(enc x).length=k)(k0:0<k)(d:Array α):(flatK enc k d).toList=d.toList.flatMap enc:=by
 apply List.ext_getElem?;intro t;by_cases ht:t<d.size*k
 ·rw [Xx hk k0 _ _ (by simpa using ht)];have h1:t<(flatK enc k d).toList.length:=(by simpa using ht);have h2:=get_flatK enc k d t ht;rw [As5 h1]
  have h3:(flatK enc k d)[t]! = (flatK enc k d).toList[t]:=by rw [getElem!_pos _ t (by simpa using ht)];simp
  rw [←h3,h2]
  congr 1
  have h4:d[t/k]! = d.toList[t/k]!:=by have hlt:t/k<d.size:=Nat.div_lt_of_lt_mul (by rw [Nat.mul_comm];exact ht);rw [getElem!_pos d _ hlt,getElem!_pos d.toList _ (by simpa using hlt)];simp
  rw [h4]
 ·rw [List.getElem?_eq_none (by simp;omega),List.getElem?_eq_none (by rw [eU hk];simp;omega)]
theorem lN{w:World}{base:Nat}{e:TypeId}{v:Value}{d:Array α}(hk:∀x,(enc x).length=k)(k0:0<k)(h:w.ownsRow base e k v d.size (d.toList.flatMap enc))(hd:0<d.size) :
  ∃g cap,v=.slice (some ⟨g,0,none⟩) d.size cap/\base<=g/\g<w.heap.size/\HoldsK enc k w g 0 d/\v.ownBlock=some g:=by
 rcases h.2 with⟨_,h0⟩|⟨g,cap,cur,rfl,hb,hg,hn,hm,hs,ht⟩
 ·omega
 ·refine⟨g,cap,rfl,hb,Asy hg,?_,rfl⟩;intro j hj;rw [size_flatK]at hj;have NT:j<d.toList.length*k:=(by simpa using hj);have h1:=Xx hk k0 d.toList j NT;rw [←zD hk k0]at h1
  have h2:(flatK enc k d)[j]! = (enc d.toList[j/k]!)[j%k]!:=by rw [getElem!_pos _ j (by simpa using hj)];rw [As5 (by simpa using hj),As4]at h1;rw [←h1];simp
  have h3:cur.toList[j]?=some ((flatK enc k d)[j]!):=by have h4:=Xx hk k0 d.toList j NT;rw [←ht,List.getElem?_take_of_lt (by rw [Nat.mul_comm]at hj ⊢;omega)]at h4;rw [h4,h2]
  refine⟨?_,?_⟩
  ·rw [Nat.zero_add];refine Aa hg ?_;rw [←Array.getElem?_toList];exact h3
  ·rw [Nat.zero_add];exact Ah hg
theorem VH{w:World}{base:Nat}{e:TypeId}{g cap:Nat}{d d':Array α}(hk:∀x,(enc x).length=k)(k0:0<k)(h:w.ownsRow base e k (.slice (some ⟨g,0,none⟩) d.size cap) d.size (d.toList.flatMap enc))(hd:d'.size=d.size)(m:Nat)(os:Array Obj) :
  (sortWorldK enc k w g 0 m d' os).ownsRow base e k (.slice (some ⟨g,0,none⟩) d.size cap) d.size (d'.toList.flatMap enc):=by
 rcases h.2 with⟨h',_⟩|⟨g',cap',cur,hv,hb,hg,hn,hm,hs,ht⟩
 ·cases h'
 ·simp only [Value.slice.injEq,As4,Addr.mk.injEq,and_true,true_and]at hv;obtain⟨rfl,rfl⟩:=hv;have hF:(flatK enc k d').size=d.size*k:=(by rw [size_flatK,hd]);have hle:d.size*k<=cur.size:=(by rw [hs];exact Nat.mul_le_mul_right k hn);refine⟨?_,.inr ⟨g,cap,_,rfl,hb,AoL enc k w g 0 m d' os hg,hn,hm,?_,?_⟩⟩
  ·rw [eU hk];simp [hd]
  ·unfold putCells;simpa using hs
  ·rw [←zD hk k0];apply List.ext_getElem?;intro t;by_cases PD:t<d.size*k
   ·rw [List.getElem?_take_of_lt PD,Array.getElem?_toList];unfold putCells;rw [Array.getElem?_mapIdx,Array.getElem?_eq_getElem (by omega)];simp only [Option.map_some,Nat.zero_le,true_and,Nat.zero_add,Nat.sub_zero];rw [if_pos (by omega),Array.getElem?_toList,Array.getElem?_eq_getElem (by omega)];rw [getElem!_pos _ t (by omega)]
    rfl
   ·rw [List.getElem?_eq_none (by rw [List.length_take];omega),List.getElem?_eq_none (by simp [hd];omega)]
end
def Gz(s t:Sg):Int:=if AY s.a t.a≠0 then AY s.a t.a else AY s.b t.b
theorem Agr(s t:Sg){k:Nat}(hs:G7 k s)(ht:G7 k t)(hk:0<k)(hk2:k<=1)(w:World)(hw:Aj w) :
  Calls Tryz.prog 87 #[A8 s,A8 t] w (AI (Gz s t) w):=by
 have c1:=Ju s.a t.a hs.a ht.a hk hk2;have c2:=Ju s.b t.b hs.b ht.b hk hk2;have hE:=((Ab.refl w).alloc (.cells #[S (R s.a.x),S (R s.a.y),S (R s.b.x),S (R s.b.y)] 140)).alloc (.cells #[S (R t.a.x),S (R t.a.y),S (R t.b.x),S (R t.b.y)] 140);obtain⟨x,hx0⟩:=Asw (AY s.a t.a);obtain⟨y,EG⟩:=Asw (AY s.b t.b)
 have hr:Gz s t=if x≠0 then x else y:=by rw [hx0,EG];rfl
 rw [hr];rw [←hx0]at c1;rw [←EG]at c2
 have hA:(w.alloc (.cells #[S (R s.a.x),S (R s.a.y),S (R s.b.x),S (R s.b.y)] 140)).alloc (.cells #[S (R t.a.x),S (R t.a.y),S (R t.b.x),S (R t.b.y)] 140) |>.heap[w.heap.size]?=some (.cells #[S (R s.a.x),S (R s.a.y),S (R s.b.x),S (R s.b.y)] 140):=(Below.heap_alloc _ _ _ (by simp)).trans (Asz w _)
 have hB:=Asz (w.alloc (.cells #[S (R s.a.x),S (R s.a.y),S (R s.b.x),S (R s.b.y)] 140)) (.cells #[S (R t.a.x),S (R t.a.y),S (R t.b.x),S (R t.b.y)] 140);rw [As7]at hB;obtain⟨r,GQ⟩:=Asw (if x≠0 then x else y:Int);rw [←GQ]
 have VF:∀(b o:Nat) (w:World),w.cell? ⟨b,o,none⟩=some (.int .i64 x)→w.cell? ⟨b,o+1,none⟩=some (.int .i64 y)→Calls Tryz.prog 141 #[.slice (some ⟨b,o,none⟩) 2 2] w (AI r w):=by intro b o w h1 h2;rw [GQ];exact oU x y b o w h1 h2
 unfold Af at c1 c2;unfold A8;clear hs ht hr hx0 EG GQ;go_enter Tryz.func87,Tryz.ntmps87
 go_upto_region 1 with fail
 generalize (w.alloc (.cells #[S (R s.a.x),S (R s.a.y),S (R s.b.x),S (R s.b.y)] 140)).alloc (.cells #[S (R t.a.x),S (R t.a.y),S (R t.b.x),S (R t.b.y)] 140)=V at *;have hs:=hE.size;obtain⟨ba,Au⟩:=Asw w.heap.size;rw [←Au]at hA hB ⊢;clear Au hs
 have SO:∀w',Ab V w'→(w'.cell? ⟨ba,0,none⟩=some (S (R s.a.x))/\w'.cell? ⟨ba,1,none⟩=some (S (R s.a.y))/\w'.cell? ⟨ba,2,none⟩=some (S (R s.b.x))/\w'.cell? ⟨ba,3,none⟩=some (S (R s.b.y))/\w'.cell? ⟨ba+1,0,none⟩=some (S (R t.a.x))/\w'.cell? ⟨ba+1,1,none⟩=some (S (R t.a.y))/\w'.cell? ⟨ba+1,2,none⟩=some (S (R t.b.x))/\w'.cell? ⟨ba+1,3,none⟩=some (S (R t.b.y))):=fun w' h=>⟨h.cellS (Aa hA rfl),h.cellS (Aa hA rfl),h.cellS (Aa hA rfl),h.cellS (Aa hA rfl),h.cellS (Aa hB rfl),h.cellS (Aa hB rfl),h.cellS (Aa hB rfl),h.cellS (Aa hB rfl)⟩
 have X0:Ab V V.drew:=(Ab.refl V).drew;have hV:=hw.ext hE;clear hA hB
 go_region_held3 (fun w'=>w'.cell? ⟨ba,0,none⟩=some (S (R s.a.x))/\w'.cell? ⟨ba,1,none⟩=some (S (R s.a.y))/\w'.cell? ⟨ba,2,none⟩=some (S (R s.b.x))/\w'.cell? ⟨ba,3,none⟩=some (S (R s.b.y))/\w'.cell? ⟨ba+1,0,none⟩=some (S (R t.a.x))/\w'.cell? ⟨ba+1,1,none⟩=some (S (R t.a.y))/\w'.cell? ⟨ba+1,2,none⟩=some (S (R t.b.x))/\w'.cell? ⟨ba+1,3,none⟩=some (S (R t.b.y)))
  (first|with_reducible exact SO _ X0|with_reducible exact SO _ X5|with_reducible exact SO _ X6|with_reducible exact SO _ X7|with_reducible exact SO _ (X6.alloc _))
  (first|((with_reducible refine(c1 _ (hV.ext X0)).mono ?_);rintro e w5 ⟨rfl,As⟩;have X5:Ab V w5:=X0.trans As)|((with_reducible refine(c2 _ (hV.ext X5)).mono ?_);rintro e w6 ⟨rfl,AX⟩;have X6:Ab V w6:=X5.trans AX;have D1:=Asz w6 (.cells #[.int .i64 x,.int .i64 y] 3);have g0:=Aa (o:=0) D1 rfl;have g1:=Aa (o:=1) D1 rfl;clear D1)|((with_reducible refine(VF w6.heap.size 0 _ g0 g1).mono ?_);rintro e w7 ⟨rfl,Az⟩;have X7:Ab V w7:=(X6.alloc _).trans Az))
 go_wp2;go_ret;exact⟨rfl,hE.trans X7⟩
theorem Xk(p q:Rat):AO p q<0↔p<q:=by unfold AO;grind
theorem dW(p q:Rat):AO p q=0↔p=q:=by unfold AO;grind
theorem y9(a b:Pt):AY a b=0↔a.x=b.x/\a.y=b.y:=by
 unfold AY;have h1:=dW a.x b.x;have h2:=dW a.y b.y
 split<;>grind
theorem PN(a b:Pt):AY a b<0↔a.x<b.x∨(a.x=b.x/\a.y<b.y):=by
 unfold AY;have h1:=dW a.x b.x;have h2:=Xk a.x b.x;have h3:=Xk a.y b.y
 split<;>grind
theorem RP(s t:Sg):Gz s t<0↔s.a.x<t.a.x∨(s.a.x=t.a.x/\(s.a.y<t.a.y∨(s.a.y=t.a.y/\(s.b.x<t.b.x∨(s.b.x=t.b.x/\s.b.y<t.b.y))))):=by
 unfold Gz;have h1:=y9 s.a t.a;have h2:=PN s.a t.a;have h3:=PN s.b t.b
 split<;>grind
def Tp(s:Sg):Prop:=G7 1 s
theorem AbT:Tp ⟨⟨0,0⟩,⟨0,0⟩⟩:=by
 have h:Sz 1 (0:Rat):=(by constructor<;>decide +kernel);exact⟨⟨h,h⟩,⟨h,h⟩⟩
abbrev Way:={s:Sg // Tp s}
instance:Inhabited Way:=⟨⟨_,AbT⟩⟩
def IH(s t:Way):Int:=Gz s.1 t.1
theorem AcF(s t:Way):ltOf IH s t=true↔s.1.a.x<t.1.a.x∨(s.1.a.x=t.1.a.x/\(s.1.a.y<t.1.a.y∨(s.1.a.y=t.1.a.y/\(s.1.b.x<t.1.b.x∨(s.1.b.x=t.1.b.x/\s.1.b.y<t.1.b.y))))):=by
 unfold ltOf IH;rw [decide_eq_true_iff];exact RP _ _
theorem qZ(s t:Way):ltOf IH s t=false↔¬(s.1.a.x<t.1.a.x∨(s.1.a.x=t.1.a.x/\(s.1.a.y<t.1.a.y∨(s.1.a.y=t.1.a.y/\(s.1.b.x<t.1.b.x∨(s.1.b.x=t.1.b.x/\s.1.b.y<t.1.b.y)))))):=by
 rw [←AcF];simp
theorem AcG:SWO (ltOf IH) where
 irrefl x:=by rw [qZ];grind
 trans x y z h1 h2:=by rw [AcF]at *;grind
 ntrans x y z h1 h2:=by rw [qZ]at *;grind
theorem Ap5(x y:Way)(h1:ltOf IH x y=false)(h2:ltOf IH y x=false):x=y:=by
 rw [qZ]at h1 h2;obtain⟨⟨⟨a,b⟩,⟨c,d⟩⟩,hx⟩:=x;obtain⟨⟨⟨a',b'⟩,⟨c',d'⟩⟩,hy⟩:=y;simp only [Subtype.mk.injEq,Sg.mk.injEq,Pt.mk.injEq]at *
 grind
def Hh(s:Way):List Value:=[S (R s.1.a.x),S (R s.1.a.y),S (R s.1.b.x),S (R s.1.b.y)]
theorem Xu(s:Way):(Hh s).length=4:=rfl
theorem Ahg(s:Way):∀v∈Hh s,v.oneCell'=true:=by
 intro v hv;simp only [Hh,List.mem_cons,AsB,or_false]at hv
 rcases hv with rfl|rfl|rfl|rfl<;>rfl
theorem Ap4{w0 w:World}(hw:Aj w0)(hx:Ab w0 w){blk:Nat}(hb:w0.heap.size<=blk)(off size:Nat):CmpLays Tryz.prog 87 #[] Hh 4 IH blk off size w:=by
 refine nL fun W hg x y=>?_;have h:=Agr x.1 y.1 x.2 y.2 (by omega) (by omega) W (hw.ext (TM hx hg hb));exact h
end Go.Proofs.YtnddllipjippnaaGreatDoor
namespace Go.Proofs.YtnddllipjippnaaGreatDoor
open Go.RowKit Kl
def BI(s:Sg)(x:Rat):Rat:=s.a.y+(x-s.a.x)/(s.b.x-s.a.x)*(s.b.y-s.a.y)
theorem AiZ(s:Sg)(x:Rat){k:Nat}(hs:G7 k s)(hx:Sz k x)(hk:0<k)(hk2:k<=1)(h0:s.b.x≠s.a.x)(w:World)(hw:Aj w) :
  Calls Tryz.prog 162 #[A8 s,S (R x)] w (BW (R (BI s x)) w):=by
 have s1:=Ff x s.a.x (a:=k) (b:=k) ⟨hx,hs.a.x,hk,hk,by omega⟩;have s2:=Ff s.b.x s.a.x (a:=k) (b:=k) ⟨hs.b.x,hs.a.x,hk,hk,by omega⟩;have dv:=An6 (x-s.a.x) (s.b.x-s.a.x) (by grind) (a:=k+k+1) (b:=k+k+1) ⟨hx.sub hs.a.x,hs.b.x.sub hs.a.x,by omega,by omega,by omega⟩;have s3:=Ff s.b.y s.a.y (a:=k) (b:=k) ⟨hs.b.y,hs.a.y,hk,hk,by omega⟩;have mu:=MB ((x-s.a.x)/(s.b.x-s.a.x)) (s.b.y-s.a.y) (a:=k+k+1+(k+k+1)) (b:=k+k+1) ⟨(hx.sub hs.a.x).div (by omega) (hs.b.x.sub hs.a.x),hs.b.y.sub hs.a.y,by omega,by omega,by omega⟩;have ad:=ZC s.a.y ((x-s.a.x)/(s.b.x-s.a.x)*(s.b.y-s.a.y)) (a:=k) (b:=k+k+1+(k+k+1)+(k+k+1)) ⟨hs.a.y,((hx.sub hs.a.x).div (by omega) (hs.b.x.sub hs.a.x)).mul (hs.b.y.sub hs.a.y),by omega,by omega,by omega⟩;have e:BI s x=s.a.y+(x-s.a.x)/(s.b.x-s.a.x)*(s.b.y-s.a.y):=rfl;rw [←e]at ad;obtain⟨r,hr⟩:=Asw (BI s x);rw [←hr]at ad ⊢;unfold A8;unfold ZE at dv;clear hs hx e hr;go_enter Tryz.func162,Tryz.ntmps162
 go_upto_region 1 with fail
 have hb:=Asz w (.cells #[S (R s.a.x),S (R s.a.y),S (R s.b.x),S (R s.b.y)] 140);have hE:=(Ab.refl w).alloc (.cells #[S (R s.a.x),S (R s.a.y),S (R s.b.x),S (R s.b.y)] 140);obtain⟨W,hW⟩:=Asw (w.alloc (.cells #[S (R s.a.x),S (R s.a.y),S (R s.b.x),S (R s.b.y)] 140));rw [←hW]at hb hE ⊢;clear hW;obtain⟨ba,Au⟩:=Asw w.heap.size;rw [←Au]at hb ⊢;clear Au
 have SO:∀w',Ab W w'→(w'.cell? ⟨ba,0,none⟩=some (S (R s.a.x))/\w'.cell? ⟨ba,1,none⟩=some (S (R s.a.y))/\w'.cell? ⟨ba,2,none⟩=some (S (R s.b.x))/\w'.cell? ⟨ba,3,none⟩=some (S (R s.b.y))):=fun w' h=>⟨h.cellS (Aa hb rfl),h.cellS (Aa hb rfl),h.cellS (Aa hb rfl),h.cellS (Aa hb rfl)⟩
 have C0:=hw.ext hE;have X:Ab W W:=Ab.refl W;clear hb
 go_region_held3 (fun w'=>w'.cell? ⟨ba,0,none⟩=some (S (R s.a.x))/\w'.cell? ⟨ba,1,none⟩=some (S (R s.a.y))/\w'.cell? ⟨ba,2,none⟩=some (S (R s.b.x))/\w'.cell? ⟨ba,3,none⟩=some (S (R s.b.y)))
  (first|with_reducible exact SO _ X|with_reducible exact SO _ X.drew)
  (first|((with_reducible refine(s1 _ (C0.ext (by first|exact X|exact X.drew))).mono ?_);rintro e w1 ⟨rfl,hx1⟩;replace X:Ab W w1:=(by first|exact X.trans hx1|exact X.drew.trans hx1))|((with_reducible refine(s2 _ (C0.ext (by first|exact X|exact X.drew))).mono ?_);rintro e w1 ⟨rfl,hx1⟩;replace X:Ab W w1:=(by first|exact X.trans hx1|exact X.drew.trans hx1))|((with_reducible refine(dv _ (C0.ext (by first|exact X|exact X.drew))).mono ?_);rintro e w1 ⟨rfl,hx1⟩;replace X:Ab W w1:=(by first|exact X.trans hx1|exact X.drew.trans hx1)))
 go_upto_region 2 with fail
 go_region_held3 (fun w'=>w'.cell? ⟨ba,0,none⟩=some (S (R s.a.x))/\w'.cell? ⟨ba,1,none⟩=some (S (R s.a.y))/\w'.cell? ⟨ba,2,none⟩=some (S (R s.b.x))/\w'.cell? ⟨ba,3,none⟩=some (S (R s.b.y)))
  (first|with_reducible exact SO _ X|with_reducible exact SO _ X.drew)
  (first|((with_reducible refine(s3 _ (C0.ext (by first|exact X|exact X.drew))).mono ?_);rintro e w1 ⟨rfl,hx1⟩;replace X:Ab W w1:=(by first|exact X.trans hx1|exact X.drew.trans hx1))|((with_reducible refine(mu _ (C0.ext (by first|exact X|exact X.drew))).mono ?_);rintro e w1 ⟨rfl,hx1⟩;replace X:Ab W w1:=(by first|exact X.trans hx1|exact X.drew.trans hx1))|((with_reducible refine(ad _ (C0.ext (by first|exact X|exact X.drew))).mono ?_);rintro e w1 ⟨rfl,hx1⟩;replace X:Ab W w1:=(by first|exact X.trans hx1|exact X.drew.trans hx1)))
 go_wp2;go_ret;exact⟨rfl,hE.trans X⟩
theorem Aop(l:List Sg):(Cw l).length=l.length*4:=by
 induction l with
 | nil=>rfl
 | cons e l ih=>unfold Cw at *;simp only [List.flatMap_cons,List.length_append,ih,List.length_cons,List.length_nil];omega
theorem AbF:∀(l:List Sg) (j:Nat) (h:j<l.length),(Cw l)[j*4]?=some (S (R l[j].a.x))/\(Cw l)[j*4+1]?=some (S (R l[j].a.y))/\(Cw l)[j*4+2]?=some (S (R l[j].b.x))/\(Cw l)[j*4+3]?=some (S (R l[j].b.y))
 | e::l,0,_=>⟨rfl,rfl,rfl,rfl⟩
 | e::l,j+1,h=>by
  have ih:=AbF l j (by simpa using h);have e0:Cw (e::l)=S (R e.a.x)::S (R e.a.y)::S (R e.b.x)::S (R e.b.y)::Cw l:=rfl;rw [e0];have e1:(j+1)*4=j*4+1+1+1+1:=(by omega);rw [e1]
  simpa using ih
theorem Lq{w:World}{A:Option Addr}{l:List Sg}(hr:Ad w A (Cw l)){j:Nat}(h:j<l.length):∃b o,A=some ⟨b,o,none⟩/\w.cell? ⟨b,o+j*4,none⟩=some (S (R l[j].a.x))/\w.cell? ⟨b,o+j*4+1,none⟩=some (S (R l[j].a.y))/\w.cell? ⟨b,o+j*4+2,none⟩=some (S (R l[j].b.x))/\w.cell? ⟨b,o+j*4+3,none⟩=some (S (R l[j].b.y)):=by
 have hl:=Aop l;obtain⟨b,o,e,hcs⟩:=hr.ad (by omega);obtain⟨f1,f2,f3,f4⟩:=AbF l j h;have g1:=hcs (j*4) (by omega);have g2:=hcs (j*4+1) (by omega);have g3:=hcs (j*4+2) (by omega);have g4:=hcs (j*4+3) (by omega);rw [As5 (by omega),As4]at f1 f2 f3 f4;rw [f1]at g1;rw [f2,←Nat.add_assoc]at g2;rw [f3,←Nat.add_assoc]at g3;rw [f4,←Nat.add_assoc]at g4;exact⟨b,o,e,g1,g2,g3,g4⟩
def Gh(p:Pt)(l:List Sg):Rat:=l.foldl (fun s e=>s+Am p e.a e.b) 0
def Ir:List Sg→Rat
 | []=>0
 | e::l=>Gh e.a (e::l)
theorem Afw(p:Pt)(l:List Sg)(e:Sg):Gh p (l ++ [e])=Gh p l+Am p e.a e.b:=by simp [Gh]
theorem uX(p:Pt)(l:List Sg){j:Nat}(h:j<l.length):Gh p (l.take (j+1))=Gh p (l.take j)+Am p l[j].a l[j].b:=by
 rw [As3 h,Afw]
theorem Afx(l:List Sg)(h:0<l.length):Ir l=Gh l[0].a l:=by
 cases l with
 | nil=>simp at h
 | cons e l=>rfl
theorem Afy(l:List Sg)(A:Option Addr)(c:Nat){k K:Nat}(hl:∀e∈l,G7 k e)(hk:0<k)(hk2:k<=1)(hK:0<K)(hK2:K<=9)(h0:0<l.length)
  (hS:∀j,j<=l.length→Sz K (Gh l[0].a (l.take j))) (hA:∀j (h:j<l.length),Sz (K) (Am l[0].a l[j].a l[j].b)) (hc:l.length<=c) (hcm:c<=9223372036854775807) (hK3:0<K) (w:World) (hw:Aj w) (hr:Ad w A (Cw l)) :
  Calls Tryz.prog 120 #[.slice A l.length c] w (BW (R (Ir l)) w):=by
 obtain⟨b,o,rfl,q1,q2,-,-⟩:=Lq hr h0;rw [Afx l h0];obtain⟨r,hr0⟩:=Asw (Gh l[0].a l);rw [←hr0];obtain⟨p,hp⟩:=Asw (l[0].a);have Ob:Aw k p:=(by rw [hp];exact(hl _ (As1 h0)).a);rw [←hp]at hr0 hS hA q1 q2;have HR:=Asx hr0;clear hr0 hp;rw [Nat.zero_mul,Nat.add_zero]at q1 q2;go_enter Tryz.func120,Tryz.ntmps120
 go_upto_region 3 with fail
 go_loopw [3,8] (fun s i wr=>∃j:Nat,i=.int .i64 (j:Nat)/\s=S (R (Gh p (l.take j)))/\j<=l.length/\Ab w wr) (fun _ i _=>l.length-(intOf i).toNat)
 case atStart=>exact⟨0,rfl,by rw [List.take_zero];show _=S (R 0);rw [KD],by omega,Ab.refl _⟩
 case round=>
  obtain⟨j,rfl,rfl,hj,Ae⟩:=hrel;by_cases hlt:j<l.length
  ·obtain⟨b',o',DI,g1,g2,g3,g4⟩:=Lq (hr.ext Ae) hlt;simp only [As4,Addr.mk.injEq,and_true]at DI;obtain⟨rfl,rfl⟩:=DI;have p1:=Ae.cellS q1;have p2:=Ae.cellS q2;have ez:=hl _ (As1 hlt);have ar:=AaQ p l[j].a l[j].b Ob ez.a ez.b hk hk2;have ad:=ZC (Gh p (l.take j)) (Am p l[j].a l[j].b) (a:=K) (b:=K) ⟨hS j hj,hA j hlt,hK,by omega,by omega⟩;rw [←uX p l hlt]at ad;obtain⟨e,he⟩:=Asw (l[j]);rw [←he]at g1 g2 g3 g4 ar ad;have hj0:(0:Int)<=(j:Int):=(by omega);have hl0:(0:Int)<(l.length:Int):=(by omega);have Ay:(j:Int)<(l.length:Int):=(by omega);clear ez he;obtain⟨s,hs⟩:=Asw (Gh p (l.take j));obtain⟨s',hs'⟩:=Asw (Gh p (l.take (j+1)));rw [←hs,←hs']at ad;rw [←hs];have HS':=Asx hs';clear hs hs' hS hA hl q1 q2;unfold Af at ar
   go_upto_region 5 with fail
   have hb:=Asz wr (.cells #[S (R e.a.x),S (R e.a.y),S (R e.b.x),S (R e.b.y)] 140);have hE:=(Ab.refl wr).alloc (.cells #[S (R e.a.x),S (R e.a.y),S (R e.b.x),S (R e.b.y)] 140);unfold S at hb hE;generalize (wr.alloc (.cells #[.string ⟨(R e.a.x).toArray⟩,.string ⟨(R e.a.y).toArray⟩,.string ⟨(R e.b.x).toArray⟩,.string ⟨(R e.b.y).toArray⟩] 140))=W at *;obtain⟨be,A7⟩:=Asw wr.heap.size;rw [←A7]at hb ⊢;clear A7
   have SO:∀w',Ab W w'→(w'.cell? ⟨b,o,none⟩=some (S (R p.x))/\w'.cell? ⟨b,o+1,none⟩=some (S (R p.y))/\w'.cell? ⟨be,0,none⟩=some (S (R e.a.x))/\w'.cell? ⟨be,1,none⟩=some (S (R e.a.y))/\w'.cell? ⟨be,2,none⟩=some (S (R e.b.x))/\w'.cell? ⟨be,3,none⟩=some (S (R e.b.y))):=fun w' h=>⟨h.cellS (hE.cellS p1),h.cellS (hE.cellS p2),h.cellS (Aa hb rfl),h.cellS (Aa hb rfl),h.cellS (Aa hb rfl),h.cellS (Aa hb rfl)⟩
   have C0:=(hw.ext Ae).ext hE;have hx0:=Ae.trans hE;have X:Ab W W:=Ab.refl W;clear hb p1 p2 g1 g2 g3 g4
   go_region_held3 (fun w'=>w'.cell? ⟨b,o,none⟩=some (S (R p.x))/\w'.cell? ⟨b,o+1,none⟩=some (S (R p.y))/\w'.cell? ⟨be,0,none⟩=some (S (R e.a.x))/\w'.cell? ⟨be,1,none⟩=some (S (R e.a.y))/\w'.cell? ⟨be,2,none⟩=some (S (R e.b.x))/\w'.cell? ⟨be,3,none⟩=some (S (R e.b.y)))
    (first|with_reducible exact SO _ X|with_reducible exact SO _ X.drew)
    (first|((with_reducible refine(ar _ (C0.ext (by first|exact X|exact X.drew))).mono ?_);rintro e w1 ⟨rfl,hx1⟩;replace X:Ab W w1:=(by first|exact X.trans hx1|exact X.drew.trans hx1))|((with_reducible refine(ad _ (C0.ext (by first|exact X|exact X.drew))).mono ?_);rintro e w1 ⟨rfl,hx1⟩;replace X:Ab W w1:=(by first|exact X.trans hx1|exact X.drew.trans hx1)))
   go_wp2;go_roundw
   case rel=>exact⟨j+1,by go_num,by rw [HS'.out],hlt,hx0.trans X⟩
   case measure=>simp [intOf];omega
  ·have hjn:j=l.length:=(by omega);have e:Gh p (l.take j)=r:=(by rw [HR.out,hjn,List.take_length]);rw [e];have hle:(l.length:Int)<=(j:Int):=(by omega);go_wp2;go_ret;exact⟨rfl,Ae⟩
theorem El.look{E:List (Pt×Value×Nat)}{R0:List (Pt×List Pt)}{B:Nat}{W:World}{b2:Nat}(h:El B W b2 E R0)(p:Pt){e:Pt×List Pt}(hf:R0.find? (fun e=>Aq p e.1)=some e) :
  ∃A c,FW Aq (.slice none 0 0) p E=.slice A e.2.length c/\Ad W A (flat (Ag e.2))/\e.2.length<=c/\c<=9223372036854775807:=by
 have DY:=eS h.len (fun i h1 h2=>(h.row i h1 h2).1) p;obtain⟨h3,j,hj',h4,h5⟩:=List.find?_eq_some_iff_getElem.1 hf
 have hfj:R0.findIdx? (fun e=>Aq p e.1)=some j:=by rw [List.findIdx?_eq_some_iff_getElem];exact⟨hj',by rw [h4];exact h3,fun i hi=>by have:=h5 i hi;simpa using this⟩
 rw [hfj,List.findIdx?_eq_some_iff_getElem]at DY;obtain⟨hj,h1,h2⟩:=DY
 have e1:E.find? (fun e=>Aq p e.1)=some E[j]:=by rw [List.find?_eq_some_iff_getElem];exact⟨h1,j,hj,rfl,fun i hi=>by have:=h2 i hi;simpa using this⟩
 have ho:=(h.row j hj hj').2.2;rw [h4]at ho;obtain⟨A,c,hv,hr,g1,g2⟩:=Ad.of_own' (by omega) ho;refine⟨A,c,?_,hr,g1,g2⟩;unfold FW;rw [e1];exact hv
theorem AlV{j n:Nat}(h:j<n):∃m:Nat,m<n/\m=(j+n-1)%n/\Int.tmod ((j:Int)+n-1) n=(m:Int):=by
 refine⟨(j+n-1)%n,Nat.mod_lt _ (by omega),rfl,?_⟩;have e:(j:Int)+n-1=((j+n-1:Nat):Int):=(by omega);rw [e];exact(Int.ofNat_tmod _ _).symm
theorem AlU{B:Nat}{w:World}{r b1 b2:Nat}{L:List (Sg×Int)}{E:List (Pt×Value×Nat)}{R0:List (Pt×List Pt)}(h:B7 B w r b1 b2 L E R0)(s:Sg){e:Pt×List Pt}(hf:R0.find? (fun e=>Aq s.b e.1)=some e){j m:Nat}(hj:j<e.2.length)(hi:CW e.2 s.a=(j:Int))(hm:m<e.2.length)(UR:m=(j+e.2.length-1)%e.2.length)(hn:e.2.length<100000) :
  Calls Tryz.prog 153 #[.pointer (some ⟨r,0,none⟩),A8 s] w (BA (A8 ⟨s.b,e.2[m]⟩) w):=by
 obtain⟨A,c,hv,Bi,hc1,hc2⟩:=h.ar.look s.b hf;obtain⟨m',hm',hme,htm⟩:=AlV hj;rw [←UR]at hme;subst hme;clear hm' UR;obtain⟨p,hp⟩:=Asw (e.2[m']);rw [←hp];have ix:=fun W (hE:Ab w W)=>YX e.2 s.a A c W (Bi.ext hE) hc1 hc2;rw [hi]at ix;have hE:=((Ab.refl w).alloc (.cells #[S (R s.a.x),S (R s.a.y),S (R s.b.x),S (R s.b.y)] 140)).alloc (.cells #[S [],S [],S [],S []] 140);have hb1:=(Below.heap_alloc (w.alloc (.cells #[S (R s.a.x),S (R s.a.y),S (R s.b.x),S (R s.b.y)] 140)) (.cells #[S [],S [],S [],S []] 140) w.heap.size (by simp)).trans (Asz w (.cells #[S (R s.a.x),S (R s.a.y),S (R s.b.x),S (R s.b.y)] 140));have hb2:=Asz (w.alloc (.cells #[S (R s.a.x),S (R s.a.y),S (R s.b.x),S (R s.b.y)] 140)) (.cells #[S [],S [],S [],S []] 140);rw [As7]at hb2;obtain⟨b',o',hA,g1,g2⟩:=BN Bi hm;have hlt:=World.block_lt_of_cell? w _ g1;simp only at hlt;replace g1:=hE.cellS g1;replace g2:=hE.cellS g2;have hN:=h.ext hE;rw [←hp]at g1 g2;obtain⟨n,H7⟩:=Asw e.2.length;rw [←H7]at hj htm hv hn hc1 ix hm;clear hp hf H7 Bi;unfold A8;go_enter Tryz.func153,Tryz.ntmps153
 go_upto_region 1 with fail
 rw [show (⟨#[]⟩:ByteArray)=⟨([]:Bs).toArray⟩from rfl];generalize (w.alloc (.cells #[S (R s.a.x),S (R s.a.y),S (R s.b.x),S (R s.b.y)] 140)).alloc (.cells #[S [],S [],S [],S []] 140)=V at *;obtain⟨bb,AZ⟩:=Asw w.heap.size;have hle:w.heap.size<=bb+1:=(by omega);rw [←AZ]at hb1 hb2 hlt ⊢;have lB:¬(b'=bb+1):=(by omega);have H5:¬(bb+1=b'):=(by omega);clear AZ;have q2:∀q:Ac V,q.w.cell? ⟨r,1,none⟩=some (.map (some b2)):=Ac.cell (Aa hN.cell rfl);have q3:∀q:Ac V,q.w.cell? ⟨bb,2,none⟩=some (S (R s.b.x)):=Ac.cell (Aa hb1 rfl);have q4:∀q:Ac V,q.w.cell? ⟨bb,3,none⟩=some (S (R s.b.y)):=Ac.cell (Aa hb1 rfl)
 have q5:∀q:Ac V,(Instr.lookup 96 (.map (some b2)) (Af s.b) false).run Tryz.prog q.w=.ok (.slice A n c) q.w:=fun q=>by rw [Sp RN s.b E (W:=q.w) ((q.h.block b2 hN.ar.lt).trans hN.ar.blk),hv]
 unfold Af at q5 ix;refine Bh (by kernel_rfl) (by kernel_rfl) ?_
 repeat (go_big_quiet_step (fail))
 refine wpQuiet_nil ?_;rintro _ ⟨q,rfl⟩;obtain⟨W1,hx1⟩:=q;have k1:=hx1.cellS (Aa (o:=0) hb1 rfl);have k2:=hx1.cellS (Aa (o:=1) hb1 rfl);have nJ:=ix W1 (hE.trans hx1);rw [hA]at nJ hv;simp only;clear ix;(go_wp2_with fail);(with_reducible refine nJ.mono ?_);rintro e w2 ⟨rfl,hx2⟩;replace hx2:=hx1.trans hx2;have Bl:=(hx2.block _ (Asy hb1)).trans hb1;have Bp:=(hx2.block _ (Asy hb2)).trans hb2;have f1:=hx2.cellS g1;have f2:=hx2.cellS g2;have e1:=Aa (o:=2) Bl rfl;have e2:=Aa (o:=3) Bl rfl;have y0:=Ah (o:=0) Bp;have y1:=Ah (o:=1) Bp;have y2:=Ah (o:=2) Bp;have y3:=Ah (o:=3) Bp;have z0:=Aa (o:=0) Bp rfl;have z1:=Aa (o:=1) Bp rfl;have z2:=Aa (o:=2) Bp rfl;have z3:=Aa (o:=3) Bp rfl;clear k1 k2 q2 q3 q4 q5 hN h g1 g2 nJ;have DL:(n:Int)≠0:=(by omega);have Jl:¬n=0:=(by omega);have a1:IntKind.i64.wrap ((j:Int)+n)=(j:Int)+n:=As6 _ (by omega);have a2:IntKind.i64.wrap ((j:Int)+n-1)=(j:Int)+n-1:=As6 _ (by omega);have a3:IntKind.i64.wrap (m':Int)=(m':Int):=As6 _ (by omega);have a4:(0:Int)<=(m':Int):=(by omega);have a5:(m':Int)<(n:Int):=by omega
 go_upto_region 3 with fail
 go_region_held3 (fun w'=>w'.cell? ⟨bb,2,none⟩=some (S (R s.b.x))/\w'.cell? ⟨bb,3,none⟩=some (S (R s.b.y))/\w'.cell? ⟨b',o'+m'*2,none⟩=some (S (R p.x))/\w'.cell? ⟨b',o'+m'*2+1,none⟩=some (S (R p.y)))
  (first|go_keep|(simp [World.cell?_setCell,lB,H5];go_keep)) (fail)
 have hq:=Qz (S (R s.b.x)) (S (R s.b.y)) (S (R p.x)) (S (R p.y)) Bp;have q0:=(Ab.refl _).drew.cellS (Aa (o:=0) hq rfl);have q1:=(Ab.refl _).drew.cellS (Aa (o:=1) hq rfl);have q2:=(Ab.refl _).drew.cellS (Aa (o:=2) hq rfl);have q3:=(Ab.refl _).drew.cellS (Aa (o:=3) hq rfl);clear hq;go_wp2;refine bodyPost_ret (v:=.agg #[S (R s.b.x),S (R s.b.y),S (R p.x),S (R p.y)]) (by simp [results,Tryz.results153,go_sem,q0,q1,q2,q3]) rfl ?_;have DF:=hE.trans hx2;exact⟨rfl,((((DF.setCell (p:=⟨bb+1,0,none⟩) hle _).setCell (p:=⟨bb+1,1,none⟩) hle _).setCell (p:=⟨bb+1,2,none⟩) hle _).setCell (p:=⟨bb+1,3,none⟩) hle _).drew⟩
section
open Go.ChangeMaps (setBlock)
section
variable {α : Type} (enc : α → Value)
structure Dk(W:World)(r b:Nat)(E:List (α×Value×Nat))(seen:List Nat):Prop where
 it:W.heap[r]?=some (.mapIter (some b) E.length seen.toArray E.length)
 nd:seen.Nodup
 lt:∀i∈seen,i<E.length
theorem Dk.range{W:World}{b:Nat}{E:List (α×Value×Nat)}{t k e:TypeId}(ht:Tryz.prog.underlying t=some (.map k e))(hb:W.heap[b]?=some (.map (AK enc E).toArray E.length)) :
  (Instr.range t (.map (some b))).run Tryz.prog W=.ok (.pointer (some ⟨W.heap.size,0,none⟩)) (W.alloc (.mapIter (some b) E.length #[] E.length))/\Dk (W.alloc (.mapIter (some b) E.length #[] E.length)) W.heap.size b E []:=
 ⟨run_range_map W t k e b _ _ ht hb,Asz _ _,List.nodup_nil,by simp⟩
theorem Dk.keep{W W':World}{r b:Nat}{E:List (α×Value×Nat)}{seen:List Nat}(h:Dk W r b E seen)(hk:W'.heap[r]?=W.heap[r]?):Dk W' r b E seen:=⟨hk.trans h.it,h.nd,h.lt⟩
theorem Ahm{E:List (α×Value×Nat)}(hst:∀i (h:i<E.length),E[i].2.2=i):(AK enc E).map (·.born)=List.range E.length:=by
 apply List.ext_getElem
 ·simp [AK]
 ·intro i h1 h2;simp [AK]at h1 ⊢;exact hst i h1
theorem Dk.next{W:World}{r b:Nat}{E:List (α×Value×Nat)}{seen:List Nat}(h:Dk W r b E seen)(hb:W.heap[b]?=some (.map (AK enc E).toArray E.length))(hst:∀i (h:i<E.length),E[i].2.2=i)(hne:r≠b)(ty:TypeId) :
  (seen.length=E.length/\(Instr.next (.pointer (some ⟨r,0,none⟩)) false ty).run Tryz.prog W=.ok (.tuple #[.bool false]) W)∨
  ∃i,∃hi:i<E.length,i∉seen/\∃W',Dk W' r b E (seen ++ [i])/\W.grownBy W' (some r)/\W'.heap.size=W.heap.size/\
   (Instr.next (.pointer (some ⟨r,0,none⟩)) false ty).run Tryz.prog W=.ok (.tuple #[.bool true,enc E[i].1,E[i].2.1]) W'/\
   (∀V,V.heap[r]?=W'.heap[r]?→V.heap[b]?=W'.heap[b]?→(Instr.entry (.pointer (some ⟨r,0,none⟩))).run Tryz.prog V=.ok (.tuple #[enc E[i].1,E[i].2.1]) V):=by
 have Cv:=Ahm enc hst
 have hold:∀x∈(AK enc E).toArray.toList,x.born<E.length:=by
  intro x hx;have:x.born∈(AK enc E).map (·.born):=List.mem_map_of_mem hx;rw [Cv]at this
  simpa using this
 have CN:((AK enc E).toArray.toList.map (·.born)).Nodup:=by show ((AK enc E).map (·.born)).Nodup;rw [Cv];exact List.nodup_range
 rcases run_next_at (P:=Tryz.prog) W ty r b E.length E.length seen.toArray (AK enc E).toArray E.length h.it hb hold (As0 _)with⟨h0,hrun⟩|⟨x,hx,w1,hw1,hrun⟩
 ·left
  refine⟨?_,hrun⟩;have hall:=all_seen _ _ h0
  have Akb:List.range E.length ⊆ seen:=by
   intro i hi;rw [←Cv]at hi;obtain⟨x,hx,rfl⟩:=List.mem_map.1 hi;have:=hall x hx
   simpa using this
  have h1:E.length<=seen.length:=by
   have:=(List.nodup_range (n:=E.length)).length_le_of_subset Akb
   simpa using this
  have h2:seen.length<=E.length:=by
   have hs:seen ⊆ List.range E.length:=fun i hi=>(by simpa using h.lt i hi);have:=h.nd.length_le_of_subset hs
   simpa using this
  omega
 ·right
  obtain⟨wm,wn⟩:=mem_left hx;obtain⟨i,hi,hxi⟩:=List.getElem_of_mem wm;have hi':i<E.length:=(by simpa [AK]using hi);have Jr:x=⟨enc E[i].1,E[i].2.1,E[i].2.2⟩:=(by rw [←hxi];simp [AK]);have hb0:x.born=i:=(by rw [Jr];exact hst i hi');have hkey:x.key=enc E[i].1:=(by rw [Jr]);have hval:x.val=E[i].2.1:=(by rw [Jr]);have H8:i∉seen:=by rw [hb0]at wn;simpa using wn
  have hr1:w1.heap[r]?=W.heap[r]?:=by rcases hw1 with rfl|rfl<;>rfl
  have hb1:w1.heap[b]?=W.heap[b]?:=by rcases hw1 with rfl|rfl<;>rfl
  have hG:W.grownBy (setBlock w1 r (.mapIter (some b) E.length (seen.toArray.push x.born) E.length)) (some r):=by
   rcases hw1 with rfl|rfl
   ·exact LQ h.it
   ·exact⟨rfl,rfl,rfl,by simp [setBlock],fun k _ hk=>VR (fun e=>hk (by rw [e]))⟩
  have hit:=MI (o:=.mapIter (some b) E.length (seen.toArray.push x.born) E.length) (hr1.trans h.it);refine⟨i,hi',H8,_,⟨?_,?_,?_⟩,hG,?_,?_,?_⟩
  ·rw [hit,hb0];simp
  ·rw [List.nodup_append];refine⟨h.nd,by simp,?_⟩;intro a ha c hc;simp only [AsC]at hc;subst hc;intro e;rw [e]at ha;exact H8 ha
  ·intro k hk
   rcases List.mem_append.1 hk with hk|hk
   ·exact h.lt k hk
   ·simp only [AsC]at hk;omega
  ·rcases hw1 with rfl|rfl<;>simp [setBlock]
  ·rw [hrun,hkey,hval]
  ·intro V hVr hVb;rw [←hkey,←hval];exact run_entry_at V r b E.length seen.toArray (AK enc E).toArray E.length x (hVr.trans hit) (hVb.trans ((VR (Ne.symm hne)).trans (hb1.trans hb))) wm CN
end
end
theorem Ni.mul_eq{q:Rat}(h:Ni q):∃a:Int,a.natAbs<=9/\(a:Rat)=2*q:=by
 obtain⟨a,h1,rfl⟩:=h;exact⟨a,h1,by grind⟩
theorem Aph{q:Rat}{n d:Int}(hd:d≠0)(h:q*(d:Rat)=(n:Rat))(hn:n.natAbs<1000)(Hv:d.natAbs<1000):Sz 3 q:=by
 have hd0:(d:Rat)≠0:=(by intro e;exact hd (Rat.intCast_inj.1 (by rw [e];rfl)));have e:q=(n:Rat)/(d:Rat):=(by rw [←h];exact(Rat.mul_div_cancel hd0).symm);by_cases hp:0<d
 ·have:q=mkRat n d.toNat:=by rw [e,Rat.mkRat_eq_div,show ((d.toNat:Nat):Rat)=((d.toNat:Int):Rat)from rfl,Int.toNat_of_nonneg (by omega)]
  rw [this];exact Sz.mkRat (by omega) (by omega) (by omega)
 ·have:q=mkRat (-n) (-d).toNat:=by
   rw [e,Rat.mkRat_eq_div,show (((-d).toNat:Nat):Rat)=(((-d).toNat:Int):Rat)from rfl,Int.toNat_of_nonneg (by omega),Rat.intCast_neg,Rat.intCast_neg]
   grind
  rw [this];exact Sz.mkRat (by omega) (by omega) (by omega)
theorem Acw{s:Sg}{x:Rat}(hs:G5 s)(hx:Ni x):Sz 3 (BI s x):=by
 obtain⟨ax,h1,e1⟩:=hs.a.x.mul_eq;obtain⟨ay,h2,e2⟩:=hs.a.y.mul_eq;obtain⟨bx,h3,e3⟩:=hs.b.x.mul_eq;obtain⟨b,h4,e4⟩:=hs.b.y.mul_eq;obtain⟨u,h5,e5⟩:=hx.mul_eq;by_cases h0:s.b.x=s.a.x
 ·have:BI s x=s.a.y:=(by unfold BI;rw [h0,Rat.sub_self,Rat.div_def,Rat.inv_zero,Rat.mul_zero,Rat.zero_mul,Rat.add_zero]);rw [this];exact(hs.a.y.sz (K:=3) (by omega))
 ·have hd:bx-ax≠0:=by intro e;have:bx=ax:=(by omega);rw [this]at e3;exact h0 (by grind)
  have DL:s.b.x-s.a.x≠0:=(by grind);refine Aph (n:=ay*(bx-ax)+(u-ax)*(b-ay)) (d:=2*(bx-ax)) (by omega) ?_ ?_ (by omega)
  ·unfold BI;simp only [Rat.intCast_add,Rat.intCast_mul,Rat.intCast_sub,e1,e2,e3,e4,e5]
   have:(x-s.a.x)/(s.b.x-s.a.x)*(s.b.y-s.a.y)*(s.b.x-s.a.x)=(x-s.a.x)*(s.b.y-s.a.y):=by
    rw [Rat.div_def];have:=Rat.inv_mul_cancel _ DL
    grind
   grind
  ·have g1:=Zj (x:=ay) (y:=bx-ax) (m:=9) (n:=18) (by omega) (by omega);have g2:=Zj (x:=u-ax) (y:=b-ay) (m:=18) (n:=18) (by omega) (by omega);omega
def IV(p:Pt)(st:Option (Sg×Rat))(s:Sg):Option (Sg×Rat):=
 if 0<=AO s.a.x p.x then st else if AO s.b.x p.x<0 then st else if 0<=AO (BI s p.x) p.y then st else
 match st with
 | none=>some (s,BI s p.x)
 | some (b,h)=>
  if AO (BI s p.x) h=0 then (if 0<AN (Am s.b s.a b.a)then some (s,BI s p.x)else st)
  else if 0<AO (BI s p.x) h then some (s,BI s p.x)else st
def kM:Option (Sg×Rat)→Value
 | none=>S []
 | some (_,h)=>S (R h)
def Xi:Option (Sg×Rat)→Array Value
 | none=>#[S [],S [],S [],S []]
 | some (s,_)=>#[S (R s.a.x),S (R s.a.y),S (R s.b.x),S (R s.b.y)]
def Ty(st:Option (Sg×Rat)):Value:=.agg (Xi st)
def Dc(p:Pt)(l:List Sg):Option (Sg×Rat):=l.foldl (IV p) none
theorem vC(p:Pt)(l:List Sg)(s:Sg):Dc p (l ++ [s])=IV p (Dc p l) s:=by simp [Dc]
theorem FD{α:Type}{W:World}{r b:Nat}{E:List (α×Value×Nat)}{seen:List Nat}(h:Dk W r b E seen):(W.iterSeen r).size=seen.length:=by
 unfold World.iterSeen;rw [h.it];simp
structure S1(w wr:World)(b1 bb r:Nat)(L:List (Sg×Int))(p:Pt)(seen:List Nat)(st:Option (Sg×Rat)):Prop where
 ext:Ab w wr
 box:wr.heap[bb]?=some (.cells #[S (R p.x),S (R p.y)] 24)
 best:wr.heap[bb+1]?=some (.cells (Xi st) 140)
 iter:Dk wr r b1 (stamp L) seen
def Xf(p:Pt)(st:Option (Sg×Rat))(s:Sg):Option (Sg×Rat):=
 match st with
 | none=>some (s,BI s p.x)
 | some (b,h)=>if AO (BI s p.x) h=0 then (if 0 < AN (Am s.b s.a b.a)then some (s,BI s p.x)else some (b,h))else if 0 < AO (BI s p.x) h then some (s,BI s p.x)else some (b,h)
theorem AfG(p:Pt)(st:Option (Sg×Rat))(s:Sg):IV p st s=if 0<=AO s.a.x p.x then st else if AO s.b.x p.x<0 then st else if 0<=AO (BI s p.x) p.y then st else Xf p st s:=by
 cases st<;>rfl
theorem dM(st:Option (Sg×Rat)):∃c0 c1 c2 c3:Bs,Xi st=#[S c0,S c1,S c2,S c3]:=by
 cases st with
 | none=>exact⟨_,_,_,_,rfl⟩
 | some x=>exact⟨_,_,_,_,rfl⟩
theorem qJ(L:List (Sg×Int)):∀i (h:i<(stamp L).length),(stamp L)[i].2.2=i:=by
 intro i h;simp [stamp]
theorem ZR(L:List (Sg×Int)){i:Nat}(h:i<(stamp L).length):(stamp L)[i].1=(L[i]'(by rw [Eg]at h;exact h)).1:=by simp [stamp]
theorem qL(L:List (Sg×Int)){i:Nat}(h:i<(stamp L).length):(stamp L)[i].2.1=.int .i64 (L[i]'(by rw [Eg]at h;exact h)).2:=by simp [stamp]
theorem Abw{β:Type}(L:List β):(List.range L.length).filterMap (fun i=>L[i]?)=L:=by
 have h:∀n,n<=L.length→(List.range n).filterMap (fun i=>L[i]?)=L.take n:=by
  intro n
  induction n with
  | zero=>intro _;simp
  | succ n ih=>intro hn;rw [List.range_succ,List.filterMap_append,ih (by omega),As3 (by omega)];simp [As5 (show n<L.length by omega)]
 rw [h _ (As0 _),List.take_length]
theorem AbH(L:List (Sg×Int)){seen:List Nat}(CN:seen.Nodup)(hlt:∀i∈seen,i<(stamp L).length)(hlen:seen.length=(stamp L).length):(seen.filterMap (fun i=>L[i]?.map (·.1))).Perm (L.map (·.1)):=by
 rw [Eg]at hlt hlen
 have hmem:∀i,i<L.length→i∈seen:=by
  intro i hi;refine Classical.byContradiction fun hn=>?_;have h1:(i::seen).Nodup:=List.nodup_cons.2 ⟨hn,CN⟩
  have h2:(i::seen) ⊆ List.range L.length:=by
   intro j hj
   rcases List.mem_cons.1 hj with rfl|hj
   ·simpa using hi
   ·simpa using hlt j hj
  have:=h1.length_le_of_subset h2;simp at this;omega
 have hp:seen.Perm (List.range L.length):=by
  rw [List.perm_iff_count];intro i;rw [CN.count,(List.nodup_range).count];by_cases hi:i<L.length
  ·rw [if_pos (hmem i hi),if_pos (by simpa using hi)]
  ·rw [if_neg (fun h=>hi (hlt i h)),if_neg (by simpa using hi)]
 refine(hp.filterMap _).trans ?_
 have e:(List.range L.length).filterMap (fun i=>L[i]?.map (·.1))=L.map (·.1):=by
  have e1:(List.range L.length).filterMap (fun i=>L[i]?.map (·.1))=((List.range L.length).filterMap (fun i=>L[i]?)).map (·.1):=(by rw [List.map_filterMap]);rw [e1]
  congr 1
  exact Abw L
 rw [e]
theorem S1.put{w w':World}{b1 bb:Nat}{L:List (Sg×Int)}{p:Pt}{seen:List Nat}{st:Option (Sg×Rat)}(hB:S1 w w' b1 bb (bb+2) L p seen st)(hle:w.heap.size<=bb)(s:Sg)(y:Rat) :
  S1 w ((((w'.setCell ⟨bb+1,0,none⟩ (S (R s.a.x))).setCell ⟨bb+1,1,none⟩ (S (R s.a.y))).setCell ⟨bb+1,2,none⟩ (S (R s.b.x))).setCell ⟨bb+1,3,none⟩ (S (R s.b.y))) b1 bb (bb+2) L p seen (some (s,y)):=by
 obtain⟨c0,c1,c2,c3,hc⟩:=dM st;have hb:=hB.best;rw [hc]at hb
 have far:∀(X:World) (o:Nat) (v:Value) (q:Nat),q≠bb+1→(X.setCell ⟨bb+1,o,none⟩ v).heap[q]?=X.heap[q]?:=by intro X o v q hq;simp only [World.setCell,Array.getElem?_modify];rw [if_neg (by omega)]
 refine⟨(((hB.ext.setCell (p:=⟨bb+1,0,none⟩) (by simp;omega) _).setCell (p:=⟨bb+1,1,none⟩) (by simp;omega) _).setCell (p:=⟨bb+1,2,none⟩) (by simp;omega) _).setCell (p:=⟨bb+1,3,none⟩) (by simp;omega) _,?_,Qz _ _ _ _ hb,hB.iter.keep ?_⟩
 ·rw [far _ _ _ _ (by omega),far _ _ _ _ (by omega),far _ _ _ _ (by omega),far _ _ _ _ (by omega)];exact hB.box
 ·rw [far _ _ _ _ (by omega),far _ _ _ _ (by omega),far _ _ _ _ (by omega),far _ _ _ _ (by omega)]
theorem vD{B:Nat}{w:World}{rn b1 b2:Nat}{L:List (Sg×Int)}{E:List (Pt×Value×Nat)}{R0:List (Pt×List Pt)}(h:B7 B w rn b1 b2 L E R0)(p:Pt)(hL:∀e∈L,G5 e.1)(Ec:Ce p)(hw:Aj w) :
  Calls Tryz.prog 113 #[.pointer (some ⟨rn,0,none⟩),Af p] w fun e w'=>∃l:List Sg,l.Perm (L.map (·.1))/\e=.returned (.tuple #[Ty (Dc p l),.bool (Dc p l).isSome])/\Ab w w':=by
 have hE:=((Ab.refl w).alloc (.cells #[S (R p.x),S (R p.y)] 24)).alloc (.cells #[S [],S [],S [],S []] 140);have hb1:=(Below.heap_alloc (w.alloc (.cells #[S (R p.x),S (R p.y)] 24)) (.cells #[S [],S [],S [],S []] 140) w.heap.size (by simp)).trans (Asz w (.cells #[S (R p.x),S (R p.y)] 24));have hb2:=Asz (w.alloc (.cells #[S (R p.x),S (R p.y)] 24)) (.cells #[S [],S [],S [],S []] 140);rw [As7]at hb2;have hN:=h.ext hE;have hp:Aw 1 p:=Ec.sz (by omega);obtain⟨k,D3⟩:=Asw (1);rw [←D3]at hp;have hk:0<k:=(by omega);have C6:k<=1:=(by omega);have HK:=Asx D3;clear D3;unfold Af;go_enter Tryz.func113,Tryz.ntmps113
 go_upto_region 2 with fail
 rw [show (⟨#[]⟩:ByteArray)=⟨([]:Bs).toArray⟩from rfl];have hsz:((w.alloc (.cells #[S (R p.x),S (R p.y)] 24)).alloc (.cells #[S [],S [],S [],S []] 140)).heap.size=w.heap.size+2:=(by simp);generalize (w.alloc (.cells #[S (R p.x),S (R p.y)] 24)).alloc (.cells #[S [],S [],S [],S []] 140)=V at *;obtain⟨bb,AZ⟩:=Asw w.heap.size;have hle:w.heap.size<=bb:=(by omega);have NW:bb<=w.heap.size:=(by omega);rw [←AZ]at hb1 hb2 hsz ⊢;clear AZ;have n1:=Aa (o:=0) hN.cell rfl;have hrg:=Dk.range (enc:=A8) (E:=stamp L) (t:=95) Tryz.underlying95 (W:=V) (b:=b1) (by rw [Eg];exact hN.left);obtain⟨hr1,hr2⟩:=hrg;rw [hsz]at hr1 hr2;have hEI:=hE.alloc (.mapIter (some b1) (stamp L).length #[] (stamp L).length);have AiE:=(Below.heap_alloc V (.mapIter (some b1) (stamp L).length #[] (stamp L).length) bb (by omega)).trans hb1;have iV:=(Below.heap_alloc V (.mapIter (some b1) (stamp L).length #[] (stamp L).length) (bb+1) (by omega)).trans hb2;clear hb1 hb2
 go_upto_region 3 with fail
 generalize V.alloc (.mapIter (some b1) (stamp L).length #[] (stamp L).length)=V2 at *
 go_loopw [5,6] (fun f hi wr=>∃(seen:List Nat) (st:Option (Sg×Rat)),f=.bool st.isSome/\hi=kM st/\S1 w wr b1 bb (bb+2) L p seen st/\st=Dc p (seen.filterMap (fun i=>L[i]?.map (·.1)))/\(∀x,st=some x→G5 x.1/\x.2=BI x.1 p.x)) (fun _ _ wr=>L.length-(wr.iterSeen (bb+2)).size)
 case atStart=>exact⟨[],none,rfl,rfl,⟨hEI,AiE,iV,hr2⟩,rfl,by simp⟩
 case round=>
  obtain⟨seen,st,rfl,rfl,hB,hst,IC⟩:=hrel;have hb0:=(hB.ext.block b1 (Asy h.left)).trans h.left;rw [←Eg]at hb0;have JY:=Asy h.left;obtain⟨c0,c1,c2,c3,hc⟩:=dM st;have Jg:=hB.best;rw [hc]at Jg
  rcases Dk.next A8 hB.iter hb0 (qJ L) (by omega) 0 with⟨hlen,hrun⟩|⟨i,hi,H8,W1,Fw,hG1,hs1,hrun,hen⟩
  ·have y0:=Ah (o:=0) Jg;have y1:=Ah (o:=1) Jg;have y2:=Ah (o:=2) Jg;have y3:=Ah (o:=3) Jg;have z0:=Aa (o:=0) Jg rfl;have z1:=Aa (o:=1) Jg rfl;have z2:=Aa (o:=2) Jg rfl;have z3:=Aa (o:=3) Jg rfl;have hq:=Qz (S c0) (S c1) (S c2) (S c3) Jg;have q0:=Aa (o:=0) hq rfl;have q1:=Aa (o:=1) hq rfl;have q2:=Aa (o:=2) hq rfl;have q3:=Aa (o:=3) hq rfl;have hP:=AbH L hB.iter.nd hB.iter.lt hlen;have hX:=hB.ext;rw [hst]at hc;have hV:Ty (Dc p (seen.filterMap (fun i=>L[i]?.map (·.1))))=.agg #[S c0,S c1,S c2,S c3]:=(by unfold Ty;rw [hc]);obtain⟨fb,hfb⟩:=Asw st.isSome;have jZ:=hfb;rw [hst]at jZ;rw [←hfb];clear hq Jg hB hc hfb IC hst;go_wp2;refine bodyPost_ret (v:=.tuple #[.agg #[S c0,S c1,S c2,S c3],.bool fb]) (by simp [results,Tryz.results113,go_sem,q0,q1,q2,q3,jZ])  rfl ?_;exact⟨_,hP,by rw [hV,jZ],(((hX.setCell (p:=⟨bb+1,0,none⟩) (by simp;omega) _).setCell (p:=⟨bb+1,1,none⟩) (by simp;omega) _).setCell (p:=⟨bb+1,2,none⟩) (by simp;omega) _).setCell (p:=⟨bb+1,3,none⟩) (by simp;omega) _⟩
  ·have Mn:i<L.length:=(by rw [Eg]at hi;exact hi);rw [ZR,qL]at hrun hen;have D4:G5 (L[i]).1:=hL _ (As1 Mn)
   have hstep:Dc p ((seen ++ [i]).filterMap (fun i=>L[i]?.map (·.1)))=IV p st (L[i]).1:=by rw [List.filterMap_append,hst];simp only [List.filterMap_cons,List.filterMap_nil,As5 Mn,Option.map_some];rw [vC]
   have hlen':seen.length<L.length:=by
    have h2:(i::seen) ⊆ List.range L.length:=by
     intro j hj
     rcases List.mem_cons.1 hj with rfl|hj
     ·simpa using Mn
     ·have:=hB.iter.lt j hj;rw [Eg]at this;simpa using this
    have:=(List.nodup_cons.2 ⟨H8,hB.iter.nd⟩).length_le_of_subset h2;simp at this;omega
   have FU:=FD hB.iter;have X1:Ab w W1:=TM hB.ext hG1 (by omega);have vK:=(hG1.block bb (Asy hB.box) (by simp)).trans hB.box;have vF:=(hG1.block (bb+1) (Asy hB.best) (by simp)).trans hB.best;have Hx:=hen W1 rfl rfl;obtain⟨s,hs⟩:=Asw ((L[i]).1);obtain⟨z,hz⟩:=Asw ((L[i]).2);rw [←hs,←hz]at Hx hrun;rw [←hs]at D4 hstep;have hsk:G7 k s:=D4.sz hk;have Fy:=Asz W1 (.cells #[S (R s.a.x),S (R s.a.y),S (R s.b.x),S (R s.b.y)] 140);have E3:=(Ab.refl W1).alloc (.cells #[S (R s.a.x),S (R s.a.y),S (R s.b.x),S (R s.b.y)] 140)
   have KEEP:∀w',Ab (W1.alloc (.cells #[S (R s.a.x),S (R s.a.y),S (R s.b.x),S (R s.b.y)] 140)) w'→S1 w w' b1 bb (bb+2) L p (seen ++ [i]) st:=fun w' hx=>
    have hy:=E3.trans hx
    ⟨X1.trans hy,(hy.block _ (Asy vK)).trans vK,(hy.block _ (Asy vF)).trans vF,Fw.keep (hy.block _ (Asy Fw.it))⟩
   clear hen hs hz Jg hb0 hG1 hr1 hr2 hB hN;unfold A8 at Hx hrun
   go_upto_region 5 with fail
   unfold S at Fy E3 KEEP;rw [hs1]at Fy;generalize (W1.alloc (.cells #[.string ⟨(R s.a.x).toArray⟩,.string ⟨(R s.a.y).toArray⟩,.string ⟨(R s.b.x).toArray⟩,.string ⟨(R s.b.y).toArray⟩] 140))=V3 at *;obtain⟨bs,Bz⟩:=Asw wr.heap.size;rw [←Bz]at Fy ⊢;clear hrun Hx Bz hs1 hst;have okV:=hw.ext (X1.trans E3);have B0:=(KEEP V3 (Ab.refl _)).box
   have F:∀w',Ab V3 w'→(w'.cell? ⟨bb,0,none⟩=some (S (R p.x))/\w'.cell? ⟨bb,1,none⟩=some (S (R p.y))/\w'.cell? ⟨bs,0,none⟩=some (S (R s.a.x))/\w'.cell? ⟨bs,1,none⟩=some (S (R s.a.y))/\w'.cell? ⟨bs,2,none⟩=some (S (R s.b.x))/\w'.cell? ⟨bs,3,none⟩=some (S (R s.b.y))):=fun w' h=>⟨h.cellS (Aa B0 rfl),h.cellS (Aa B0 rfl),h.cellS (Aa Fy rfl),h.cellS (Aa Fy rfl),h.cellS (Aa Fy rfl),h.cellS (Aa Fy rfl)⟩
   clear B0 Fy;have cA:=G0 s.a.x p.x (a:=k) (b:=k) ⟨hsk.a.x,hp.x,hk,hk,by omega⟩;have cB:=G0 s.b.x p.x (a:=k) (b:=k) ⟨hsk.b.x,hp.x,hk,hk,by omega⟩
   have CP:IV p st s=if 0<=AO s.a.x p.x then st else if AO s.b.x p.x<0 then st else if 0<=AO (BI s p.x) p.y then st else Xf p st s:=AfG p st s
   obtain⟨xa,FC⟩:=Asw (AO s.a.x p.x);obtain⟨xb,hxb⟩:=Asw (AO s.b.x p.x);rw [←FC]at cA CP;rw [←hxb]at cB CP;obtain⟨f1,f2,f3,f4,f5,f6⟩:=F V3 (Ab.refl _);(go_wp2_with fail);(with_reducible refine(cA _ okV).mono ?_);rintro e w1 ⟨rfl,hx1⟩;clear f1 f2 f3 f4 f5 f6 cA;obtain⟨f1,f2,f3,f4,f5,f6⟩:=F w1 hx1;by_cases a1:0<=xa
   ·have d1:decide (0<=xa)=true:=decide_eq_true a1;have hb1:IV p st s=st:=(by rw [CP,if_pos a1]);clear CP cB F;go_wp2;go_roundw
    case rel=>exact⟨seen ++ [i],st,rfl,rfl,KEEP _ hx1,by rw [hstep];exact(hb1).symm,IC⟩
    case measure=>rw [FU,FD (KEEP _ hx1).iter,List.length_append,List.length_singleton];omega
   have d1:decide (0<=xa)=false:=decide_eq_false a1;rw [if_neg a1]at CP;(go_wp2_with fail);(with_reducible refine(cB _ (okV.ext hx1)).mono ?_);rintro e w2 ⟨rfl,hx2⟩;replace hx2:=hx1.trans hx2;clear f1 f2 f3 f4 f5 f6 cB hx1;obtain⟨f1,f2,f3,f4,f5,f6⟩:=F w2 hx2;by_cases a2:xb<0
   ·have d2:decide (xb<0)=true:=decide_eq_true a2;have hb1:IV p st s=st:=(by rw [CP,if_pos a2]);clear CP F;go_wp2;go_roundw
    case rel=>exact⟨seen ++ [i],st,rfl,rfl,KEEP _ hx2,by rw [hstep];exact(hb1).symm,IC⟩
    case measure=>rw [FU,FD (KEEP _ hx2).iter,List.length_append,List.length_singleton];omega
   have d2:decide (xb<0)=false:=decide_eq_false a2;rw [if_neg a2]at CP
   have h0:s.b.x≠s.a.x:=by have q1:=Xk s.a.x p.x;have q2:=Xk s.b.x p.x;rw [←FC]at q1;rw [←hxb]at q2;have q3:s.a.x<p.x:=q1.1 (by omega);have q4:¬s.b.x<p.x:=fun h=>a2 (q2.2 h);intro e;rw [e]at q4;exact q4 q3
   have ch:=AiZ s p.x hsk hp.x hk (by omega) h0;unfold A8 at ch;have mY:=Acw D4 Ec.x;obtain⟨y,hy⟩:=Asw (BI s p.x);rw [←hy]at ch mY CP;have cC:=G0 y p.y (a:=3) (b:=k) ⟨mY,hp.y,by omega,hk,by omega⟩;obtain⟨xc,Vn⟩:=Asw (AO y p.y);rw [←Vn]at cC CP;have HY:=Asx hy;clear FC hxb Vn h0 hy;(go_wp2_with fail);(with_reducible refine(ch _ (okV.ext hx2)).mono ?_);rintro e w3 ⟨rfl,hx3⟩;replace hx3:=hx2.trans hx3;clear f1 f2 f3 f4 f5 f6 ch hx2;obtain⟨f1,f2,f3,f4,f5,f6⟩:=F w3 hx3;(go_wp2_with fail);(with_reducible refine(cC _ (okV.ext hx3)).mono ?_);rintro e w4 ⟨rfl,Ao⟩;replace Ao:=hx3.trans Ao;clear f1 f2 f3 f4 f5 f6 cC hx3;obtain⟨f1,f2,f3,f4,f5,f6⟩:=F w4 Ao;by_cases a3:0<=xc
   ·have d3:decide (0<=xc)=true:=decide_eq_true a3;have hb1:IV p st s=st:=(by rw [CP,if_pos a3]);clear CP F;go_wp2;go_roundw
    case rel=>exact⟨seen ++ [i],st,rfl,rfl,KEEP _ Ao,by rw [hstep];exact hb1.symm,IC⟩
    case measure=>rw [FU,FD (KEEP _ Ao).iter,List.length_append,List.length_singleton];omega
   have d3:decide (0<=xc)=false:=decide_eq_false a3;rw [if_neg a3]at CP;have K4:=KEEP w4 Ao
   cases st with
   | none=>
    have Mx:Xf p none s=some (s,y):=(by rw [HY.out];rfl);rw [Mx]at CP;have y0:=Ah (o:=0) K4.best;have y1:=Ah (o:=1) K4.best;have y2:=Ah (o:=2) K4.best;have y3:=Ah (o:=3) K4.best;have z0:=Aa (o:=0) K4.best rfl;have z1:=Aa (o:=1) K4.best rfl;have z2:=Aa (o:=2) K4.best rfl;have z3:=Aa (o:=3) K4.best rfl;have K5:=K4.put hle s y;unfold kM;clear K4 F KEEP Mx;go_wp2;go_roundw
    case rel=>exact⟨seen ++ [i],some (s,y),rfl,rfl,K5,by rw [hstep];exact CP.symm,by rintro x hx;simp only [As4]at hx;rw [←hx];exact⟨D4,HY.out⟩⟩
    case measure=>rw [FU,FD K5.iter,List.length_append,List.length_singleton];omega
   | some bh=>
    obtain⟨b,hh⟩:=bh;obtain⟨QY,kK⟩:=IC _ rfl;simp only at QY kK;have m8:Sz (3) hh:=(by rw [kK];exact Acw QY Ec.x);have cD:=G0 y hh (a:=3) (b:=3) ⟨mY,m8,by omega,by omega,by omega⟩
    have Mx:Xf p (some (b,hh)) s=if AO y hh=0 then (if 0<AN (Am s.b s.a b.a)then some (s,y)else some (b,hh))else if 0<AO y hh then some (s,y)else some (b,hh):=by rw [HY.out];rfl
    rw [Mx]at CP;obtain⟨xd,wl⟩:=Asw (AO y hh);rw [←wl]at cD CP;clear wl Mx kK m8 hc;clear K4;unfold kM;(go_wp2_with fail);(with_reducible refine(cD _ (okV.ext Ao)).mono ?_);rintro e w5 ⟨rfl,As⟩;replace As:=Ao.trans As;clear f1 f2 f3 f4 f5 f6 cD Ao;obtain⟨f1,f2,f3,f4,f5,f6⟩:=F w5 As;have K5:=KEEP w5 As;by_cases a4:xd=0
    ·subst a4;rw [if_pos rfl]at CP;have cE:=MA s.b s.a b.a hsk.b hsk.a (QY.sz hk).a hk (by omega);unfold Af at cE;obtain⟨xe,Jr⟩:=Asw (AN (Am s.b s.a b.a));rw [←Jr]at cE CP;clear Jr;have z0:w5.cell? ⟨bb+1,0,none⟩=some (S (R b.a.x)):=Aa (o:=0) K5.best rfl;have z1:w5.cell? ⟨bb+1,1,none⟩=some (S (R b.a.y)):=Aa (o:=1) K5.best rfl;clear K5;(go_wp2_with fail);(with_reducible refine(cE _ (okV.ext As)).mono ?_);rintro e w6 ⟨rfl,AX⟩;replace AX:=As.trans AX;clear f1 f2 f3 f4 f5 f6 cE As z0 z1;obtain⟨f1,f2,f3,f4,f5,f6⟩:=F w6 AX;have K6:=KEEP w6 AX;by_cases a5:0<xe
     ·have d5:decide (0<xe)=true:=decide_eq_true a5;rw [if_pos a5]at CP;have y0:=Ah (o:=0) K6.best;have y1:=Ah (o:=1) K6.best;have y2:=Ah (o:=2) K6.best;have y3:=Ah (o:=3) K6.best;have z0:=Aa (o:=0) K6.best rfl;have z1:=Aa (o:=1) K6.best rfl;have z2:=Aa (o:=2) K6.best rfl;have z3:=Aa (o:=3) K6.best rfl;have K9:=K6.put hle s y;clear K6 F KEEP;go_wp2;go_roundw
      case rel=>exact⟨seen ++ [i],some (s,y),rfl,rfl,K9,by rw [hstep];exact CP.symm,by rintro x hx;simp only [As4]at hx;rw [←hx];exact⟨D4,HY.out⟩⟩
      case measure=>rw [FU,FD K9.iter,List.length_append,List.length_singleton];omega
     ·have d5:decide (0<xe)=false:=decide_eq_false a5;rw [if_neg a5]at CP;go_wp2;go_roundw
      case rel=>exact⟨seen ++ [i],some (b,hh),rfl,rfl,K6,by rw [hstep];exact CP.symm,IC⟩
      case measure=>rw [FU,FD K6.iter,List.length_append,List.length_singleton];omega
    ·have d4:decide (xd=0)=false:=decide_eq_false a4;have d4':(xd == 0)=false:=(by simpa using a4);rw [if_neg a4]at CP;by_cases a5:0<xd
     ·have d5:decide (0<xd)=true:=decide_eq_true a5;rw [if_pos a5]at CP;have y0:=Ah (o:=0) K5.best;have y1:=Ah (o:=1) K5.best;have y2:=Ah (o:=2) K5.best;have y3:=Ah (o:=3) K5.best;have z0:=Aa (o:=0) K5.best rfl;have z1:=Aa (o:=1) K5.best rfl;have z2:=Aa (o:=2) K5.best rfl;have z3:=Aa (o:=3) K5.best rfl;have K9:=K5.put hle s y;clear K5 F KEEP;go_wp2;go_roundw
      case rel=>exact⟨seen ++ [i],some (s,y),rfl,rfl,K9,by rw [hstep];exact CP.symm,by rintro x hx;simp only [As4]at hx;rw [←hx];exact⟨D4,HY.out⟩⟩
      case measure=>rw [FU,FD K9.iter,List.length_append,List.length_singleton];omega
     ·have d5:decide (0<xd)=false:=decide_eq_false a5;rw [if_neg a5]at CP;go_wp2;go_roundw
      case rel=>exact⟨seen ++ [i],some (b,hh),rfl,rfl,K5,by rw [hstep];exact CP.symm,IC⟩
      case measure=>rw [FU,FD K5.iter,List.length_append,List.length_singleton];omega
end Go.Proofs.YtnddllipjippnaaGreatDoor
