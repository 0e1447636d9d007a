/- K22: ShLay ShM12 ShM13 ShM14 ShM15 ShM16 ShM18 ShM19 ShM20. -/
import Derived.Test.YtgnejnampofhoaaGreatDoorK04
import Derived.Test.YtgnejnampofhoaaGreatDoorK18
import Derived.Shelf.SlSortCmp.InsertionK
set_option maxRecDepth 100000
set_option maxHeartbeats 8000000
namespace Go.Proofs.YtgnejnampofhoaaGreatDoor
open Go.RowKit Kl Go.Sort
theorem Qu{w a b:World}{r:Nat}(h:Ac w a)(hg:a.grownBy b (some r))(hr:w.heap.size<=r):Ac w b:=
 ⟨hg.os.trans h.os,hg.tape.trans h.tape,hg.output.trans h.output,Aj9 h.size hg.size,fun k hk=>(hg.block k (Aj8 hk h.size) (by simp;omega)).trans (h.block k hk)⟩
section
variable {α : Type} [Inhabited α]
theorem Oq(enc:α→List Value)(k:Nat)(w:World)(blk off m:Nat)(dk:Array α)(os:Array Obj):w.grownBy (sortWorldK enc k w blk off m dk os) (some blk):=by
 refine⟨rfl,rfl,rfl,?_,fun i hi hne=>?_⟩
 ·exact size_sortWorldK_c enc k w blk off m dk os
 ·have hb:i≠blk:=fun e=>hne (by rw [e]);show ((w.heap.modify blk _)++os)[i]?=w.heap[i]?;rw [Array.getElem?_append_left (by simpa using hi),Array.getElem?_modify,if_neg (fun e=>hb e.symm)]
theorem aG{g:Nat}{cb:Array Value}{enc:α→List Value}{k:Nat}{cf:α→α→Int}{blk off size:Nat}{w:World}
  (h:∀W,w.grownBy W (some blk)→∀x y,Calls Tryz.prog g (#[.agg (enc x).toArray,.agg (enc y).toArray]++cb) W (AK (cf x y) W)):CmpLays Tryz.prog g cb enc k cf blk off size w:=by
 intro m os dk _ x y;refine(Calls.drawn (h _ (Oq enc k w blk off m dk os) x y) (fun e w' h=>⟨_,h.1⟩)).mono ?_;rintro e w' ⟨⟨he,hx⟩,hd⟩;exact⟨he,hx.grow hd⟩
theorem Ag2(enc:α→List Value)(k:Nat)(w:World)(blk off m:Nat)(dk:Array α)(os:Array Obj){c:Array Value}{e:TypeId}{fr:Nat×Nat}(h:w.heap[blk]?=some (.cells c e fr)) :
  (sortWorldK enc k w blk off m dk os).heap[blk]?=some (.cells (putCells id off (flatK enc k dk) c) e fr):=by
 have hlt:=Ajx h;show ((w.heap.modify blk (onCells (putCells id off (flatK enc k dk))))++os)[blk]?=_;rw [Array.getElem?_append_left (by simpa using hlt),Array.getElem?_modify,if_pos rfl,h]
 rfl
end
theorem XA{α:Type}{enc:α→List Value}{k:Nat}(hk:∀x,(enc x).length=k):∀(l:List α),(l.flatMap enc).length=l.length*k
 | []=>by simp
 | x::l=>by rw [List.flatMap_cons,List.length_append,hk,XA hk l,List.length_cons,Nat.add_mul,Nat.one_mul,Nat.add_comm]
section
variable {α : Type} [Inhabited α] {enc : α → List Value} {k : Nat}
theorem TE(hk:∀x,(enc x).length=k)(k0:0<k):∀(l:List α) (t:Nat),t<l.length*k→(l.flatMap enc)[t]?=some ((enc l[t/k]!)[t%k]!)
 | [],t,h=>by simp at h
 | x::l,t,h=>by
  rw [List.flatMap_cons];by_cases ht:t<k
  ·rw [List.getElem?_append_left (by rw [hk];exact ht),Nat.div_eq_of_lt ht,Nat.mod_eq_of_lt ht,Aj4 (by rw [hk];exact ht)];simp [hk,ht]
  ·have e1:t/k=(t-k)/k+1:=by rw [Nat.div_eq_sub_div k0 (by omega)]
   have e2:t%k=(t-k)%k:=by rw [Nat.mod_eq_sub_mod (by omega)]
   have hl:t-k<l.length*k:=by rw [List.length_cons,Nat.add_mul,Nat.one_mul]at h;omega
   rw [List.getElem?_append_right (by rw [hk];omega),hk,TE hk k0 l (t-k) hl,e1,e2];simp
theorem mG(hk:∀x,(enc x).length=k)(k0:0<k)(d:Array α):(flatK enc k d).toList=d.toList.flatMap enc:=by
 apply List.ext_getElem?;intro t;by_cases ht:t<d.size*k
 ·rw [TE hk k0 _ _ (by simpa using ht)];have h1:t<(flatK enc k d).toList.length:=(by simpa using ht);have h2:=get_flatK enc k d t ht;rw [Aj4 h1]
  have h3:(flatK enc k d)[t]! = (flatK enc k d).toList[t]:=by rw [getElem!_pos _ t (by simpa using ht)];simp
  rw [←h3,h2]
  congr 1
  have h4:d[t/k]! = d.toList[t/k]!:=by have hlt:t/k<d.size:=Nat.div_lt_of_lt_mul (by rw [Nat.mul_comm];exact ht);rw [getElem!_pos d _ hlt,getElem!_pos d.toList _ (by simpa using hlt)];simp
  rw [h4]
 ·rw [List.getElem?_eq_none (by simp;omega),List.getElem?_eq_none (by rw [XA hk];simp;omega)]
theorem Zz{w:World}{base:Nat}{e:TypeId}{v:Value}{d:Array α}(hk:∀x,(enc x).length=k)(k0:0<k)(h:w.ownsRow base e k v d.size (d.toList.flatMap enc))(hd:0<d.size) :
  ∃g cap,v=.slice (some ⟨g,0,none⟩) d.size cap/\base<=g/\g<w.heap.size/\HoldsK enc k w g 0 d/\v.ownBlock=some g:=by
 rcases h.2 with⟨_,h0⟩|⟨g,cap,cur,rfl,hb,hg,hn,hm,hs,ht⟩
 ·omega
 ·refine⟨g,cap,rfl,hb,Ajx hg,?_,rfl⟩;intro j hj;rw [size_flatK]at hj;have Mf:j<d.toList.length*k:=(by simpa using hj);have h1:=TE hk k0 d.toList j Mf;rw [←mG hk k0]at h1
  have h2:(flatK enc k d)[j]! = (enc d.toList[j/k]!)[j%k]!:=by rw [getElem!_pos _ j (by simpa using hj)];rw [Aj4 (by simpa using hj),Aj3]at h1;rw [←h1];simp
  have h3:cur.toList[j]?=some ((flatK enc k d)[j]!):=by have h4:=TE hk k0 d.toList j Mf;rw [←ht,List.getElem?_take_of_lt (by rw [Nat.mul_comm]at hj ⊢;omega)]at h4;rw [h4,h2]
  refine⟨?_,?_⟩
  ·rw [Nat.zero_add];refine Aa hg ?_;rw [←Array.getElem?_toList];exact h3
  ·rw [Nat.zero_add];exact Aj hg
theorem Sf{w:World}{base:Nat}{e:TypeId}{g cap:Nat}{d d':Array α}(hk:∀x,(enc x).length=k)(k0:0<k)(h:w.ownsRow base e k (.slice (some ⟨g,0,none⟩) d.size cap) d.size (d.toList.flatMap enc))(hd:d'.size=d.size)(m:Nat)(os:Array Obj) :
  (sortWorldK enc k w g 0 m d' os).ownsRow base e k (.slice (some ⟨g,0,none⟩) d.size cap) d.size (d'.toList.flatMap enc):=by
 rcases h.2 with⟨h',_⟩|⟨g',cap',cur,hv,hb,hg,hn,hm,hs,ht⟩
 ·cases h'
 ·simp only [Value.slice.injEq,Aj3,Addr.mk.injEq,and_true,true_and]at hv;obtain⟨rfl,rfl⟩:=hv;have hF:(flatK enc k d').size=d.size*k:=(by rw [size_flatK,hd]);have hle:d.size*k<=cur.size:=(by rw [hs];exact Nat.mul_le_mul_right k hn);refine⟨?_,.inr ⟨g,cap,_,rfl,hb,Ag2 enc k w g 0 m d' os hg,hn,hm,?_,?_⟩⟩
  ·rw [XA hk];simp [hd]
  ·unfold putCells;simpa using hs
  ·rw [←mG hk k0];apply List.ext_getElem?;intro t;by_cases htl:t<d.size*k
   ·rw [List.getElem?_take_of_lt htl,Array.getElem?_toList];unfold putCells;rw [Array.getElem?_mapIdx,Array.getElem?_eq_getElem (by omega)];simp only [Option.map_some,Nat.zero_le,true_and,Nat.zero_add,Nat.sub_zero];rw [if_pos (by omega),Array.getElem?_toList,Array.getElem?_eq_getElem (by omega)];rw [getElem!_pos _ t (by omega)]
    rfl
   ·rw [List.getElem?_eq_none (by rw [List.length_take];omega),List.getElem?_eq_none (by simp [hd];omega)]
end
def Fq(s t:Sg):Int:=if Bd s.a t.a≠0 then Bd s.a t.a else Bd s.b t.b
theorem uw(s t:Sg){k:Nat}(hs:EW k s)(ht:EW k t)(hk:0<k)(hk2:k<=1)(w:World)(hw:Ao w) :
  Calls Tryz.prog 119 #[AC s,AC t] w (AK (Fq s t) w):=by
 have c1:=Ih s.a t.a hs.a ht.a hk hk2;have c2:=Ih s.b t.b hs.b ht.b hk hk2;have hE:=((Ac.refl w).alloc (.cells #[S (R s.a.x),S (R s.a.y),S (R s.b.x),S (R s.b.y)] 175)).alloc (.cells #[S (R t.a.x),S (R t.a.y),S (R t.b.x),S (R t.b.y)] 175);obtain⟨x,hx0⟩:=Ajv (Bd s.a t.a);obtain⟨y,DT⟩:=Ajv (Bd s.b t.b)
 have hr:Fq s t=if x≠0 then x else y:=by rw [hx0,DT];rfl
 rw [hr];rw [←hx0]at c1;rw [←DT]at c2
 have hA:(w.alloc (.cells #[S (R s.a.x),S (R s.a.y),S (R s.b.x),S (R s.b.y)] 175)).alloc (.cells #[S (R t.a.x),S (R t.a.y),S (R t.b.x),S (R t.b.y)] 175) |>.heap[w.heap.size]?=some (.cells #[S (R s.a.x),S (R s.a.y),S (R s.b.x),S (R s.b.y)] 175):=(Below.heap_alloc _ _ _ (by simp)).trans (Ajy w _)
 have hB:=Ajy (w.alloc (.cells #[S (R s.a.x),S (R s.a.y),S (R s.b.x),S (R s.b.y)] 175)) (.cells #[S (R t.a.x),S (R t.a.y),S (R t.b.x),S (R t.b.y)] 175);rw [Aj6]at hB;obtain⟨r,FS⟩:=Ajv (if x≠0 then x else y:Int);rw [←FS]
 have Sc:∀(b o:Nat) (w:World),w.cell? ⟨b,o,none⟩=some (.int .i64 x)→w.cell? ⟨b,o+1,none⟩=some (.int .i64 y)→Calls Tryz.prog 144 #[.slice (some ⟨b,o,none⟩) 2 2] w (AK r w):=by intro b o w h1 h2;rw [FS];exact bJ x y b o w h1 h2
 unfold Ak at c1 c2;unfold AC;clear hs ht hr hx0 DT FS;go_enter Tryz.func119,Tryz.ntmps119
 go_upto_region 1 with fail
 generalize (w.alloc (.cells #[S (R s.a.x),S (R s.a.y),S (R s.b.x),S (R s.b.y)] 175)).alloc (.cells #[S (R t.a.x),S (R t.a.y),S (R t.b.x),S (R t.b.y)] 175)=V at *;have hs:=hE.size;obtain⟨ba,Av⟩:=Ajv w.heap.size;rw [←Av]at hA hB ⊢;clear Av hs
 have SO:∀w',Ac V w'→(w'.cell? ⟨ba,0,none⟩=some (S (R s.a.x))/\w'.cell? ⟨ba,1,none⟩=some (S (R s.a.y))/\w'.cell? ⟨ba,2,none⟩=some (S (R s.b.x))/\w'.cell? ⟨ba,3,none⟩=some (S (R s.b.y))/\w'.cell? ⟨ba+1,0,none⟩=some (S (R t.a.x))/\w'.cell? ⟨ba+1,1,none⟩=some (S (R t.a.y))/\w'.cell? ⟨ba+1,2,none⟩=some (S (R t.b.x))/\w'.cell? ⟨ba+1,3,none⟩=some (S (R t.b.y))):=fun w' h=>⟨h.cellS (Aa hA rfl),h.cellS (Aa hA rfl),h.cellS (Aa hA rfl),h.cellS (Aa hA rfl),h.cellS (Aa hB rfl),h.cellS (Aa hB rfl),h.cellS (Aa hB rfl),h.cellS (Aa hB rfl)⟩
 have X0:Ac V V.drew:=(Ac.refl V).drew;have hV:=hw.ext hE;clear hA hB
 go_region_held3 (fun w'=>w'.cell? ⟨ba,0,none⟩=some (S (R s.a.x))/\w'.cell? ⟨ba,1,none⟩=some (S (R s.a.y))/\w'.cell? ⟨ba,2,none⟩=some (S (R s.b.x))/\w'.cell? ⟨ba,3,none⟩=some (S (R s.b.y))/\w'.cell? ⟨ba+1,0,none⟩=some (S (R t.a.x))/\w'.cell? ⟨ba+1,1,none⟩=some (S (R t.a.y))/\w'.cell? ⟨ba+1,2,none⟩=some (S (R t.b.x))/\w'.cell? ⟨ba+1,3,none⟩=some (S (R t.b.y)))
  (first|with_reducible exact SO _ X0|with_reducible exact SO _ X5|with_reducible exact SO _ X6|with_reducible exact SO _ X7|with_reducible exact SO _ (X6.alloc _))
  (first|((with_reducible refine(c1 _ (hV.ext X0)).mono ?_);rintro e w5 ⟨rfl,AE⟩;have X5:Ac V w5:=X0.trans AE)|((with_reducible refine(c2 _ (hV.ext X5)).mono ?_);rintro e w6 ⟨rfl,AU⟩;have X6:Ac V w6:=X5.trans AU;have De:=Ajy w6 (.cells #[.int .i64 x,.int .i64 y] 3);have g0:=Aa (o:=0) De rfl;have g1:=Aa (o:=1) De rfl;clear De)|((with_reducible refine(Sc w6.heap.size 0 _ g0 g1).mono ?_);rintro e w7 ⟨rfl,AL⟩;have X7:Ac V w7:=(X6.alloc _).trans AL))
 go_wp2;go_ret;exact⟨rfl,hE.trans X7⟩
theorem Tw(p q:Rat):AY p q<0↔p<q:=by unfold AY;grind
theorem Xf(p q:Rat):AY p q=0↔p=q:=by unfold AY;grind
theorem Adj(a b:Pt):Bd a b=0↔a.x=b.x/\a.y=b.y:=by
 unfold Bd;have h1:=Xf a.x b.x;have h2:=Xf a.y b.y
 split<;>grind
theorem Pa(a b:Pt):Bd a b<0↔a.x<b.x∨(a.x=b.x/\a.y<b.y):=by
 unfold Bd;have h1:=Xf a.x b.x;have h2:=Tw a.x b.x;have h3:=Tw a.y b.y
 split<;>grind
theorem Pb(s t:Sg):Fq s t<0↔s.a.x<t.a.x∨(s.a.x=t.a.x/\(s.a.y<t.a.y∨(s.a.y=t.a.y/\(s.b.x<t.b.x∨(s.b.x=t.b.x/\s.b.y<t.b.y))))):=by
 unfold Fq;have h1:=Adj s.a t.a;have h2:=Pa s.a t.a;have h3:=Pa s.b t.b
 split<;>grind
def Qc(s:Sg):Prop:=EW 1 s
theorem zJ:Qc ⟨⟨0,0⟩,⟨0,0⟩⟩:=by
 have h:Sz 1 (0:Rat):=(by constructor<;>decide +kernel);exact⟨⟨h,h⟩,⟨h,h⟩⟩
abbrev Way:={s:Sg // Qc s}
instance:Inhabited Way:=⟨⟨_,zJ⟩⟩
def He(s t:Way):Int:=Fq s.1 t.1
theorem dm(s t:Way):ltOf He s t=true↔s.1.a.x<t.1.a.x∨(s.1.a.x=t.1.a.x/\(s.1.a.y<t.1.a.y∨(s.1.a.y=t.1.a.y/\(s.1.b.x<t.1.b.x∨(s.1.b.x=t.1.b.x/\s.1.b.y<t.1.b.y))))):=by
 unfold ltOf He;rw [decide_eq_true_iff];exact Pb _ _
theorem dU(s t:Way):ltOf He s t=false↔¬(s.1.a.x<t.1.a.x∨(s.1.a.x=t.1.a.x/\(s.1.a.y<t.1.a.y∨(s.1.a.y=t.1.a.y/\(s.1.b.x<t.1.b.x∨(s.1.b.x=t.1.b.x/\s.1.b.y<t.1.b.y)))))):=by
 rw [←dm];simp
theorem dp:SWO (ltOf He) where
 irrefl x:=by rw [dU];grind
 trans x y z h1 h2:=by rw [dm]at *;grind
 ntrans x y z h1 h2:=by rw [dU]at *;grind
theorem Ahg(x y:Way)(h1:ltOf He x y=false)(h2:ltOf He y x=false):x=y:=by
 rw [dU]at h1 h2;obtain⟨⟨⟨a,b⟩,⟨c,d⟩⟩,hx⟩:=x;obtain⟨⟨⟨a',b'⟩,⟨c',d'⟩⟩,hy⟩:=y;simp only [Subtype.mk.injEq,Sg.mk.injEq,Pt.mk.injEq]at *
 grind
def Gc(s:Way):List Value:=[S (R s.1.a.x),S (R s.1.a.y),S (R s.1.b.x),S (R s.1.b.y)]
theorem TB(s:Way):(Gc s).length=4:=rfl
theorem yn(s:Way):∀v∈Gc s,v.oneCell'=true:=by
 intro v hv;simp only [Gc,List.mem_cons,AjA,or_false]at hv
 rcases hv with rfl|rfl|rfl|rfl<;>rfl
theorem Ahf{w0 w:World}(hw:Ao w0)(hx:Ac w0 w){blk:Nat}(hb:w0.heap.size<=blk)(off size:Nat):CmpLays Tryz.prog 119 #[] Gc 4 He blk off size w:=by
 refine aG fun W hg x y=>?_;have h:=uw x.1 y.1 x.2 y.2 (by omega) (by omega) W (hw.ext (Qu hx hg hb));exact h
end Go.Proofs.YtgnejnampofhoaaGreatDoor
namespace Go.Proofs.YtgnejnampofhoaaGreatDoor
open Go.RowKit Kl
def B9(s:Sg)(x:Rat):Rat:=s.a.y+(x-s.a.x)/(s.b.x-s.a.x)*(s.b.y-s.a.y)
theorem Abb(s:Sg)(x:Rat){k:Nat}(hs:EW k s)(hx:Sz k x)(hk:0<k)(hk2:k<=1)(h0:s.b.x≠s.a.x)(w:World)(hw:Ao w) :
  Calls Tryz.prog 259 #[AC s,S (R x)] w (Cc (R (B9 s x)) w):=by
 have s1:=G1 x s.a.x (a:=k) (b:=k) ⟨hx,hs.a.x,hk,hk,by omega⟩;have s2:=G1 s.b.x s.a.x (a:=k) (b:=k) ⟨hs.b.x,hs.a.x,hk,hk,by omega⟩;have dv:=Afe (x-s.a.x) (s.b.x-s.a.x) (by grind) (a:=k+k+1) (b:=k+k+1) ⟨hx.sub hs.a.x,hs.b.x.sub hs.a.x,by omega,by omega,by omega⟩;have s3:=G1 s.b.y s.a.y (a:=k) (b:=k) ⟨hs.b.y,hs.a.y,hk,hk,by omega⟩;have mu:=NE ((x-s.a.x)/(s.b.x-s.a.x)) (s.b.y-s.a.y) (a:=k+k+1+(k+k+1)) (b:=k+k+1) ⟨(hx.sub hs.a.x).div (by omega) (hs.b.x.sub hs.a.x),hs.b.y.sub hs.a.y,by omega,by omega,by omega⟩;have ad:=Vm s.a.y ((x-s.a.x)/(s.b.x-s.a.x)*(s.b.y-s.a.y)) (a:=k) (b:=k+k+1+(k+k+1)+(k+k+1)) ⟨hs.a.y,((hx.sub hs.a.x).div (by omega) (hs.b.x.sub hs.a.x)).mul (hs.b.y.sub hs.a.y),by omega,by omega,by omega⟩;have e:B9 s x=s.a.y+(x-s.a.x)/(s.b.x-s.a.x)*(s.b.y-s.a.y):=rfl;rw [←e]at ad;obtain⟨r,hr⟩:=Ajv (B9 s x);rw [←hr]at ad ⊢;unfold AC;unfold Vo at dv;clear hs hx e hr;go_enter Tryz.func259,Tryz.ntmps259
 go_upto_region 1 with fail
 have hb:=Ajy w (.cells #[S (R s.a.x),S (R s.a.y),S (R s.b.x),S (R s.b.y)] 175);have hE:=(Ac.refl w).alloc (.cells #[S (R s.a.x),S (R s.a.y),S (R s.b.x),S (R s.b.y)] 175);obtain⟨W,hW⟩:=Ajv (w.alloc (.cells #[S (R s.a.x),S (R s.a.y),S (R s.b.x),S (R s.b.y)] 175));rw [←hW]at hb hE ⊢;clear hW;obtain⟨ba,Av⟩:=Ajv w.heap.size;rw [←Av]at hb ⊢;clear Av
 have SO:∀w',Ac W w'→(w'.cell? ⟨ba,0,none⟩=some (S (R s.a.x))/\w'.cell? ⟨ba,1,none⟩=some (S (R s.a.y))/\w'.cell? ⟨ba,2,none⟩=some (S (R s.b.x))/\w'.cell? ⟨ba,3,none⟩=some (S (R s.b.y))):=fun w' h=>⟨h.cellS (Aa hb rfl),h.cellS (Aa hb rfl),h.cellS (Aa hb rfl),h.cellS (Aa hb rfl)⟩
 have CS:=hw.ext hE;have X:Ac W W:=Ac.refl W;clear hb
 go_region_held3 (fun w'=>w'.cell? ⟨ba,0,none⟩=some (S (R s.a.x))/\w'.cell? ⟨ba,1,none⟩=some (S (R s.a.y))/\w'.cell? ⟨ba,2,none⟩=some (S (R s.b.x))/\w'.cell? ⟨ba,3,none⟩=some (S (R s.b.y)))
  (first|with_reducible exact SO _ X|with_reducible exact SO _ X.drew)
  (first|((with_reducible refine(s1 _ (CS.ext (by first|exact X|exact X.drew))).mono ?_);rintro e w1 ⟨rfl,hx1⟩;replace X:Ac W w1:=(by first|exact X.trans hx1|exact X.drew.trans hx1))|((with_reducible refine(s2 _ (CS.ext (by first|exact X|exact X.drew))).mono ?_);rintro e w1 ⟨rfl,hx1⟩;replace X:Ac W w1:=(by first|exact X.trans hx1|exact X.drew.trans hx1))|((with_reducible refine(dv _ (CS.ext (by first|exact X|exact X.drew))).mono ?_);rintro e w1 ⟨rfl,hx1⟩;replace X:Ac W w1:=(by first|exact X.trans hx1|exact X.drew.trans hx1)))
 go_upto_region 2 with fail
 go_region_held3 (fun w'=>w'.cell? ⟨ba,0,none⟩=some (S (R s.a.x))/\w'.cell? ⟨ba,1,none⟩=some (S (R s.a.y))/\w'.cell? ⟨ba,2,none⟩=some (S (R s.b.x))/\w'.cell? ⟨ba,3,none⟩=some (S (R s.b.y)))
  (first|with_reducible exact SO _ X|with_reducible exact SO _ X.drew)
  (first|((with_reducible refine(s3 _ (CS.ext (by first|exact X|exact X.drew))).mono ?_);rintro e w1 ⟨rfl,hx1⟩;replace X:Ac W w1:=(by first|exact X.trans hx1|exact X.drew.trans hx1))|((with_reducible refine(mu _ (CS.ext (by first|exact X|exact X.drew))).mono ?_);rintro e w1 ⟨rfl,hx1⟩;replace X:Ac W w1:=(by first|exact X.trans hx1|exact X.drew.trans hx1))|((with_reducible refine(ad _ (CS.ext (by first|exact X|exact X.drew))).mono ?_);rintro e w1 ⟨rfl,hx1⟩;replace X:Ac W w1:=(by first|exact X.trans hx1|exact X.drew.trans hx1)))
 go_wp2;go_ret;exact⟨rfl,hE.trans X⟩
theorem AfX(l:List Sg):(Cb l).length=l.length*4:=by
 induction l with
 | nil=>rfl
 | cons e l ih=>unfold Cb at *;simp only [List.flatMap_cons,List.length_append,ih,List.length_cons,List.length_nil];omega
theorem yV:∀(l:List Sg) (j:Nat) (h:j<l.length),(Cb l)[j*4]?=some (S (R l[j].a.x))/\(Cb l)[j*4+1]?=some (S (R l[j].a.y))/\(Cb l)[j*4+2]?=some (S (R l[j].b.x))/\(Cb l)[j*4+3]?=some (S (R l[j].b.y))
 | e::l,0,_=>⟨rfl,rfl,rfl,rfl⟩
 | e::l,j+1,h=>by
  have ih:=yV l j (by simpa using h);have e0:Cb (e::l)=S (R e.a.x)::S (R e.a.y)::S (R e.b.x)::S (R e.b.y)::Cb l:=rfl;rw [e0];have e1:(j+1)*4=j*4+1+1+1+1:=(by omega);rw [e1]
  simpa using ih
theorem J4{w:World}{A:Option Addr}{l:List Sg}(hr:Ae w A (Cb l)){j:Nat}(h:j<l.length):∃b o,A=some ⟨b,o,none⟩/\w.cell? ⟨b,o+j*4,none⟩=some (S (R l[j].a.x))/\w.cell? ⟨b,o+j*4+1,none⟩=some (S (R l[j].a.y))/\w.cell? ⟨b,o+j*4+2,none⟩=some (S (R l[j].b.x))/\w.cell? ⟨b,o+j*4+3,none⟩=some (S (R l[j].b.y)):=by
 have hl:=AfX l;obtain⟨b,o,e,hcs⟩:=hr.ad (by omega);obtain⟨f1,f2,f3,f4⟩:=yV l j h;have g1:=hcs (j*4) (by omega);have g2:=hcs (j*4+1) (by omega);have g3:=hcs (j*4+2) (by omega);have g4:=hcs (j*4+3) (by omega);rw [Aj4 (by omega),Aj3]at f1 f2 f3 f4;rw [f1]at g1;rw [f2,←Nat.add_assoc]at g2;rw [f3,←Nat.add_assoc]at g3;rw [f4,←Nat.add_assoc]at g4;exact⟨b,o,e,g1,g2,g3,g4⟩
def EX(p:Pt)(l:List Sg):Rat:=l.foldl (fun s e=>s+Ar p e.a e.b) 0
def GE:List Sg→Rat
 | []=>0
 | e::l=>EX e.a (e::l)
theorem qh(p:Pt)(l:List Sg)(e:Sg):EX p (l ++ [e])=EX p l+Ar p e.a e.b:=by simp [EX]
theorem iN(p:Pt)(l:List Sg){j:Nat}(h:j<l.length):EX p (l.take (j+1))=EX p (l.take j)+Ar p l[j].a l[j].b:=by
 rw [Aj2 h,qh]
theorem qi(l:List Sg)(h:0<l.length):GE l=EX l[0].a l:=by
 cases l with
 | nil=>simp at h
 | cons e l=>rfl
theorem qj(l:List Sg)(A:Option Addr)(c:Nat){k K:Nat}(hl:∀e∈l,EW k e)(hk:0<k)(hk2:k<=1)(hK:0<K)(hK2:K<=9)(h0:0<l.length)
  (hS:∀j,j<=l.length→Sz K (EX l[0].a (l.take j))) (hA:∀j (h:j<l.length),Sz (K) (Ar l[0].a l[j].a l[j].b)) (hc:l.length<=c) (hcm:c<=9223372036854775807) (hK3:0<K) (w:World) (hw:Ao w) (hr:Ae w A (Cb l)) :
  Calls Tryz.prog 257 #[.slice A l.length c] w (Cc (R (GE l)) w):=by
 obtain⟨b,o,rfl,q1,q2,-,-⟩:=J4 hr h0;rw [qi l h0];obtain⟨r,hr0⟩:=Ajv (EX l[0].a l);rw [←hr0];obtain⟨p,hp⟩:=Ajv (l[0].a);have R2:Az k p:=(by rw [hp];exact(hl _ (Aj0 h0)).a);rw [←hp]at hr0 hS hA q1 q2;have HR:=Ajw hr0;clear hr0 hp;rw [Nat.zero_mul,Nat.add_zero]at q1 q2;go_enter Tryz.func257,Tryz.ntmps257
 go_upto_region 3 with fail
 go_loopw [3,8] (fun s i wr=>∃j:Nat,i=.int .i64 (j:Nat)/\s=S (R (EX p (l.take j)))/\j<=l.length/\Ac w wr) (fun _ i _=>l.length-(intOf i).toNat)
 case atStart=>exact⟨0,rfl,by rw [List.take_zero];show _=S (R 0);rw [JJ],by omega,Ac.refl _⟩
 case round=>
  obtain⟨j,rfl,rfl,hj,Ag⟩:=hrel;by_cases hlt:j<l.length
  ·obtain⟨b',o',Cw,g1,g2,g3,g4⟩:=J4 (hr.ext Ag) hlt;simp only [Aj3,Addr.mk.injEq,and_true]at Cw;obtain⟨rfl,rfl⟩:=Cw;have p1:=Ag.cellS q1;have p2:=Ag.cellS q2;have ez:=hl _ (Aj0 hlt);have ar:=xC p l[j].a l[j].b R2 ez.a ez.b hk hk2;have ad:=Vm (EX p (l.take j)) (Ar p l[j].a l[j].b) (a:=K) (b:=K) ⟨hS j hj,hA j hlt,hK,by omega,by omega⟩;rw [←iN p l hlt]at ad;obtain⟨e,he⟩:=Ajv (l[j]);rw [←he]at g1 g2 g3 g4 ar ad;have hj0:(0:Int)<=(j:Int):=(by omega);have hl0:(0:Int)<(l.length:Int):=(by omega);have AP:(j:Int)<(l.length:Int):=(by omega);clear ez he;obtain⟨s,hs⟩:=Ajv (EX p (l.take j));obtain⟨s',hs'⟩:=Ajv (EX p (l.take (j+1)));rw [←hs,←hs']at ad;rw [←hs];have kf:=Ajw hs';clear hs hs' hS hA hl q1 q2;unfold Ak at ar
   go_upto_region 5 with fail
   have hb:=Ajy wr (.cells #[S (R e.a.x),S (R e.a.y),S (R e.b.x),S (R e.b.y)] 175);have hE:=(Ac.refl wr).alloc (.cells #[S (R e.a.x),S (R e.a.y),S (R e.b.x),S (R e.b.y)] 175);unfold S at hb hE;generalize (wr.alloc (.cells #[.string ⟨(R e.a.x).toArray⟩,.string ⟨(R e.a.y).toArray⟩,.string ⟨(R e.b.x).toArray⟩,.string ⟨(R e.b.y).toArray⟩] 175))=W at *;obtain⟨be,AB⟩:=Ajv wr.heap.size;rw [←AB]at hb ⊢;clear AB
   have SO:∀w',Ac W w'→(w'.cell? ⟨b,o,none⟩=some (S (R p.x))/\w'.cell? ⟨b,o+1,none⟩=some (S (R p.y))/\w'.cell? ⟨be,0,none⟩=some (S (R e.a.x))/\w'.cell? ⟨be,1,none⟩=some (S (R e.a.y))/\w'.cell? ⟨be,2,none⟩=some (S (R e.b.x))/\w'.cell? ⟨be,3,none⟩=some (S (R e.b.y))):=fun w' h=>⟨h.cellS (hE.cellS p1),h.cellS (hE.cellS p2),h.cellS (Aa hb rfl),h.cellS (Aa hb rfl),h.cellS (Aa hb rfl),h.cellS (Aa hb rfl)⟩
   have CS:=(hw.ext Ag).ext hE;have hx0:=Ag.trans hE;have X:Ac W W:=Ac.refl W;clear hb p1 p2 g1 g2 g3 g4
   go_region_held3 (fun w'=>w'.cell? ⟨b,o,none⟩=some (S (R p.x))/\w'.cell? ⟨b,o+1,none⟩=some (S (R p.y))/\w'.cell? ⟨be,0,none⟩=some (S (R e.a.x))/\w'.cell? ⟨be,1,none⟩=some (S (R e.a.y))/\w'.cell? ⟨be,2,none⟩=some (S (R e.b.x))/\w'.cell? ⟨be,3,none⟩=some (S (R e.b.y)))
    (first|with_reducible exact SO _ X|with_reducible exact SO _ X.drew)
    (first|((with_reducible refine(ar _ (CS.ext (by first|exact X|exact X.drew))).mono ?_);rintro e w1 ⟨rfl,hx1⟩;replace X:Ac W w1:=(by first|exact X.trans hx1|exact X.drew.trans hx1))|((with_reducible refine(ad _ (CS.ext (by first|exact X|exact X.drew))).mono ?_);rintro e w1 ⟨rfl,hx1⟩;replace X:Ac W w1:=(by first|exact X.trans hx1|exact X.drew.trans hx1)))
   go_wp2;go_roundw
   case rel=>exact⟨j+1,by go_num,by rw [kf.out],hlt,hx0.trans X⟩
   case measure=>simp [intOf];omega
  ·have hjn:j=l.length:=(by omega);have e:EX p (l.take j)=r:=(by rw [HR.out,hjn,List.take_length]);rw [e];have hle:(l.length:Int)<=(j:Int):=(by omega);go_wp2;go_ret;exact⟨rfl,Ag⟩
theorem D4.look{E:List (Pt×Value×Nat)}{R0:List (Pt×List Pt)}{B:Nat}{W:World}{b2:Nat}(h:D4 B W b2 E R0)(p:Pt){e:Pt×List Pt}(hf:R0.find? (fun e=>Ay p e.1)=some e) :
  ∃A c,EJ Ay (.slice none 0 0) p E=.slice A e.2.length c/\Ae W A (flat (Ai e.2))/\e.2.length<=c/\c<=9223372036854775807:=by
 have Dy:=Xz h.len (fun i h1 h2=>(h.row i h1 h2).1) p;obtain⟨h3,j,hj',h4,h5⟩:=List.find?_eq_some_iff_getElem.1 hf
 have hfj:R0.findIdx? (fun e=>Ay p e.1)=some j:=by rw [List.findIdx?_eq_some_iff_getElem];exact⟨hj',by rw [h4];exact h3,fun i hi=>by have:=h5 i hi;simpa using this⟩
 rw [hfj,List.findIdx?_eq_some_iff_getElem]at Dy;obtain⟨hj,h1,h2⟩:=Dy
 have e1:E.find? (fun e=>Ay p e.1)=some E[j]:=by rw [List.find?_eq_some_iff_getElem];exact⟨h1,j,hj,rfl,fun i hi=>by have:=h2 i hi;simpa using this⟩
 have ho:=(h.row j hj hj').2.2;rw [h4]at ho;obtain⟨A,c,hv,hr,g1,g2⟩:=Ae.of_own' (by omega) ho;refine⟨A,c,?_,hr,g1,g2⟩;unfold EJ;rw [e1];exact hv
theorem AdN{j n:Nat}(h:j<n):∃m:Nat,m<n/\m=(j+n-1)%n/\Int.tmod ((j:Int)+n-1) n=(m:Int):=by
 refine⟨(j+n-1)%n,Nat.mod_lt _ (by omega),rfl,?_⟩;have e:(j:Int)+n-1=((j+n-1:Nat):Int):=(by omega);rw [e];exact(Int.ofNat_tmod _ _).symm
theorem AdM{B:Nat}{w:World}{r b1 b2:Nat}{L:List (Sg×Int)}{E:List (Pt×Value×Nat)}{R0:List (Pt×List Pt)}(h:Br B w r b1 b2 L E R0)(s:Sg){e:Pt×List Pt}(hf:R0.find? (fun e=>Ay s.b e.1)=some e){j m:Nat}(hj:j<e.2.length)(hi:DU e.2 s.a=(j:Int))(hm:m<e.2.length)(Ru:m=(j+e.2.length-1)%e.2.length)(hn:e.2.length<100000) :
  Calls Tryz.prog 267 #[.pointer (some ⟨r,0,none⟩),AC s] w (Bp (AC ⟨s.b,e.2[m]⟩) w):=by
 obtain⟨A,c,hv,Bi,hc1,hc2⟩:=h.ar.look s.b hf;obtain⟨m',hm',hme,htm⟩:=AdN hj;rw [←Ru]at hme;subst hme;clear hm' Ru;obtain⟨p,hp⟩:=Ajv (e.2[m']);rw [←hp];have ix:=fun W (hE:Ac w W)=>UI e.2 s.a A c W (Bi.ext hE) hc1 hc2;rw [hi]at ix;have hE:=((Ac.refl w).alloc (.cells #[S (R s.a.x),S (R s.a.y),S (R s.b.x),S (R s.b.y)] 175)).alloc (.cells #[S [],S [],S [],S []] 175);have hb1:=(Below.heap_alloc (w.alloc (.cells #[S (R s.a.x),S (R s.a.y),S (R s.b.x),S (R s.b.y)] 175)) (.cells #[S [],S [],S [],S []] 175) w.heap.size (by simp)).trans (Ajy w (.cells #[S (R s.a.x),S (R s.a.y),S (R s.b.x),S (R s.b.y)] 175));have hb2:=Ajy (w.alloc (.cells #[S (R s.a.x),S (R s.a.y),S (R s.b.x),S (R s.b.y)] 175)) (.cells #[S [],S [],S [],S []] 175);rw [Aj6]at hb2;obtain⟨b',o',hA,g1,g2⟩:=BW Bi hm;have hlt:=World.block_lt_of_cell? w _ g1;simp only at hlt;replace g1:=hE.cellS g1;replace g2:=hE.cellS g2;have hN:=h.ext hE;rw [←hp]at g1 g2;obtain⟨n,I9⟩:=Ajv e.2.length;rw [←I9]at hj htm hv hn hc1 ix hm;clear hp hf I9 Bi;unfold AC;go_enter Tryz.func267,Tryz.ntmps267
 go_upto_region 1 with fail
 rw [show (⟨#[]⟩:ByteArray)=⟨([]:Bs).toArray⟩from rfl];generalize (w.alloc (.cells #[S (R s.a.x),S (R s.a.y),S (R s.b.x),S (R s.b.y)] 175)).alloc (.cells #[S [],S [],S [],S []] 175)=V at *;obtain⟨bb,Bf⟩:=Ajv w.heap.size;have hle:w.heap.size<=bb+1:=(by omega);rw [←Bf]at hb1 hb2 hlt ⊢;have Zs:¬(b'=bb+1):=(by omega);have Ia:¬(bb+1=b'):=(by omega);clear Bf;have q2:∀q:Af V,q.w.cell? ⟨r,1,none⟩=some (.map (some b2)):=Af.cell (Aa hN.cell rfl);have q3:∀q:Af V,q.w.cell? ⟨bb,2,none⟩=some (S (R s.b.x)):=Af.cell (Aa hb1 rfl);have q4:∀q:Af V,q.w.cell? ⟨bb,3,none⟩=some (S (R s.b.y)):=Af.cell (Aa hb1 rfl)
 have q5:∀q:Af V,(Instr.lookup 163 (.map (some b2)) (Ak s.b) false).run Tryz.prog q.w=.ok (.slice A n c) q.w:=fun q=>by rw [Px OY s.b E (W:=q.w) ((q.h.block b2 hN.ar.lt).trans hN.ar.blk),hv]
 unfold Ak at q5 ix;refine CW (by kernel_rfl) (by kernel_rfl) ?_
 repeat (go_big_quiet_step (fail))
 refine wpQuiet_nil ?_;rintro _ ⟨q,rfl⟩;obtain⟨W1,hx1⟩:=q;have k1:=hx1.cellS (Aa (o:=0) hb1 rfl);have k2:=hx1.cellS (Aa (o:=1) hb1 rfl);have aE:=ix W1 (hE.trans hx1);rw [hA]at aE hv;simp only;clear ix;(go_wp2_with fail);(with_reducible refine aE.mono ?_);rintro e w2 ⟨rfl,hx2⟩;replace hx2:=hx1.trans hx2;have Bu:=(hx2.block _ (Ajx hb1)).trans hb1;have BN:=(hx2.block _ (Ajx hb2)).trans hb2;have f1:=hx2.cellS g1;have f2:=hx2.cellS g2;have e1:=Aa (o:=2) Bu rfl;have e2:=Aa (o:=3) Bu rfl;have y0:=Aj (o:=0) BN;have y1:=Aj (o:=1) BN;have y2:=Aj (o:=2) BN;have y3:=Aj (o:=3) BN;have z0:=Aa (o:=0) BN rfl;have z1:=Aa (o:=1) BN rfl;have z2:=Aa (o:=2) BN rfl;have z3:=Aa (o:=3) BN rfl;clear k1 k2 q2 q3 q4 q5 hN h g1 g2 aE;have D6:(n:Int)≠0:=(by omega);have GV:¬n=0:=(by omega);have a1:IntKind.i64.wrap ((j:Int)+n)=(j:Int)+n:=Aj5 _ (by omega);have a2:IntKind.i64.wrap ((j:Int)+n-1)=(j:Int)+n-1:=Aj5 _ (by omega);have a3:IntKind.i64.wrap (m':Int)=(m':Int):=Aj5 _ (by omega);have a4:(0:Int)<=(m':Int):=(by omega);have a5:(m':Int)<(n:Int):=by omega
 go_upto_region 3 with fail
 go_region_held3 (fun w'=>w'.cell? ⟨bb,2,none⟩=some (S (R s.b.x))/\w'.cell? ⟨bb,3,none⟩=some (S (R s.b.y))/\w'.cell? ⟨b',o'+m'*2,none⟩=some (S (R p.x))/\w'.cell? ⟨b',o'+m'*2+1,none⟩=some (S (R p.y)))
  (first|go_keep|(simp [World.cell?_setCell,Zs,Ia];go_keep)) (fail)
 have hq:=Oc (S (R s.b.x)) (S (R s.b.y)) (S (R p.x)) (S (R p.y)) BN;have q0:=(Ac.refl _).drew.cellS (Aa (o:=0) hq rfl);have q1:=(Ac.refl _).drew.cellS (Aa (o:=1) hq rfl);have q2:=(Ac.refl _).drew.cellS (Aa (o:=2) hq rfl);have q3:=(Ac.refl _).drew.cellS (Aa (o:=3) hq rfl);clear hq;go_wp2;refine bodyPost_ret (v:=.agg #[S (R s.b.x),S (R s.b.y),S (R p.x),S (R p.y)]) (by simp [results,Tryz.results267,go_sem,q0,q1,q2,q3]) rfl ?_;have Ca:=hE.trans hx2;exact⟨rfl,((((Ca.setCell (p:=⟨bb+1,0,none⟩) hle _).setCell (p:=⟨bb+1,1,none⟩) hle _).setCell (p:=⟨bb+1,2,none⟩) hle _).setCell (p:=⟨bb+1,3,none⟩) hle _).drew⟩
section
open Go.ChangeMaps (setBlock)
section
variable {α : Type} (enc : α → Value)
structure CG(W:World)(r b:Nat)(E:List (α×Value×Nat))(seen:List Nat):Prop where
 it:W.heap[r]?=some (.mapIter (some b) E.length seen.toArray E.length)
 nd:seen.Nodup
 lt:∀i∈seen,i<E.length
theorem CG.range{W:World}{b:Nat}{E:List (α×Value×Nat)}{t k e:TypeId}(ht:Tryz.prog.underlying t=some (.map k e))(hb:W.heap[b]?=some (.map (AH enc E).toArray E.length)) :
  (Instr.range t (.map (some b))).run Tryz.prog W=.ok (.pointer (some ⟨W.heap.size,0,none⟩)) (W.alloc (.mapIter (some b) E.length #[] E.length))/\CG (W.alloc (.mapIter (some b) E.length #[] E.length)) W.heap.size b E []:=
 ⟨run_range_map W t k e b _ _ ht hb,Ajy _ _,List.nodup_nil,by simp⟩
theorem CG.keep{W W':World}{r b:Nat}{E:List (α×Value×Nat)}{seen:List Nat}(h:CG W r b E seen)(hk:W'.heap[r]?=W.heap[r]?):CG W' r b E seen:=⟨hk.trans h.it,h.nd,h.lt⟩
theorem yx{E:List (α×Value×Nat)}(hst:∀i (h:i<E.length),E[i].2.2=i):(AH enc E).map (·.born)=List.range E.length:=by
 apply List.ext_getElem
 ·simp [AH]
 ·intro i h1 h2;simp [AH]at h1 ⊢;exact hst i h1
theorem CG.next{W:World}{r b:Nat}{E:List (α×Value×Nat)}{seen:List Nat}(h:CG W r b E seen)(hb:W.heap[b]?=some (.map (AH enc E).toArray E.length))(hst:∀i (h:i<E.length),E[i].2.2=i)(hne:r≠b)(ty:TypeId) :
  (seen.length=E.length/\(Instr.next (.pointer (some ⟨r,0,none⟩)) false ty).run Tryz.prog W=.ok (.tuple #[.bool false]) W)∨
  ∃i,∃hi:i<E.length,i∉seen/\∃W',CG W' r b E (seen ++ [i])/\W.grownBy W' (some r)/\W'.heap.size=W.heap.size/\
   (Instr.next (.pointer (some ⟨r,0,none⟩)) false ty).run Tryz.prog W=.ok (.tuple #[.bool true,enc E[i].1,E[i].2.1]) W'/\
   (∀V,V.heap[r]?=W'.heap[r]?→V.heap[b]?=W'.heap[b]?→(Instr.entry (.pointer (some ⟨r,0,none⟩))).run Tryz.prog V=.ok (.tuple #[enc E[i].1,E[i].2.1]) V):=by
 have Dd:=yx enc hst
 have hold:∀x∈(AH enc E).toArray.toList,x.born<E.length:=by
  intro x hx;have:x.born∈(AH enc E).map (·.born):=List.mem_map_of_mem hx;rw [Dd]at this
  simpa using this
 have Ci:((AH enc E).toArray.toList.map (·.born)).Nodup:=by show ((AH enc E).map (·.born)).Nodup;rw [Dd];exact List.nodup_range
 rcases run_next_at (P:=Tryz.prog) W ty r b E.length E.length seen.toArray (AH enc E).toArray E.length h.it hb hold (Ajz _)with⟨h0,hrun⟩|⟨x,hx,w1,hw1,hrun⟩
 ·left
  refine⟨?_,hrun⟩;have hall:=all_seen _ _ h0
  have AbW:List.range E.length ⊆ seen:=by
   intro i hi;rw [←Dd]at hi;obtain⟨x,hx,rfl⟩:=List.mem_map.1 hi;have:=hall x hx
   simpa using this
  have h1:E.length<=seen.length:=by
   have:=(List.nodup_range (n:=E.length)).length_le_of_subset AbW
   simpa using this
  have h2:seen.length<=E.length:=by
   have hs:seen ⊆ List.range E.length:=fun i hi=>(by simpa using h.lt i hi);have:=h.nd.length_le_of_subset hs
   simpa using this
  omega
 ·right
  obtain⟨tV,tW⟩:=mem_left hx;obtain⟨i,hi,ZS⟩:=List.getElem_of_mem tV;have hi':i<E.length:=(by simpa [AH]using hi);have Gy:x=⟨enc E[i].1,E[i].2.1,E[i].2.2⟩:=(by rw [←ZS];simp [AH]);have hb0:x.born=i:=(by rw [Gy];exact hst i hi');have hkey:x.key=enc E[i].1:=(by rw [Gy]);have hval:x.val=E[i].2.1:=(by rw [Gy]);have Gu:i∉seen:=by rw [hb0]at tW;simpa using tW
  have hr1:w1.heap[r]?=W.heap[r]?:=by rcases hw1 with rfl|rfl<;>rfl
  have hb1:w1.heap[b]?=W.heap[b]?:=by rcases hw1 with rfl|rfl<;>rfl
  have hG:W.grownBy (setBlock w1 r (.mapIter (some b) E.length (seen.toArray.push x.born) E.length)) (some r):=by
   rcases hw1 with rfl|rfl
   ·exact Kc h.it
   ·exact⟨rfl,rfl,rfl,by simp [setBlock],fun k _ hk=>Sr (fun e=>hk (by rw [e]))⟩
  have hit:=KY (o:=.mapIter (some b) E.length (seen.toArray.push x.born) E.length) (hr1.trans h.it);refine⟨i,hi',Gu,_,⟨?_,?_,?_⟩,hG,?_,?_,?_⟩
  ·rw [hit,hb0];simp
  ·rw [List.nodup_append];refine⟨h.nd,by simp,?_⟩;intro a ha c hc;simp only [AjB]at hc;subst hc;intro e;rw [e]at ha;exact Gu ha
  ·intro k hk
   rcases List.mem_append.1 hk with hk|hk
   ·exact h.lt k hk
   ·simp only [AjB]at hk;omega
  ·rcases hw1 with rfl|rfl<;>simp [setBlock]
  ·rw [hrun,hkey,hval]
  ·intro V hVr hVb;rw [←hkey,←hval];exact run_entry_at V r b E.length seen.toArray (AH enc E).toArray E.length x (hVr.trans hit) (hVb.trans ((Sr (Ne.symm hne)).trans (hb1.trans hb))) tV Ci
end
end
theorem Lu.mul_eq{q:Rat}(h:Lu q):∃a:Int,a.natAbs<=9/\(a:Rat)=2*q:=by
 obtain⟨a,h1,rfl⟩:=h;exact⟨a,h1,by grind⟩
theorem AgK{q:Rat}{n d:Int}(hd:d≠0)(h:q*(d:Rat)=(n:Rat))(hn:n.natAbs<1000)(Gp:d.natAbs<1000):Sz 3 q:=by
 have hd0:(d:Rat)≠0:=(by intro e;exact hd (Rat.intCast_inj.1 (by rw [e];rfl)));have e:q=(n:Rat)/(d:Rat):=(by rw [←h];exact(Rat.mul_div_cancel hd0).symm);by_cases hp:0<d
 ·have:q=mkRat n d.toNat:=by rw [e,Rat.mkRat_eq_div,show ((d.toNat:Nat):Rat)=((d.toNat:Int):Rat)from rfl,Int.toNat_of_nonneg (by omega)]
  rw [this];exact Sz.mkRat (by omega) (by omega) (by omega)
 ·have:q=mkRat (-n) (-d).toNat:=by
   rw [e,Rat.mkRat_eq_div,show (((-d).toNat:Nat):Rat)=(((-d).toNat:Int):Rat)from rfl,Int.toNat_of_nonneg (by omega),Rat.intCast_neg,Rat.intCast_neg]
   grind
  rw [this];exact Sz.mkRat (by omega) (by omega) (by omega)
theorem ah{s:Sg}{x:Rat}(hs:F7 s)(hx:Lu x):Sz 3 (B9 s x):=by
 obtain⟨ax,h1,e1⟩:=hs.a.x.mul_eq;obtain⟨ay,h2,e2⟩:=hs.a.y.mul_eq;obtain⟨bx,h3,e3⟩:=hs.b.x.mul_eq;obtain⟨b,h4,e4⟩:=hs.b.y.mul_eq;obtain⟨u,h5,e5⟩:=hx.mul_eq;by_cases h0:s.b.x=s.a.x
 ·have:B9 s x=s.a.y:=(by unfold B9;rw [h0,Rat.sub_self,Rat.div_def,Rat.inv_zero,Rat.mul_zero,Rat.zero_mul,Rat.add_zero]);rw [this];exact(hs.a.y.sz (K:=3) (by omega))
 ·have hd:bx-ax≠0:=by intro e;have:bx=ax:=(by omega);rw [this]at e3;exact h0 (by grind)
  have D6:s.b.x-s.a.x≠0:=(by grind);refine AgK (n:=ay*(bx-ax)+(u-ax)*(b-ay)) (d:=2*(bx-ax)) (by omega) ?_ ?_ (by omega)
  ·unfold B9;simp only [Rat.intCast_add,Rat.intCast_mul,Rat.intCast_sub,e1,e2,e3,e4,e5]
   have:(x-s.a.x)/(s.b.x-s.a.x)*(s.b.y-s.a.y)*(s.b.x-s.a.x)=(x-s.a.x)*(s.b.y-s.a.y):=by
    rw [Rat.div_def];have:=Rat.inv_mul_cancel _ D6
    grind
   grind
  ·have g1:=US (x:=ay) (y:=bx-ax) (m:=9) (n:=18) (by omega) (by omega);have g2:=US (x:=u-ax) (y:=b-ay) (m:=18) (n:=18) (by omega) (by omega);omega
def Hn(p:Pt)(st:Option (Sg×Rat))(s:Sg):Option (Sg×Rat):=
 if 0<=AY s.a.x p.x then st else if AY s.b.x p.x<0 then st else if 0<=AY (B9 s p.x) p.y then st else
 match st with
 | none=>some (s,B9 s p.x)
 | some (b,h)=>
  if AY (B9 s p.x) h=0 then (if 0<AM (Ar s.b s.a b.a)then some (s,B9 s p.x)else st)
  else if 0<AY (B9 s p.x) h then some (s,B9 s p.x)else st
def Zd:Option (Sg×Rat)→Value
 | none=>S []
 | some (_,h)=>S (R h)
def Tv:Option (Sg×Rat)→Array Value
 | none=>#[S [],S [],S [],S []]
 | some (s,_)=>#[S (R s.a.x),S (R s.a.y),S (R s.b.x),S (R s.b.y)]
def Qh(st:Option (Sg×Rat)):Value:=.agg (Tv st)
def C5(p:Pt)(l:List Sg):Option (Sg×Rat):=l.foldl (Hn p) none
theorem iR(p:Pt)(l:List Sg)(s:Sg):C5 p (l ++ [s])=Hn p (C5 p l) s:=by simp [C5]
theorem Eu{α:Type}{W:World}{r b:Nat}{E:List (α×Value×Nat)}{seen:List Nat}(h:CG W r b E seen):(W.iterSeen r).size=seen.length:=by
 unfold World.iterSeen;rw [h.it];simp
structure PC(w wr:World)(b1 bb r:Nat)(L:List (Sg×Int))(p:Pt)(seen:List Nat)(st:Option (Sg×Rat)):Prop where
 ext:Ac w wr
 box:wr.heap[bb]?=some (.cells #[S (R p.x),S (R p.y)] 27)
 best:wr.heap[bb+1]?=some (.cells (Tv st) 175)
 iter:CG wr r b1 (stamp L) seen
def Tt(p:Pt)(st:Option (Sg×Rat))(s:Sg):Option (Sg×Rat):=
 match st with
 | none=>some (s,B9 s p.x)
 | some (b,h)=>if AY (B9 s p.x) h=0 then (if 0 < AM (Ar s.b s.a b.a)then some (s,B9 s p.x)else some (b,h))else if 0 < AY (B9 s p.x) h then some (s,B9 s p.x)else some (b,h)
theorem rb(p:Pt)(st:Option (Sg×Rat))(s:Sg):Hn p st s=if 0<=AY s.a.x p.x then st else if AY s.b.x p.x<0 then st else if 0<=AY (B9 s p.x) p.y then st else Tt p st s:=by
 cases st<;>rfl
theorem WW(st:Option (Sg×Rat)):∃c0 c1 c2 c3:Bs,Tv st=#[S c0,S c1,S c2,S c3]:=by
 cases st with
 | none=>exact⟨_,_,_,_,rfl⟩
 | some x=>exact⟨_,_,_,_,rfl⟩
theorem dJ(L:List (Sg×Int)):∀i (h:i<(stamp L).length),(stamp L)[i].2.2=i:=by
 intro i h;simp [stamp]
theorem Vz(L:List (Sg×Int)){i:Nat}(h:i<(stamp L).length):(stamp L)[i].1=(L[i]'(by rw [D1]at h;exact h)).1:=by simp [stamp]
theorem dL(L:List (Sg×Int)){i:Nat}(h:i<(stamp L).length):(stamp L)[i].2.1=.int .i64 (L[i]'(by rw [D1]at h;exact h)).2:=by simp [stamp]
theorem yE{β:Type}(L:List β):(List.range L.length).filterMap (fun i=>L[i]?)=L:=by
 have h:∀n,n<=L.length→(List.range n).filterMap (fun i=>L[i]?)=L.take n:=by
  intro n
  induction n with
  | zero=>intro _;simp
  | succ n ih=>intro hn;rw [List.range_succ,List.filterMap_append,ih (by omega),Aj2 (by omega)];simp [Aj4 (show n<L.length by omega)]
 rw [h _ (Ajz _),List.take_length]
theorem yX(L:List (Sg×Int)){seen:List Nat}(Ci:seen.Nodup)(hlt:∀i∈seen,i<(stamp L).length)(hlen:seen.length=(stamp L).length):(seen.filterMap (fun i=>L[i]?.map (·.1))).Perm (L.map (·.1)):=by
 rw [D1]at hlt hlen
 have hmem:∀i,i<L.length→i∈seen:=by
  intro i hi;refine Classical.byContradiction fun hn=>?_;have h1:(i::seen).Nodup:=List.nodup_cons.2 ⟨hn,Ci⟩
  have h2:(i::seen) ⊆ List.range L.length:=by
   intro j hj
   rcases List.mem_cons.1 hj with rfl|hj
   ·simpa using hi
   ·simpa using hlt j hj
  have:=h1.length_le_of_subset h2;simp at this;omega
 have hp:seen.Perm (List.range L.length):=by
  rw [List.perm_iff_count];intro i;rw [Ci.count,(List.nodup_range).count];by_cases hi:i<L.length
  ·rw [if_pos (hmem i hi),if_pos (by simpa using hi)]
  ·rw [if_neg (fun h=>hi (hlt i h)),if_neg (by simpa using hi)]
 refine(hp.filterMap _).trans ?_
 have e:(List.range L.length).filterMap (fun i=>L[i]?.map (·.1))=L.map (·.1):=by
  have e1:(List.range L.length).filterMap (fun i=>L[i]?.map (·.1))=((List.range L.length).filterMap (fun i=>L[i]?)).map (·.1):=(by rw [List.map_filterMap]);rw [e1]
  congr 1
  exact yE L
 rw [e]
theorem PC.put{w w':World}{b1 bb:Nat}{L:List (Sg×Int)}{p:Pt}{seen:List Nat}{st:Option (Sg×Rat)}(hB:PC w w' b1 bb (bb+2) L p seen st)(hle:w.heap.size<=bb)(s:Sg)(y:Rat) :
  PC w ((((w'.setCell ⟨bb+1,0,none⟩ (S (R s.a.x))).setCell ⟨bb+1,1,none⟩ (S (R s.a.y))).setCell ⟨bb+1,2,none⟩ (S (R s.b.x))).setCell ⟨bb+1,3,none⟩ (S (R s.b.y))) b1 bb (bb+2) L p seen (some (s,y)):=by
 obtain⟨c0,c1,c2,c3,hc⟩:=WW st;have hb:=hB.best;rw [hc]at hb
 have far:∀(X:World) (o:Nat) (v:Value) (q:Nat),q≠bb+1→(X.setCell ⟨bb+1,o,none⟩ v).heap[q]?=X.heap[q]?:=by intro X o v q hq;simp only [World.setCell,Array.getElem?_modify];rw [if_neg (by omega)]
 refine⟨(((hB.ext.setCell (p:=⟨bb+1,0,none⟩) (by simp;omega) _).setCell (p:=⟨bb+1,1,none⟩) (by simp;omega) _).setCell (p:=⟨bb+1,2,none⟩) (by simp;omega) _).setCell (p:=⟨bb+1,3,none⟩) (by simp;omega) _,?_,Oc _ _ _ _ hb,hB.iter.keep ?_⟩
 ·rw [far _ _ _ _ (by omega),far _ _ _ _ (by omega),far _ _ _ _ (by omega),far _ _ _ _ (by omega)];exact hB.box
 ·rw [far _ _ _ _ (by omega),far _ _ _ _ (by omega),far _ _ _ _ (by omega),far _ _ _ _ (by omega)]
theorem iS{B:Nat}{w:World}{rn b1 b2:Nat}{L:List (Sg×Int)}{E:List (Pt×Value×Nat)}{R0:List (Pt×List Pt)}(h:Br B w rn b1 b2 L E R0)(p:Pt)(hL:∀e∈L,F7 e.1)(Et:Cz p)(hw:Ao w) :
  Calls Tryz.prog 179 #[.pointer (some ⟨rn,0,none⟩),Ak p] w fun e w'=>∃l:List Sg,l.Perm (L.map (·.1))/\e=.returned (.tuple #[Qh (C5 p l),.bool (C5 p l).isSome])/\Ac w w':=by
 have hE:=((Ac.refl w).alloc (.cells #[S (R p.x),S (R p.y)] 27)).alloc (.cells #[S [],S [],S [],S []] 175);have hb1:=(Below.heap_alloc (w.alloc (.cells #[S (R p.x),S (R p.y)] 27)) (.cells #[S [],S [],S [],S []] 175) w.heap.size (by simp)).trans (Ajy w (.cells #[S (R p.x),S (R p.y)] 27));have hb2:=Ajy (w.alloc (.cells #[S (R p.x),S (R p.y)] 27)) (.cells #[S [],S [],S [],S []] 175);rw [Aj6]at hb2;have hN:=h.ext hE;have hp:Az 1 p:=Et.sz (by omega);obtain⟨k,Dn⟩:=Ajv (1);rw [←Dn]at hp;have hk:0<k:=(by omega);have CB:k<=1:=(by omega);have HK:=Ajw Dn;clear Dn;unfold Ak;go_enter Tryz.func179,Tryz.ntmps179
 go_upto_region 2 with fail
 rw [show (⟨#[]⟩:ByteArray)=⟨([]:Bs).toArray⟩from rfl];have hsz:((w.alloc (.cells #[S (R p.x),S (R p.y)] 27)).alloc (.cells #[S [],S [],S [],S []] 175)).heap.size=w.heap.size+2:=(by simp);generalize (w.alloc (.cells #[S (R p.x),S (R p.y)] 27)).alloc (.cells #[S [],S [],S [],S []] 175)=V at *;obtain⟨bb,Bf⟩:=Ajv w.heap.size;have hle:w.heap.size<=bb:=(by omega);have Uy:bb<=w.heap.size:=(by omega);rw [←Bf]at hb1 hb2 hsz ⊢;clear Bf;have n1:=Aa (o:=0) hN.cell rfl;have hrg:=CG.range (enc:=AC) (E:=stamp L) (t:=162) Tryz.underlying162 (W:=V) (b:=b1) (by rw [D1];exact hN.left);obtain⟨hr1,hr2⟩:=hrg;rw [hsz]at hr1 hr2;have hEI:=hE.alloc (.mapIter (some b1) (stamp L).length #[] (stamp L).length);have AaM:=(Below.heap_alloc V (.mapIter (some b1) (stamp L).length #[] (stamp L).length) bb (by omega)).trans hb1;have Y9:=(Below.heap_alloc V (.mapIter (some b1) (stamp L).length #[] (stamp L).length) (bb+1) (by omega)).trans hb2;clear hb1 hb2
 go_upto_region 3 with fail
 generalize V.alloc (.mapIter (some b1) (stamp L).length #[] (stamp L).length)=V2 at *
 go_loopw [5,6] (fun f hi wr=>∃(seen:List Nat) (st:Option (Sg×Rat)),f=.bool st.isSome/\hi=Zd st/\PC w wr b1 bb (bb+2) L p seen st/\st=C5 p (seen.filterMap (fun i=>L[i]?.map (·.1)))/\(∀x,st=some x→F7 x.1/\x.2=B9 x.1 p.x)) (fun _ _ wr=>L.length-(wr.iterSeen (bb+2)).size)
 case atStart=>exact⟨[],none,rfl,rfl,⟨hEI,AaM,Y9,hr2⟩,rfl,by simp⟩
 case round=>
  obtain⟨seen,st,rfl,rfl,hB,hst,IE⟩:=hrel;have hb0:=(hB.ext.block b1 (Ajx h.left)).trans h.left;rw [←D1]at hb0;have I8:=Ajx h.left;obtain⟨c0,c1,c2,c3,hc⟩:=WW st;have Hz:=hB.best;rw [hc]at Hz
  rcases CG.next AC hB.iter hb0 (dJ L) (by omega) 0 with⟨hlen,hrun⟩|⟨i,hi,Gu,W1,Eo,hG1,hs1,hrun,hen⟩
  ·have y0:=Aj (o:=0) Hz;have y1:=Aj (o:=1) Hz;have y2:=Aj (o:=2) Hz;have y3:=Aj (o:=3) Hz;have z0:=Aa (o:=0) Hz rfl;have z1:=Aa (o:=1) Hz rfl;have z2:=Aa (o:=2) Hz rfl;have z3:=Aa (o:=3) Hz rfl;have hq:=Oc (S c0) (S c1) (S c2) (S c3) Hz;have q0:=Aa (o:=0) hq rfl;have q1:=Aa (o:=1) hq rfl;have q2:=Aa (o:=2) hq rfl;have q3:=Aa (o:=3) hq rfl;have hP:=yX L hB.iter.nd hB.iter.lt hlen;have hX:=hB.ext;rw [hst]at hc;have hV:Qh (C5 p (seen.filterMap (fun i=>L[i]?.map (·.1))))=.agg #[S c0,S c1,S c2,S c3]:=(by unfold Qh;rw [hc]);obtain⟨fb,hfb⟩:=Ajv st.isSome;have YR:=hfb;rw [hst]at YR;rw [←hfb];clear hq Hz hB hc hfb IE hst;go_wp2;refine bodyPost_ret (v:=.tuple #[.agg #[S c0,S c1,S c2,S c3],.bool fb]) (by simp [results,Tryz.results179,go_sem,q0,q1,q2,q3,YR])  rfl ?_;exact⟨_,hP,by rw [hV,YR],(((hX.setCell (p:=⟨bb+1,0,none⟩) (by simp;omega) _).setCell (p:=⟨bb+1,1,none⟩) (by simp;omega) _).setCell (p:=⟨bb+1,2,none⟩) (by simp;omega) _).setCell (p:=⟨bb+1,3,none⟩) (by simp;omega) _⟩
  ·have Ks:i<L.length:=(by rw [D1]at hi;exact hi);rw [Vz,dL]at hrun hen;have DN:F7 (L[i]).1:=hL _ (Aj0 Ks)
   have hstep:C5 p ((seen ++ [i]).filterMap (fun i=>L[i]?.map (·.1)))=Hn p st (L[i]).1:=by rw [List.filterMap_append,hst];simp only [List.filterMap_cons,List.filterMap_nil,Aj4 Ks,Option.map_some];rw [iR]
   have hlen':seen.length<L.length:=by
    have h2:(i::seen) ⊆ List.range L.length:=by
     intro j hj
     rcases List.mem_cons.1 hj with rfl|hj
     ·simpa using Ks
     ·have:=hB.iter.lt j hj;rw [D1]at this;simpa using this
    have:=(List.nodup_cons.2 ⟨Gu,hB.iter.nd⟩).length_le_of_subset h2;simp at this;omega
   have EG:=Eu hB.iter;have X1:Ac w W1:=Qu hB.ext hG1 (by omega);have jC:=(hG1.block bb (Ajx hB.box) (by simp)).trans hB.box;have iU:=(hG1.block (bb+1) (Ajx hB.best) (by simp)).trans hB.best;have Gq:=hen W1 rfl rfl;obtain⟨s,hs⟩:=Ajv ((L[i]).1);obtain⟨z,hz⟩:=Ajv ((L[i]).2);rw [←hs,←hz]at Gq hrun;rw [←hs]at DN hstep;have hsk:EW k s:=DN.sz hk;have Er:=Ajy W1 (.cells #[S (R s.a.x),S (R s.a.y),S (R s.b.x),S (R s.b.y)] 175);have E3:=(Ac.refl W1).alloc (.cells #[S (R s.a.x),S (R s.a.y),S (R s.b.x),S (R s.b.y)] 175)
   have KEEP:∀w',Ac (W1.alloc (.cells #[S (R s.a.x),S (R s.a.y),S (R s.b.x),S (R s.b.y)] 175)) w'→PC w w' b1 bb (bb+2) L p (seen ++ [i]) st:=fun w' hx=>
    have hy:=E3.trans hx
    ⟨X1.trans hy,(hy.block _ (Ajx jC)).trans jC,(hy.block _ (Ajx iU)).trans iU,Eo.keep (hy.block _ (Ajx Eo.it))⟩
   clear hen hs hz Hz hb0 hG1 hr1 hr2 hB hN;unfold AC at Gq hrun
   go_upto_region 5 with fail
   unfold S at Er E3 KEEP;rw [hs1]at Er;generalize (W1.alloc (.cells #[.string ⟨(R s.a.x).toArray⟩,.string ⟨(R s.a.y).toArray⟩,.string ⟨(R s.b.x).toArray⟩,.string ⟨(R s.b.y).toArray⟩] 175))=V3 at *;obtain⟨bs,B8⟩:=Ajv wr.heap.size;rw [←B8]at Er ⊢;clear hrun Gq B8 hs1 hst;have okV:=hw.ext (X1.trans E3);have B0:=(KEEP V3 (Ac.refl _)).box
   have F:∀w',Ac V3 w'→(w'.cell? ⟨bb,0,none⟩=some (S (R p.x))/\w'.cell? ⟨bb,1,none⟩=some (S (R p.y))/\w'.cell? ⟨bs,0,none⟩=some (S (R s.a.x))/\w'.cell? ⟨bs,1,none⟩=some (S (R s.a.y))/\w'.cell? ⟨bs,2,none⟩=some (S (R s.b.x))/\w'.cell? ⟨bs,3,none⟩=some (S (R s.b.y))):=fun w' h=>⟨h.cellS (Aa B0 rfl),h.cellS (Aa B0 rfl),h.cellS (Aa Er rfl),h.cellS (Aa Er rfl),h.cellS (Aa Er rfl),h.cellS (Aa Er rfl)⟩
   clear B0 Er;have cA:=J2 s.a.x p.x (a:=k) (b:=k) ⟨hsk.a.x,hp.x,hk,hk,by omega⟩;have cB:=J2 s.b.x p.x (a:=k) (b:=k) ⟨hsk.b.x,hp.x,hk,hk,by omega⟩
   have Cu:Hn p st s=if 0<=AY s.a.x p.x then st else if AY s.b.x p.x<0 then st else if 0<=AY (B9 s p.x) p.y then st else Tt p st s:=rb p st s
   obtain⟨xa,Gx⟩:=Ajv (AY s.a.x p.x);obtain⟨xb,hxb⟩:=Ajv (AY s.b.x p.x);rw [←Gx]at cA Cu;rw [←hxb]at cB Cu;obtain⟨f1,f2,f3,f4,f5,f6⟩:=F V3 (Ac.refl _);(go_wp2_with fail);(with_reducible refine(cA _ okV).mono ?_);rintro e w1 ⟨rfl,hx1⟩;clear f1 f2 f3 f4 f5 f6 cA;obtain⟨f1,f2,f3,f4,f5,f6⟩:=F w1 hx1;by_cases a1:0<=xa
   ·have d1:decide (0<=xa)=true:=decide_eq_true a1;have hb1:Hn p st s=st:=(by rw [Cu,if_pos a1]);clear Cu cB F;go_wp2;go_roundw
    case rel=>exact⟨seen ++ [i],st,rfl,rfl,KEEP _ hx1,by rw [hstep];exact(hb1).symm,IE⟩
    case measure=>rw [EG,Eu (KEEP _ hx1).iter,List.length_append,List.length_singleton];omega
   have d1:decide (0<=xa)=false:=decide_eq_false a1;rw [if_neg a1]at Cu;(go_wp2_with fail);(with_reducible refine(cB _ (okV.ext hx1)).mono ?_);rintro e w2 ⟨rfl,hx2⟩;replace hx2:=hx1.trans hx2;clear f1 f2 f3 f4 f5 f6 cB hx1;obtain⟨f1,f2,f3,f4,f5,f6⟩:=F w2 hx2;by_cases a2:xb<0
   ·have d2:decide (xb<0)=true:=decide_eq_true a2;have hb1:Hn p st s=st:=(by rw [Cu,if_pos a2]);clear Cu F;go_wp2;go_roundw
    case rel=>exact⟨seen ++ [i],st,rfl,rfl,KEEP _ hx2,by rw [hstep];exact(hb1).symm,IE⟩
    case measure=>rw [EG,Eu (KEEP _ hx2).iter,List.length_append,List.length_singleton];omega
   have d2:decide (xb<0)=false:=decide_eq_false a2;rw [if_neg a2]at Cu
   have h0:s.b.x≠s.a.x:=by have q1:=Tw s.a.x p.x;have q2:=Tw s.b.x p.x;rw [←Gx]at q1;rw [←hxb]at q2;have q3:s.a.x<p.x:=q1.1 (by omega);have q4:¬s.b.x<p.x:=fun h=>a2 (q2.2 h);intro e;rw [e]at q4;exact q4 q3
   have ch:=Abb s p.x hsk hp.x hk (by omega) h0;unfold AC at ch;have ZW:=ah DN Et.x;obtain⟨y,hy⟩:=Ajv (B9 s p.x);rw [←hy]at ch ZW Cu;have cC:=J2 y p.y (a:=3) (b:=k) ⟨ZW,hp.y,by omega,hk,by omega⟩;obtain⟨xc,N4⟩:=Ajv (AY y p.y);rw [←N4]at cC Cu;have HY:=Ajw hy;clear Gx hxb N4 h0 hy;(go_wp2_with fail);(with_reducible refine(ch _ (okV.ext hx2)).mono ?_);rintro e w3 ⟨rfl,hx3⟩;replace hx3:=hx2.trans hx3;clear f1 f2 f3 f4 f5 f6 ch hx2;obtain⟨f1,f2,f3,f4,f5,f6⟩:=F w3 hx3;(go_wp2_with fail);(with_reducible refine(cC _ (okV.ext hx3)).mono ?_);rintro e w4 ⟨rfl,Aq⟩;replace Aq:=hx3.trans Aq;clear f1 f2 f3 f4 f5 f6 cC hx3;obtain⟨f1,f2,f3,f4,f5,f6⟩:=F w4 Aq;by_cases a3:0<=xc
   ·have d3:decide (0<=xc)=true:=decide_eq_true a3;have hb1:Hn p st s=st:=(by rw [Cu,if_pos a3]);clear Cu F;go_wp2;go_roundw
    case rel=>exact⟨seen ++ [i],st,rfl,rfl,KEEP _ Aq,by rw [hstep];exact hb1.symm,IE⟩
    case measure=>rw [EG,Eu (KEEP _ Aq).iter,List.length_append,List.length_singleton];omega
   have d3:decide (0<=xc)=false:=decide_eq_false a3;rw [if_neg a3]at Cu;have K4:=KEEP w4 Aq
   cases st with
   | none=>
    have K2:Tt p none s=some (s,y):=(by rw [HY.out];rfl);rw [K2]at Cu;have y0:=Aj (o:=0) K4.best;have y1:=Aj (o:=1) K4.best;have y2:=Aj (o:=2) K4.best;have y3:=Aj (o:=3) K4.best;have z0:=Aa (o:=0) K4.best rfl;have z1:=Aa (o:=1) K4.best rfl;have z2:=Aa (o:=2) K4.best rfl;have z3:=Aa (o:=3) K4.best rfl;have K5:=K4.put hle s y;unfold Zd;clear K4 F KEEP K2;go_wp2;go_roundw
    case rel=>exact⟨seen ++ [i],some (s,y),rfl,rfl,K5,by rw [hstep];exact Cu.symm,by rintro x hx;simp only [Aj3]at hx;rw [←hx];exact⟨DN,HY.out⟩⟩
    case measure=>rw [EG,Eu K5.iter,List.length_append,List.length_singleton];omega
   | some bh=>
    obtain⟨b,hh⟩:=bh;obtain⟨YH,Zc⟩:=IE _ rfl;simp only at YH Zc;have rB:Sz (3) hh:=(by rw [Zc];exact ah YH Et.x);have cD:=J2 y hh (a:=3) (b:=3) ⟨ZW,rB,by omega,by omega,by omega⟩
    have K2:Tt p (some (b,hh)) s=if AY y hh=0 then (if 0<AM (Ar s.b s.a b.a)then some (s,y)else some (b,hh))else if 0<AY y hh then some (s,y)else some (b,hh):=by rw [HY.out];rfl
    rw [K2]at Cu;obtain⟨xd,UF⟩:=Ajv (AY y hh);rw [←UF]at cD Cu;clear UF K2 Zc rB hc;clear K4;unfold Zd;(go_wp2_with fail);(with_reducible refine(cD _ (okV.ext Aq)).mono ?_);rintro e w5 ⟨rfl,AE⟩;replace AE:=Aq.trans AE;clear f1 f2 f3 f4 f5 f6 cD Aq;obtain⟨f1,f2,f3,f4,f5,f6⟩:=F w5 AE;have K5:=KEEP w5 AE;by_cases a4:xd=0
    ·subst a4;rw [if_pos rfl]at Cu;have cE:=KT s.b s.a b.a hsk.b hsk.a (YH.sz hk).a hk (by omega);unfold Ak at cE;obtain⟨xe,Gy⟩:=Ajv (AM (Ar s.b s.a b.a));rw [←Gy]at cE Cu;clear Gy;have z0:w5.cell? ⟨bb+1,0,none⟩=some (S (R b.a.x)):=Aa (o:=0) K5.best rfl;have z1:w5.cell? ⟨bb+1,1,none⟩=some (S (R b.a.y)):=Aa (o:=1) K5.best rfl;clear K5;(go_wp2_with fail);(with_reducible refine(cE _ (okV.ext AE)).mono ?_);rintro e w6 ⟨rfl,AU⟩;replace AU:=AE.trans AU;clear f1 f2 f3 f4 f5 f6 cE AE z0 z1;obtain⟨f1,f2,f3,f4,f5,f6⟩:=F w6 AU;have K6:=KEEP w6 AU;by_cases a5:0<xe
     ·have d5:decide (0<xe)=true:=decide_eq_true a5;rw [if_pos a5]at Cu;have y0:=Aj (o:=0) K6.best;have y1:=Aj (o:=1) K6.best;have y2:=Aj (o:=2) K6.best;have y3:=Aj (o:=3) K6.best;have z0:=Aa (o:=0) K6.best rfl;have z1:=Aa (o:=1) K6.best rfl;have z2:=Aa (o:=2) K6.best rfl;have z3:=Aa (o:=3) K6.best rfl;have K9:=K6.put hle s y;clear K6 F KEEP;go_wp2;go_roundw
      case rel=>exact⟨seen ++ [i],some (s,y),rfl,rfl,K9,by rw [hstep];exact Cu.symm,by rintro x hx;simp only [Aj3]at hx;rw [←hx];exact⟨DN,HY.out⟩⟩
      case measure=>rw [EG,Eu K9.iter,List.length_append,List.length_singleton];omega
     ·have d5:decide (0<xe)=false:=decide_eq_false a5;rw [if_neg a5]at Cu;go_wp2;go_roundw
      case rel=>exact⟨seen ++ [i],some (b,hh),rfl,rfl,K6,by rw [hstep];exact Cu.symm,IE⟩
      case measure=>rw [EG,Eu K6.iter,List.length_append,List.length_singleton];omega
    ·have d4:decide (xd=0)=false:=decide_eq_false a4;have d4':(xd == 0)=false:=(by simpa using a4);rw [if_neg a4]at Cu;by_cases a5:0<xd
     ·have d5:decide (0<xd)=true:=decide_eq_true a5;rw [if_pos a5]at Cu;have y0:=Aj (o:=0) K5.best;have y1:=Aj (o:=1) K5.best;have y2:=Aj (o:=2) K5.best;have y3:=Aj (o:=3) K5.best;have z0:=Aa (o:=0) K5.best rfl;have z1:=Aa (o:=1) K5.best rfl;have z2:=Aa (o:=2) K5.best rfl;have z3:=Aa (o:=3) K5.best rfl;have K9:=K5.put hle s y;clear K5 F KEEP;go_wp2;go_roundw
      case rel=>exact⟨seen ++ [i],some (s,y),rfl,rfl,K9,by rw [hstep];exact Cu.symm,by rintro x hx;simp only [Aj3]at hx;rw [←hx];exact⟨DN,HY.out⟩⟩
      case measure=>rw [EG,Eu K9.iter,List.length_append,List.length_singleton];omega
     ·have d5:decide (0<xd)=false:=decide_eq_false a5;rw [if_neg a5]at Cu;go_wp2;go_roundw
      case rel=>exact⟨seen ++ [i],some (b,hh),rfl,rfl,K5,by rw [hstep];exact Cu.symm,IE⟩
      case measure=>rw [EG,Eu K5.iter,List.length_append,List.length_singleton];omega
end Go.Proofs.YtgnejnampofhoaaGreatDoor
