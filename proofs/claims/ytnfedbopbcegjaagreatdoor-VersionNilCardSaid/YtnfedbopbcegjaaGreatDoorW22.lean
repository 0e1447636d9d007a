/- W22. -/
import Derived.Test.YtnfedbopbcegjaaGreatDoorW04
import Derived.Test.YtnfedbopbcegjaaGreatDoorW19
import Derived.Shelf.SlSortCmp.InsertionK
set_option maxRecDepth 100000
set_option maxHeartbeats 8000000
namespace Go.Proofs.YtnfedbopbcegjaaGreatDoor
open Go.RowKit Kl Go.Sort
theorem N7{w a b:World}{r:Nat}(h:Aa w a)(hg:a.grownBy b (some r))(hr:w.heap.size<=r):Aa w b:=
 ⟨hg.os.trans h.os,hg.tape.trans h.tape,hg.output.trans h.output,AjX h.size hg.size,fun k hk=>(hg.block k (AjW hk h.size) (by simp;omega)).trans (h.block k hk)⟩
section
variable {α : Type} [Inhabited α]
theorem NA(enc:α→List Value)(k:Nat)(w:World)(blk off m:Nat)(dk:Array α)(os:Array Obj):w.grownBy (sortWorldK enc k w blk off m dk os) (some blk):=by
 refine⟨rfl,rfl,rfl,?_,fun i hi hne=>?_⟩
 ·exact size_sortWorldK_c enc k w blk off m dk os
 ·have hb:i≠blk:=fun e=>hne (by rw [e]);show ((w.heap.modify blk _)++os)[i]?=w.heap[i]?;rw [Array.getElem?_append_left (by simpa using hi),Array.getElem?_modify,if_neg (fun e=>hb e.symm)]
theorem Zv{g:Nat}{cb:Array Value}{enc:α→List Value}{k:Nat}{cf:α→α→Int}{blk off size:Nat}{w:World}
  (h:∀W,w.grownBy W (some blk)→∀x y,Calls Tryz.prog g (#[.agg (enc x).toArray,.agg (enc y).toArray]++cb) W (AB (cf x y) W)):CmpLays Tryz.prog g cb enc k cf blk off size w:=by
 intro m os dk _ x y;refine(Calls.drawn (h _ (NA enc k w blk off m dk os) x y) (fun e w' h=>⟨_,h.1⟩)).mono ?_;rintro e w' ⟨⟨he,hx⟩,hd⟩;exact⟨he,hx.grow hd⟩
theorem AgO(enc:α→List Value)(k:Nat)(w:World)(blk off m:Nat)(dk:Array α)(os:Array Obj){c:Array Value}{e:TypeId}{fr:Nat×Nat}(h:w.heap[blk]?=some (.cells c e fr)) :
  (sortWorldK enc k w blk off m dk os).heap[blk]?=some (.cells (putCells id off (flatK enc k dk) c) e fr):=by
 have hlt:=AjL h;show ((w.heap.modify blk (onCells (putCells id off (flatK enc k dk))))++os)[blk]?=_;rw [Array.getElem?_append_left (by simpa using hlt),Array.getElem?_modify,if_pos rfl,h]
 rfl
end
theorem WH{α:Type}{enc:α→List Value}{k:Nat}(hk:∀x,(enc x).length=k):∀(l:List α),(l.flatMap enc).length=l.length*k
 | []=>by simp
 | x::l=>by rw [List.flatMap_cons,List.length_append,hk,WH hk l,List.length_cons,Nat.add_mul,Nat.one_mul,Nat.add_comm]
section
variable {α : Type} [Inhabited α] {enc : α → List Value} {k : Nat}
theorem SN(hk:∀x,(enc x).length=k)(k0:0<k):∀(l:List α) (t:Nat),t<l.length*k→(l.flatMap enc)[t]?=some ((enc l[t/k]!)[t%k]!)
 | [],t,h=>by simp at h
 | x::l,t,h=>by
  rw [List.flatMap_cons];by_cases ht:t<k
  ·rw [List.getElem?_append_left (by rw [hk];exact ht),Nat.div_eq_of_lt ht,Nat.mod_eq_of_lt ht,AjS (by rw [hk];exact ht)];simp [hk,ht]
  ·have e1:t/k=(t-k)/k+1:=by rw [Nat.div_eq_sub_div k0 (by omega)]
   have e2:t%k=(t-k)%k:=by rw [Nat.mod_eq_sub_mod (by omega)]
   have hl:t-k<l.length*k:=by rw [List.length_cons,Nat.add_mul,Nat.one_mul]at h;omega
   rw [List.getElem?_append_right (by rw [hk];omega),hk,SN hk k0 l (t-k) hl,e1,e2];simp
theorem jT(hk:∀x,(enc x).length=k)(k0:0<k)(d:Array α):(flatK enc k d).toList=d.toList.flatMap enc:=by
 apply List.ext_getElem?;intro t;by_cases ht:t<d.size*k
 ·rw [SN hk k0 _ _ (by simpa using ht)];have h1:t<(flatK enc k d).toList.length:=(by simpa using ht);have h2:=get_flatK enc k d t ht;rw [AjS h1]
  have h3:(flatK enc k d)[t]! = (flatK enc k d).toList[t]:=by rw [getElem!_pos _ t (by simpa using ht)];simp
  rw [←h3,h2]
  congr 1
  have h4:d[t/k]! = d.toList[t/k]!:=by have hlt:t/k<d.size:=Nat.div_lt_of_lt_mul (by rw [Nat.mul_comm];exact ht);rw [getElem!_pos d _ hlt,getElem!_pos d.toList _ (by simpa using hlt)];simp
  rw [h4]
 ·rw [List.getElem?_eq_none (by simp;omega),List.getElem?_eq_none (by rw [WH hk];simp;omega)]
theorem YE{w:World}{base:Nat}{e:TypeId}{v:Value}{d:Array α}(hk:∀x,(enc x).length=k)(k0:0<k)(h:w.ownsRow base e k v d.size (d.toList.flatMap enc))(hd:0<d.size) :
  ∃g cap,v=.slice (some ⟨g,0,none⟩) d.size cap/\base<=g/\g<w.heap.size/\HoldsK enc k w g 0 d/\v.ownBlock=some g:=by
 rcases h.2 with⟨_,h0⟩|⟨g,cap,cur,rfl,hb,hg,hn,hm,hs,ht⟩
 ·omega
 ·refine⟨g,cap,rfl,hb,AjL hg,?_,rfl⟩;intro j hj;rw [size_flatK]at hj;have Gp:j<d.toList.length*k:=(by simpa using hj);have h1:=SN hk k0 d.toList j Gp;rw [←jT hk k0]at h1
  have h2:(flatK enc k d)[j]! = (enc d.toList[j/k]!)[j%k]!:=by rw [getElem!_pos _ j (by simpa using hj)];rw [AjS (by simpa using hj),AjR]at h1;rw [←h1];simp
  have h3:cur.toList[j]?=some ((flatK enc k d)[j]!):=by have h4:=SN hk k0 d.toList j Gp;rw [←ht,List.getElem?_take_of_lt (by rw [Nat.mul_comm]at hj ⊢;omega)]at h4;rw [h4,h2]
  refine⟨?_,?_⟩
  ·rw [Nat.zero_add];refine Ab hg ?_;rw [←Array.getElem?_toList];exact h3
  ·rw [Nat.zero_add];exact Ao hg
theorem Rf{w:World}{base:Nat}{e:TypeId}{g cap:Nat}{d d':Array α}(hk:∀x,(enc x).length=k)(k0:0<k)(h:w.ownsRow base e k (.slice (some ⟨g,0,none⟩) d.size cap) d.size (d.toList.flatMap enc))(hd:d'.size=d.size)(m:Nat)(os:Array Obj) :
  (sortWorldK enc k w g 0 m d' os).ownsRow base e k (.slice (some ⟨g,0,none⟩) d.size cap) d.size (d'.toList.flatMap enc):=by
 rcases h.2 with⟨h',_⟩|⟨g',cap',cur,hv,hb,hg,hn,hm,hs,ht⟩
 ·cases h'
 ·simp only [Value.slice.injEq,AjR,Addr.mk.injEq,and_true,true_and]at hv;obtain⟨rfl,rfl⟩:=hv;have hF:(flatK enc k d').size=d.size*k:=(by rw [size_flatK,hd]);have hle:d.size*k<=cur.size:=(by rw [hs];exact Nat.mul_le_mul_right k hn);refine⟨?_,.inr ⟨g,cap,_,rfl,hb,AgO enc k w g 0 m d' os hg,hn,hm,?_,?_⟩⟩
  ·rw [WH hk];simp [hd]
  ·unfold putCells;simpa using hs
  ·rw [←jT hk k0];apply List.ext_getElem?;intro t;by_cases MO:t<d.size*k
   ·rw [List.getElem?_take_of_lt MO,Array.getElem?_toList];unfold putCells;rw [Array.getElem?_mapIdx,Array.getElem?_eq_getElem (by omega)];simp only [Option.map_some,Nat.zero_le,true_and,Nat.zero_add,Nat.sub_zero];rw [if_pos (by omega),Array.getElem?_toList,Array.getElem?_eq_getElem (by omega)];rw [getElem!_pos _ t (by omega)]
    rfl
   ·rw [List.getElem?_eq_none (by rw [List.length_take];omega),List.getElem?_eq_none (by simp [hd];omega)]
end
def ES(s t:Sg):Int:=if AS s.a t.a≠0 then AS s.a t.a else AS s.b t.b
theorem wl(s t:Sg){k:Nat}(hs:G7 k s)(ht:G7 k t)(hk:0<k)(hk2:k<=1)(w:World)(hw:Ak w) :
  Calls Tryz.prog 129 #[Ax s,Ax t] w (AB (ES s t) w):=by
 have c1:=Jk s.a t.a hs.a ht.a hk hk2;have c2:=Jk s.b t.b hs.b ht.b hk hk2;have hE:=((Aa.refl w).alloc (.cells #[S (R s.a.x),S (R s.a.y),S (R s.b.x),S (R s.b.y)] 176)).alloc (.cells #[S (R t.a.x),S (R t.a.y),S (R t.b.x),S (R t.b.y)] 176);obtain⟨x,hx0⟩:=AjJ (AS s.a t.a);obtain⟨y,Dk⟩:=AjJ (AS s.b t.b)
 have hr:ES s t=if x≠0 then x else y:=by rw [hx0,Dk];rfl
 rw [hr];rw [←hx0]at c1;rw [←Dk]at c2
 have hA:(w.alloc (.cells #[S (R s.a.x),S (R s.a.y),S (R s.b.x),S (R s.b.y)] 176)).alloc (.cells #[S (R t.a.x),S (R t.a.y),S (R t.b.x),S (R t.b.y)] 176) |>.heap[w.heap.size]?=some (.cells #[S (R s.a.x),S (R s.a.y),S (R s.b.x),S (R s.b.y)] 176):=(Below.heap_alloc _ _ _ (by simp)).trans (AjM w _)
 have hB:=AjM (w.alloc (.cells #[S (R s.a.x),S (R s.a.y),S (R s.b.x),S (R s.b.y)] 176)) (.cells #[S (R t.a.x),S (R t.a.y),S (R t.b.x),S (R t.b.y)] 176);rw [AjU]at hB;obtain⟨r,GU⟩:=AjJ (if x≠0 then x else y:Int);rw [←GU]
 have Rc:∀(b o:Nat) (w:World),w.cell? ⟨b,o,none⟩=some (.int .i64 x)→w.cell? ⟨b,o+1,none⟩=some (.int .i64 y)→Calls Tryz.prog 196 #[.slice (some ⟨b,o,none⟩) 2 2] w (AB r w):=by intro b o w h1 h2;rw [GU];exact ZS x y b o w h1 h2
 unfold Ag at c1 c2;unfold Ax;clear hs ht hr hx0 Dk GU;go_enter Tryz.func129,Tryz.ntmps129
 go_upto_region 1 with fail
 generalize (w.alloc (.cells #[S (R s.a.x),S (R s.a.y),S (R s.b.x),S (R s.b.y)] 176)).alloc (.cells #[S (R t.a.x),S (R t.a.y),S (R t.b.x),S (R t.b.y)] 176)=V at *;have hs:=hE.size;obtain⟨ba,AP⟩:=AjJ w.heap.size;rw [←AP]at hA hB ⊢;clear AP hs
 have SO:∀w',Aa V w'→(w'.cell? ⟨ba,0,none⟩=some (S (R s.a.x))/\w'.cell? ⟨ba,1,none⟩=some (S (R s.a.y))/\w'.cell? ⟨ba,2,none⟩=some (S (R s.b.x))/\w'.cell? ⟨ba,3,none⟩=some (S (R s.b.y))/\w'.cell? ⟨ba+1,0,none⟩=some (S (R t.a.x))/\w'.cell? ⟨ba+1,1,none⟩=some (S (R t.a.y))/\w'.cell? ⟨ba+1,2,none⟩=some (S (R t.b.x))/\w'.cell? ⟨ba+1,3,none⟩=some (S (R t.b.y))):=fun w' h=>⟨h.cellS (Ab hA rfl),h.cellS (Ab hA rfl),h.cellS (Ab hA rfl),h.cellS (Ab hA rfl),h.cellS (Ab hB rfl),h.cellS (Ab hB rfl),h.cellS (Ab hB rfl),h.cellS (Ab hB rfl)⟩
 have X0:Aa V V.drew:=(Aa.refl V).drew;have hV:=hw.ext hE;clear hA hB
 go_region_held3 (fun w'=>w'.cell? ⟨ba,0,none⟩=some (S (R s.a.x))/\w'.cell? ⟨ba,1,none⟩=some (S (R s.a.y))/\w'.cell? ⟨ba,2,none⟩=some (S (R s.b.x))/\w'.cell? ⟨ba,3,none⟩=some (S (R s.b.y))/\w'.cell? ⟨ba+1,0,none⟩=some (S (R t.a.x))/\w'.cell? ⟨ba+1,1,none⟩=some (S (R t.a.y))/\w'.cell? ⟨ba+1,2,none⟩=some (S (R t.b.x))/\w'.cell? ⟨ba+1,3,none⟩=some (S (R t.b.y)))
  (first|with_reducible exact SO _ X0|with_reducible exact SO _ X5|with_reducible exact SO _ X6|with_reducible exact SO _ X7|with_reducible exact SO _ (X6.alloc _))
  (first|((with_reducible refine(c1 _ (hV.ext X0)).mono ?_);rintro e w5 ⟨rfl,An⟩;have X5:Aa V w5:=X0.trans An)|((with_reducible refine(c2 _ (hV.ext X5)).mono ?_);rintro e w6 ⟨rfl,AD⟩;have X6:Aa V w6:=X5.trans AD;have CL:=AjM w6 (.cells #[.int .i64 x,.int .i64 y] 3);have g0:=Ab (o:=0) CL rfl;have g1:=Ab (o:=1) CL rfl;clear CL)|((with_reducible refine(Rc w6.heap.size 0 _ g0 g1).mono ?_);rintro e w7 ⟨rfl,AQ⟩;have X7:Aa V w7:=(X6.alloc _).trans AQ))
 go_wp2;go_ret;exact⟨rfl,hE.trans X7⟩
theorem S4(p q:Rat):AC p q<0↔p<q:=by unfold AC;grind
theorem Wi(p q:Rat):AC p q=0↔p=q:=by unfold AC;grind
theorem uH(a b:Pt):AS a b=0↔a.x=b.x/\a.y=b.y:=by
 unfold AS;have h1:=Wi a.x b.x;have h2:=Wi a.y b.y
 split<;>grind
theorem MR(a b:Pt):AS a b<0↔a.x<b.x∨(a.x=b.x/\a.y<b.y):=by
 unfold AS;have h1:=Wi a.x b.x;have h2:=S4 a.x b.x;have h3:=S4 a.y b.y
 split<;>grind
theorem Oz(s t:Sg):ES s t<0↔s.a.x<t.a.x∨(s.a.x=t.a.x/\(s.a.y<t.a.y∨(s.a.y=t.a.y/\(s.b.x<t.b.x∨(s.b.x=t.b.x/\s.b.y<t.b.y))))):=by
 unfold ES;have h1:=uH s.a t.a;have h2:=MR s.a t.a;have h3:=MR s.b t.b
 split<;>grind
def P0(s:Sg):Prop:=G7 1 s
theorem yX:P0 ⟨⟨0,0⟩,⟨0,0⟩⟩:=by
 have h:Sz 1 (0:Rat):=(by constructor<;>decide +kernel);exact⟨⟨h,h⟩,⟨h,h⟩⟩
abbrev Way:={s:Sg // P0 s}
instance:Inhabited Way:=⟨⟨_,yX⟩⟩
def Gx(s t:Way):Int:=ES s.1 t.1
theorem dw(s t:Way):ltOf Gx s t=true↔s.1.a.x<t.1.a.x∨(s.1.a.x=t.1.a.x/\(s.1.a.y<t.1.a.y∨(s.1.a.y=t.1.a.y/\(s.1.b.x<t.1.b.x∨(s.1.b.x=t.1.b.x/\s.1.b.y<t.1.b.y))))):=by
 unfold ltOf Gx;rw [decide_eq_true_iff];exact Oz _ _
theorem bQ(s t:Way):ltOf Gx s t=false↔¬(s.1.a.x<t.1.a.x∨(s.1.a.x=t.1.a.x/\(s.1.a.y<t.1.a.y∨(s.1.a.y=t.1.a.y/\(s.1.b.x<t.1.b.x∨(s.1.b.x=t.1.b.x/\s.1.b.y<t.1.b.y)))))):=by
 rw [←dw];simp
theorem dx:SWO (ltOf Gx) where
 irrefl x:=by rw [bQ];grind
 trans x y z h1 h2:=by rw [dw]at *;grind
 ntrans x y z h1 h2:=by rw [bQ]at *;grind
theorem AhC(x y:Way)(h1:ltOf Gx x y=false)(h2:ltOf Gx y x=false):x=y:=by
 rw [bQ]at h1 h2;obtain⟨⟨⟨a,b⟩,⟨c,d⟩⟩,hx⟩:=x;obtain⟨⟨⟨a',b'⟩,⟨c',d'⟩⟩,hy⟩:=y;simp only [Subtype.mk.injEq,Sg.mk.injEq,Pt.mk.injEq]at *
 grind
def F7(s:Way):List Value:=[S (R s.1.a.x),S (R s.1.a.y),S (R s.1.b.x),S (R s.1.b.y)]
theorem SE(s:Way):(F7 s).length=4:=rfl
theorem Aaa(s:Way):∀v∈F7 s,v.oneCell'=true:=by
 intro v hv;simp only [F7,List.mem_cons,AjY,or_false]at hv
 rcases hv with rfl|rfl|rfl|rfl<;>rfl
theorem AhB{w0 w:World}(hw:Ak w0)(hx:Aa w0 w){blk:Nat}(hb:w0.heap.size<=blk)(off size:Nat):CmpLays Tryz.prog 129 #[] F7 4 Gx blk off size w:=by
 refine Zv fun W hg x y=>?_;have h:=wl x.1 y.1 x.2 y.2 (by omega) (by omega) W (hw.ext (N7 hx hg hb));exact h
end Go.Proofs.YtnfedbopbcegjaaGreatDoor
namespace Go.Proofs.YtnfedbopbcegjaaGreatDoor
open Go.RowKit Kl
def Bq(s:Sg)(x:Rat):Rat:=s.a.y+(x-s.a.x)/(s.b.x-s.a.x)*(s.b.y-s.a.y)
theorem AbS(s:Sg)(x:Rat){k:Nat}(hs:G7 k s)(hx:Sz k x)(hk:0<k)(hk2:k<=1)(h0:s.b.x≠s.a.x)(w:World)(hw:Ak w) :
  Calls Tryz.prog 247 #[Ax s,S (R x)] w (BK (R (Bq s x)) w):=by
 have s1:=Fu x s.a.x (a:=k) (b:=k) ⟨hx,hs.a.x,hk,hk,by omega⟩;have s2:=Fu s.b.x s.a.x (a:=k) (b:=k) ⟨hs.b.x,hs.a.x,hk,hk,by omega⟩;have dv:=AfM (x-s.a.x) (s.b.x-s.a.x) (by grind) (a:=k+k+1) (b:=k+k+1) ⟨hx.sub hs.a.x,hs.b.x.sub hs.a.x,by omega,by omega,by omega⟩;have s3:=Fu s.b.y s.a.y (a:=k) (b:=k) ⟨hs.b.y,hs.a.y,hk,hk,by omega⟩;have mu:=Kk ((x-s.a.x)/(s.b.x-s.a.x)) (s.b.y-s.a.y) (a:=k+k+1+(k+k+1)) (b:=k+k+1) ⟨(hx.sub hs.a.x).div (by omega) (hs.b.x.sub hs.a.x),hs.b.y.sub hs.a.y,by omega,by omega,by omega⟩;have ad:=LP s.a.y ((x-s.a.x)/(s.b.x-s.a.x)*(s.b.y-s.a.y)) (a:=k) (b:=k+k+1+(k+k+1)+(k+k+1)) ⟨hs.a.y,((hx.sub hs.a.x).div (by omega) (hs.b.x.sub hs.a.x)).mul (hs.b.y.sub hs.a.y),by omega,by omega,by omega⟩;have e:Bq s x=s.a.y+(x-s.a.x)/(s.b.x-s.a.x)*(s.b.y-s.a.y):=rfl;rw [←e]at ad;obtain⟨r,hr⟩:=AjJ (Bq s x);rw [←hr]at ad ⊢;unfold Ax;unfold UT at dv;clear hs hx e hr;go_enter Tryz.func247,Tryz.ntmps247
 go_upto_region 1 with fail
 have hb:=AjM w (.cells #[S (R s.a.x),S (R s.a.y),S (R s.b.x),S (R s.b.y)] 176);have hE:=(Aa.refl w).alloc (.cells #[S (R s.a.x),S (R s.a.y),S (R s.b.x),S (R s.b.y)] 176);obtain⟨W,hW⟩:=AjJ (w.alloc (.cells #[S (R s.a.x),S (R s.a.y),S (R s.b.x),S (R s.b.y)] 176));rw [←hW]at hb hE ⊢;clear hW;obtain⟨ba,AP⟩:=AjJ w.heap.size;rw [←AP]at hb ⊢;clear AP
 have SO:∀w',Aa W w'→(w'.cell? ⟨ba,0,none⟩=some (S (R s.a.x))/\w'.cell? ⟨ba,1,none⟩=some (S (R s.a.y))/\w'.cell? ⟨ba,2,none⟩=some (S (R s.b.x))/\w'.cell? ⟨ba,3,none⟩=some (S (R s.b.y))):=fun w' h=>⟨h.cellS (Ab hb rfl),h.cellS (Ab hb rfl),h.cellS (Ab hb rfl),h.cellS (Ab hb rfl)⟩
 have C6:=hw.ext hE;have X:Aa W W:=Aa.refl W;clear hb
 go_region_held3 (fun w'=>w'.cell? ⟨ba,0,none⟩=some (S (R s.a.x))/\w'.cell? ⟨ba,1,none⟩=some (S (R s.a.y))/\w'.cell? ⟨ba,2,none⟩=some (S (R s.b.x))/\w'.cell? ⟨ba,3,none⟩=some (S (R s.b.y)))
  (first|with_reducible exact SO _ X|with_reducible exact SO _ X.drew)
  (first|((with_reducible refine(s1 _ (C6.ext (by first|exact X|exact X.drew))).mono ?_);rintro e w1 ⟨rfl,hx1⟩;replace X:Aa W w1:=(by first|exact X.trans hx1|exact X.drew.trans hx1))|((with_reducible refine(s2 _ (C6.ext (by first|exact X|exact X.drew))).mono ?_);rintro e w1 ⟨rfl,hx1⟩;replace X:Aa W w1:=(by first|exact X.trans hx1|exact X.drew.trans hx1))|((with_reducible refine(dv _ (C6.ext (by first|exact X|exact X.drew))).mono ?_);rintro e w1 ⟨rfl,hx1⟩;replace X:Aa W w1:=(by first|exact X.trans hx1|exact X.drew.trans hx1)))
 go_upto_region 2 with fail
 go_region_held3 (fun w'=>w'.cell? ⟨ba,0,none⟩=some (S (R s.a.x))/\w'.cell? ⟨ba,1,none⟩=some (S (R s.a.y))/\w'.cell? ⟨ba,2,none⟩=some (S (R s.b.x))/\w'.cell? ⟨ba,3,none⟩=some (S (R s.b.y)))
  (first|with_reducible exact SO _ X|with_reducible exact SO _ X.drew)
  (first|((with_reducible refine(s3 _ (C6.ext (by first|exact X|exact X.drew))).mono ?_);rintro e w1 ⟨rfl,hx1⟩;replace X:Aa W w1:=(by first|exact X.trans hx1|exact X.drew.trans hx1))|((with_reducible refine(mu _ (C6.ext (by first|exact X|exact X.drew))).mono ?_);rintro e w1 ⟨rfl,hx1⟩;replace X:Aa W w1:=(by first|exact X.trans hx1|exact X.drew.trans hx1))|((with_reducible refine(ad _ (C6.ext (by first|exact X|exact X.drew))).mono ?_);rintro e w1 ⟨rfl,hx1⟩;replace X:Aa W w1:=(by first|exact X.trans hx1|exact X.drew.trans hx1)))
 go_wp2;go_ret;exact⟨rfl,hE.trans X⟩
theorem Ag0(l:List Sg):(BQ l).length=l.length*4:=by
 induction l with
 | nil=>rfl
 | cons e l ih=>unfold BQ at *;simp only [List.flatMap_cons,List.length_append,ih,List.length_cons,List.length_nil];omega
theorem yM:∀(l:List Sg) (j:Nat) (h:j<l.length),(BQ l)[j*4]?=some (S (R l[j].a.x))/\(BQ l)[j*4+1]?=some (S (R l[j].a.y))/\(BQ l)[j*4+2]?=some (S (R l[j].b.x))/\(BQ l)[j*4+3]?=some (S (R l[j].b.y))
 | e::l,0,_=>⟨rfl,rfl,rfl,rfl⟩
 | e::l,j+1,h=>by
  have ih:=yM l j (by simpa using h);have e0:BQ (e::l)=S (R e.a.x)::S (R e.a.y)::S (R e.b.x)::S (R e.b.y)::BQ l:=rfl;rw [e0];have e1:(j+1)*4=j*4+1+1+1+1:=(by omega);rw [e1]
  simpa using ih
theorem MZ{w:World}{A:Option Addr}{l:List Sg}(hr:Ad w A (BQ l)){j:Nat}(h:j<l.length):∃b o,A=some ⟨b,o,none⟩/\w.cell? ⟨b,o+j*4,none⟩=some (S (R l[j].a.x))/\w.cell? ⟨b,o+j*4+1,none⟩=some (S (R l[j].a.y))/\w.cell? ⟨b,o+j*4+2,none⟩=some (S (R l[j].b.x))/\w.cell? ⟨b,o+j*4+3,none⟩=some (S (R l[j].b.y)):=by
 have hl:=Ag0 l;obtain⟨b,o,e,hcs⟩:=hr.ad (by omega);obtain⟨f1,f2,f3,f4⟩:=yM l j h;have g1:=hcs (j*4) (by omega);have g2:=hcs (j*4+1) (by omega);have g3:=hcs (j*4+2) (by omega);have g4:=hcs (j*4+3) (by omega);rw [AjS (by omega),AjR]at f1 f2 f3 f4;rw [f1]at g1;rw [f2,←Nat.add_assoc]at g2;rw [f3,←Nat.add_assoc]at g3;rw [f4,←Nat.add_assoc]at g4;exact⟨b,o,e,g1,g2,g3,g4⟩
def EK(p:Pt)(l:List Sg):Rat:=l.foldl (fun s e=>s+Ar p e.a e.b) 0
def KO:List Sg→Rat
 | []=>0
 | e::l=>EK e.a (e::l)
theorem qy(p:Pt)(l:List Sg)(e:Sg):EK p (l ++ [e])=EK p l+Ar p e.a e.b:=by simp [EK]
theorem fJ(p:Pt)(l:List Sg){j:Nat}(h:j<l.length):EK p (l.take (j+1))=EK p (l.take j)+Ar p l[j].a l[j].b:=by
 rw [AjQ h,qy]
theorem qz(l:List Sg)(h:0<l.length):KO l=EK l[0].a l:=by
 cases l with
 | nil=>simp at h
 | cons e l=>rfl
theorem q8(l:List Sg)(A:Option Addr)(c:Nat){k K:Nat}(hl:∀e∈l,G7 k e)(hk:0<k)(hk2:k<=1)(hK:0<K)(hK2:K<=9)(h0:0<l.length)
  (hS:∀j,j<=l.length→Sz K (EK l[0].a (l.take j))) (hA:∀j (h:j<l.length),Sz (K) (Ar l[0].a l[j].a l[j].b)) (hc:l.length<=c) (hcm:c<=9223372036854775807) (hK3:0<K) (w:World) (hw:Ak w) (hr:Ad w A (BQ l)) :
  Calls Tryz.prog 212 #[.slice A l.length c] w (BK (R (KO l)) w):=by
 obtain⟨b,o,rfl,q1,q2,-,-⟩:=MZ hr h0;rw [qz l h0];obtain⟨r,hr0⟩:=AjJ (EK l[0].a l);rw [←hr0];obtain⟨p,hp⟩:=AjJ (l[0].a);have L8:A0 k p:=(by rw [hp];exact(hl _ (AjO h0)).a);rw [←hp]at hr0 hS hA q1 q2;have HR:=AjK hr0;clear hr0 hp;rw [Nat.zero_mul,Nat.add_zero]at q1 q2;go_enter Tryz.func212,Tryz.ntmps212
 go_upto_region 3 with fail
 go_loopw [3,8] (fun s i wr=>∃j:Nat,i=.int .i64 (j:Nat)/\s=S (R (EK p (l.take j)))/\j<=l.length/\Aa w wr) (fun _ i _=>l.length-(intOf i).toNat)
 case atStart=>exact⟨0,rfl,by rw [List.take_zero];show _=S (R 0);rw [Fa],by omega,Aa.refl _⟩
 case round=>
  obtain⟨j,rfl,rfl,hj,Ae⟩:=hrel;by_cases hlt:j<l.length
  ·obtain⟨b',o',IS,g1,g2,g3,g4⟩:=MZ (hr.ext Ae) hlt;simp only [AjR,Addr.mk.injEq,and_true]at IS;obtain⟨rfl,rfl⟩:=IS;have p1:=Ae.cellS q1;have p2:=Ae.cellS q2;have ez:=hl _ (AjO hlt);have ar:=wG p l[j].a l[j].b L8 ez.a ez.b hk hk2;have ad:=LP (EK p (l.take j)) (Ar p l[j].a l[j].b) (a:=K) (b:=K) ⟨hS j hj,hA j hlt,hK,by omega,by omega⟩;rw [←fJ p l hlt]at ad;obtain⟨e,he⟩:=AjJ (l[j]);rw [←he]at g1 g2 g3 g4 ar ad;have hj0:(0:Int)<=(j:Int):=(by omega);have hl0:(0:Int)<(l.length:Int):=(by omega);have Ay:(j:Int)<(l.length:Int):=(by omega);clear ez he;obtain⟨s,hs⟩:=AjJ (EK p (l.take j));obtain⟨s',hs'⟩:=AjJ (EK p (l.take (j+1)));rw [←hs,←hs']at ad;rw [←hs];have ki:=AjK hs';clear hs hs' hS hA hl q1 q2;unfold Ag at ar
   go_upto_region 5 with fail
   have hb:=AjM wr (.cells #[S (R e.a.x),S (R e.a.y),S (R e.b.x),S (R e.b.y)] 176);have hE:=(Aa.refl wr).alloc (.cells #[S (R e.a.x),S (R e.a.y),S (R e.b.x),S (R e.b.y)] 176);unfold S at hb hE;generalize (wr.alloc (.cells #[.string ⟨(R e.a.x).toArray⟩,.string ⟨(R e.a.y).toArray⟩,.string ⟨(R e.b.x).toArray⟩,.string ⟨(R e.b.y).toArray⟩] 176))=W at *;obtain⟨be,Di⟩:=AjJ wr.heap.size;rw [←Di]at hb ⊢;clear Di
   have SO:∀w',Aa W w'→(w'.cell? ⟨b,o,none⟩=some (S (R p.x))/\w'.cell? ⟨b,o+1,none⟩=some (S (R p.y))/\w'.cell? ⟨be,0,none⟩=some (S (R e.a.x))/\w'.cell? ⟨be,1,none⟩=some (S (R e.a.y))/\w'.cell? ⟨be,2,none⟩=some (S (R e.b.x))/\w'.cell? ⟨be,3,none⟩=some (S (R e.b.y))):=fun w' h=>⟨h.cellS (hE.cellS p1),h.cellS (hE.cellS p2),h.cellS (Ab hb rfl),h.cellS (Ab hb rfl),h.cellS (Ab hb rfl),h.cellS (Ab hb rfl)⟩
   have C6:=(hw.ext Ae).ext hE;have hx0:=Ae.trans hE;have X:Aa W W:=Aa.refl W;clear hb p1 p2 g1 g2 g3 g4
   go_region_held3 (fun w'=>w'.cell? ⟨b,o,none⟩=some (S (R p.x))/\w'.cell? ⟨b,o+1,none⟩=some (S (R p.y))/\w'.cell? ⟨be,0,none⟩=some (S (R e.a.x))/\w'.cell? ⟨be,1,none⟩=some (S (R e.a.y))/\w'.cell? ⟨be,2,none⟩=some (S (R e.b.x))/\w'.cell? ⟨be,3,none⟩=some (S (R e.b.y)))
    (first|with_reducible exact SO _ X|with_reducible exact SO _ X.drew)
    (first|((with_reducible refine(ar _ (C6.ext (by first|exact X|exact X.drew))).mono ?_);rintro e w1 ⟨rfl,hx1⟩;replace X:Aa W w1:=(by first|exact X.trans hx1|exact X.drew.trans hx1))|((with_reducible refine(ad _ (C6.ext (by first|exact X|exact X.drew))).mono ?_);rintro e w1 ⟨rfl,hx1⟩;replace X:Aa W w1:=(by first|exact X.trans hx1|exact X.drew.trans hx1)))
   go_wp2;go_roundw
   case rel=>exact⟨j+1,by go_num,by rw [ki.out],hlt,hx0.trans X⟩
   case measure=>simp [intOf];omega
  ·have hjn:j=l.length:=(by omega);have e:EK p (l.take j)=r:=(by rw [HR.out,hjn,List.take_length]);rw [e];have hle:(l.length:Int)<=(j:Int):=(by omega);go_wp2;go_ret;exact⟨rfl,Ae⟩
theorem Do.look{E:List (Pt×Value×Nat)}{R0:List (Pt×List Pt)}{B:Nat}{W:World}{b2:Nat}(h:Do B W b2 E R0)(p:Pt){e:Pt×List Pt}(hf:R0.find? (fun e=>Ah p e.1)=some e) :
  ∃A c,Fp Ah (.slice none 0 0) p E=.slice A e.2.length c/\Ad W A (flat (Aq e.2))/\e.2.length<=c/\c<=9223372036854775807:=by
 have EQ:=WF h.len (fun i h1 h2=>(h.row i h1 h2).1) p;obtain⟨h3,j,hj',h4,h5⟩:=List.find?_eq_some_iff_getElem.1 hf
 have hfj:R0.findIdx? (fun e=>Ah p e.1)=some j:=by rw [List.findIdx?_eq_some_iff_getElem];exact⟨hj',by rw [h4];exact h3,fun i hi=>by have:=h5 i hi;simpa using this⟩
 rw [hfj,List.findIdx?_eq_some_iff_getElem]at EQ;obtain⟨hj,h1,h2⟩:=EQ
 have e1:E.find? (fun e=>Ah p e.1)=some E[j]:=by rw [List.find?_eq_some_iff_getElem];exact⟨h1,j,hj,rfl,fun i hi=>by have:=h2 i hi;simpa using this⟩
 have ho:=(h.row j hj hj').2.2;rw [h4]at ho;obtain⟨A,c,hv,hr,g1,g2⟩:=Ad.of_own' (by omega) ho;refine⟨A,c,?_,hr,g1,g2⟩;unfold Fp;rw [e1];exact hv
theorem Ae0{j n:Nat}(h:j<n):∃m:Nat,m<n/\m=(j+n-1)%n/\Int.tmod ((j:Int)+n-1) n=(m:Int):=by
 refine⟨(j+n-1)%n,Nat.mod_lt _ (by omega),rfl,?_⟩;have e:(j:Int)+n-1=((j+n-1:Nat):Int):=(by omega);rw [e];exact(Int.ofNat_tmod _ _).symm
theorem Aez{B:Nat}{w:World}{r b1 b2:Nat}{L:List (Sg×Int)}{E:List (Pt×Value×Nat)}{R0:List (Pt×List Pt)}(h:Bn B w r b1 b2 L E R0)(s:Sg){e:Pt×List Pt}(hf:R0.find? (fun e=>Ah s.b e.1)=some e){j m:Nat}(hj:j<e.2.length)(hi:Dl e.2 s.a=(j:Int))(hm:m<e.2.length)(Q5:m=(j+e.2.length-1)%e.2.length)(hn:e.2.length<100000) :
  Calls Tryz.prog 210 #[.pointer (some ⟨r,0,none⟩),Ax s] w (Cp (Ax ⟨s.b,e.2[m]⟩) w):=by
 obtain⟨A,c,hv,C5,hc1,hc2⟩:=h.ar.look s.b hf;obtain⟨m',hm',hme,htm⟩:=Ae0 hj;rw [←Q5]at hme;subst hme;clear hm' Q5;obtain⟨p,hp⟩:=AjJ (e.2[m']);rw [←hp];have ix:=fun W (hE:Aa w W)=>tP e.2 s.a A c W (C5.ext hE) hc1 hc2;rw [hi]at ix;have hE:=((Aa.refl w).alloc (.cells #[S (R s.a.x),S (R s.a.y),S (R s.b.x),S (R s.b.y)] 176)).alloc (.cells #[S [],S [],S [],S []] 176);have hb1:=(Below.heap_alloc (w.alloc (.cells #[S (R s.a.x),S (R s.a.y),S (R s.b.x),S (R s.b.y)] 176)) (.cells #[S [],S [],S [],S []] 176) w.heap.size (by simp)).trans (AjM w (.cells #[S (R s.a.x),S (R s.a.y),S (R s.b.x),S (R s.b.y)] 176));have hb2:=AjM (w.alloc (.cells #[S (R s.a.x),S (R s.a.y),S (R s.b.x),S (R s.b.y)] 176)) (.cells #[S [],S [],S [],S []] 176);rw [AjU]at hb2;obtain⟨b',o',hA,g1,g2⟩:=CX C5 hm;have hlt:=World.block_lt_of_cell? w _ g1;simp only at hlt;replace g1:=hE.cellS g1;replace g2:=hE.cellS g2;have hN:=h.ext hE;rw [←hp]at g1 g2;obtain⟨n,FK⟩:=AjJ e.2.length;rw [←FK]at hj htm hv hn hc1 ix hm;clear hp hf FK C5;unfold Ax;go_enter Tryz.func210,Tryz.ntmps210
 go_upto_region 1 with fail
 rw [show (⟨#[]⟩:ByteArray)=⟨([]:Bs).toArray⟩from rfl];generalize (w.alloc (.cells #[S (R s.a.x),S (R s.a.y),S (R s.b.x),S (R s.b.y)] 176)).alloc (.cells #[S [],S [],S [],S []] 176)=V at *;obtain⟨bb,BH⟩:=AjJ w.heap.size;have hle:w.heap.size<=bb+1:=(by omega);rw [←BH]at hb1 hb2 hlt ⊢;have Acv:¬(b'=bb+1):=(by omega);have GR:¬(bb+1=b'):=(by omega);clear BH;have q2:∀q:Ac V,q.w.cell? ⟨r,1,none⟩=some (.map (some b2)):=Ac.cell (Ab hN.cell rfl);have q3:∀q:Ac V,q.w.cell? ⟨bb,2,none⟩=some (S (R s.b.x)):=Ac.cell (Ab hb1 rfl);have q4:∀q:Ac V,q.w.cell? ⟨bb,3,none⟩=some (S (R s.b.y)):=Ac.cell (Ab hb1 rfl)
 have q5:∀q:Ac V,(Instr.lookup 161 (.map (some b2)) (Ag s.b) false).run Tryz.prog q.w=.ok (.slice A n c) q.w:=fun q=>by rw [OG Ox s.b E (W:=q.w) ((q.h.block b2 hN.ar.lt).trans hN.ar.blk),hv]
 unfold Ag at q5 ix;refine Bh (by kernel_rfl) (by kernel_rfl) ?_
 repeat (go_big_quiet_step (fail))
 refine wpQuiet_nil ?_;rintro _ ⟨q,rfl⟩;obtain⟨W1,hx1⟩:=q;have k1:=hx1.cellS (Ab (o:=0) hb1 rfl);have k2:=hx1.cellS (Ab (o:=1) hb1 rfl);have Zt:=ix W1 (hE.trans hx1);rw [hA]at Zt hv;simp only;clear ix;(go_wp2_with fail);(with_reducible refine Zt.mono ?_);rintro e w2 ⟨rfl,hx2⟩;replace hx2:=hx1.trans hx2;have D2:=(hx2.block _ (AjL hb1)).trans hb1;have Cc:=(hx2.block _ (AjL hb2)).trans hb2;have f1:=hx2.cellS g1;have f2:=hx2.cellS g2;have e1:=Ab (o:=2) D2 rfl;have e2:=Ab (o:=3) D2 rfl;have y0:=Ao (o:=0) Cc;have y1:=Ao (o:=1) Cc;have y2:=Ao (o:=2) Cc;have y3:=Ao (o:=3) Cc;have z0:=Ab (o:=0) Cc rfl;have z1:=Ab (o:=1) Cc rfl;have z2:=Ab (o:=2) Cc rfl;have z3:=Ab (o:=3) Cc rfl;clear k1 k2 q2 q3 q4 q5 hN h g1 g2 Zt;have EB:(n:Int)≠0:=(by omega);have MH:¬n=0:=(by omega);have a1:IntKind.i64.wrap ((j:Int)+n)=(j:Int)+n:=AjT _ (by omega);have a2:IntKind.i64.wrap ((j:Int)+n-1)=(j:Int)+n-1:=AjT _ (by omega);have a3:IntKind.i64.wrap (m':Int)=(m':Int):=AjT _ (by omega);have a4:(0:Int)<=(m':Int):=(by omega);have a5:(m':Int)<(n:Int):=by omega
 go_upto_region 3 with fail
 go_region_held3 (fun w'=>w'.cell? ⟨bb,2,none⟩=some (S (R s.b.x))/\w'.cell? ⟨bb,3,none⟩=some (S (R s.b.y))/\w'.cell? ⟨b',o'+m'*2,none⟩=some (S (R p.x))/\w'.cell? ⟨b',o'+m'*2+1,none⟩=some (S (R p.y)))
  (first|go_keep|(simp [World.cell?_setCell,Acv,GR];go_keep)) (fail)
 have hq:=Nz (S (R s.b.x)) (S (R s.b.y)) (S (R p.x)) (S (R p.y)) Cc;have q0:=(Aa.refl _).drew.cellS (Ab (o:=0) hq rfl);have q1:=(Aa.refl _).drew.cellS (Ab (o:=1) hq rfl);have q2:=(Aa.refl _).drew.cellS (Ab (o:=2) hq rfl);have q3:=(Aa.refl _).drew.cellS (Ab (o:=3) hq rfl);clear hq;go_wp2;refine bodyPost_ret (v:=.agg #[S (R s.b.x),S (R s.b.y),S (R p.x),S (R p.y)]) (by simp [results,Tryz.results210,go_sem,q0,q1,q2,q3]) rfl ?_;have CG:=hE.trans hx2;exact⟨rfl,((((CG.setCell (p:=⟨bb+1,0,none⟩) hle _).setCell (p:=⟨bb+1,1,none⟩) hle _).setCell (p:=⟨bb+1,2,none⟩) hle _).setCell (p:=⟨bb+1,3,none⟩) hle _).drew⟩
section
open Go.ChangeMaps (setBlock)
section
variable {α : Type} (enc : α → Value)
structure CE(W:World)(r b:Nat)(E:List (α×Value×Nat))(seen:List Nat):Prop where
 it:W.heap[r]?=some (.mapIter (some b) E.length seen.toArray E.length)
 nd:seen.Nodup
 lt:∀i∈seen,i<E.length
theorem CE.range{W:World}{b:Nat}{E:List (α×Value×Nat)}{t k e:TypeId}(ht:Tryz.prog.underlying t=some (.map k e))(hb:W.heap[b]?=some (.map (Az enc E).toArray E.length)) :
  (Instr.range t (.map (some b))).run Tryz.prog W=.ok (.pointer (some ⟨W.heap.size,0,none⟩)) (W.alloc (.mapIter (some b) E.length #[] E.length))/\CE (W.alloc (.mapIter (some b) E.length #[] E.length)) W.heap.size b E []:=
 ⟨run_range_map W t k e b _ _ ht hb,AjM _ _,List.nodup_nil,by simp⟩
theorem CE.keep{W W':World}{r b:Nat}{E:List (α×Value×Nat)}{seen:List Nat}(h:CE W r b E seen)(hk:W'.heap[r]?=W.heap[r]?):CE W' r b E seen:=⟨hk.trans h.it,h.nd,h.lt⟩
theorem Aag{E:List (α×Value×Nat)}(hst:∀i (h:i<E.length),E[i].2.2=i):(Az enc E).map (·.born)=List.range E.length:=by
 apply List.ext_getElem
 ·simp [Az]
 ·intro i h1 h2;simp [Az]at h1 ⊢;exact hst i h1
theorem CE.next{W:World}{r b:Nat}{E:List (α×Value×Nat)}{seen:List Nat}(h:CE W r b E seen)(hb:W.heap[b]?=some (.map (Az enc E).toArray E.length))(hst:∀i (h:i<E.length),E[i].2.2=i)(hne:r≠b)(ty:TypeId) :
  (seen.length=E.length/\(Instr.next (.pointer (some ⟨r,0,none⟩)) false ty).run Tryz.prog W=.ok (.tuple #[.bool false]) W)∨
  ∃i,∃hi:i<E.length,i∉seen/\∃W',CE W' r b E (seen ++ [i])/\W.grownBy W' (some r)/\W'.heap.size=W.heap.size/\
   (Instr.next (.pointer (some ⟨r,0,none⟩)) false ty).run Tryz.prog W=.ok (.tuple #[.bool true,enc E[i].1,E[i].2.1]) W'/\
   (∀V,V.heap[r]?=W'.heap[r]?→V.heap[b]?=W'.heap[b]?→(Instr.entry (.pointer (some ⟨r,0,none⟩))).run Tryz.prog V=.ok (.tuple #[enc E[i].1,E[i].2.1]) V):=by
 have BP:=Aag enc hst
 have hold:∀x∈(Az enc E).toArray.toList,x.born<E.length:=by
  intro x hx;have:x.born∈(Az enc E).map (·.born):=List.mem_map_of_mem hx;rw [BP]at this
  simpa using this
 have Ca:((Az enc E).toArray.toList.map (·.born)).Nodup:=by show ((Az enc E).map (·.born)).Nodup;rw [BP];exact List.nodup_range
 rcases run_next_at (P:=Tryz.prog) W ty r b E.length E.length seen.toArray (Az enc E).toArray E.length h.it hb hold (AjN _)with⟨h0,hrun⟩|⟨x,hx,w1,hw1,hrun⟩
 ·left
  refine⟨?_,hrun⟩;have hall:=all_seen _ _ h0
  have AcI:List.range E.length ⊆ seen:=by
   intro i hi;rw [←BP]at hi;obtain⟨x,hx,rfl⟩:=List.mem_map.1 hi;have:=hall x hx
   simpa using this
  have h1:E.length<=seen.length:=by
   have:=(List.nodup_range (n:=E.length)).length_le_of_subset AcI
   simpa using this
  have h2:seen.length<=E.length:=by
   have hs:seen ⊆ List.range E.length:=fun i hi=>(by simpa using h.lt i hi);have:=h.nd.length_le_of_subset hs
   simpa using this
  omega
 ·right
  obtain⟨sZ,Jc⟩:=mem_left hx;obtain⟨i,hi,hxi⟩:=List.getElem_of_mem sZ;have hi':i<E.length:=(by simpa [Az]using hi);have Ow:x=⟨enc E[i].1,E[i].2.1,E[i].2.2⟩:=(by rw [←hxi];simp [Az]);have hb0:x.born=i:=(by rw [Ow];exact hst i hi');have hkey:x.key=enc E[i].1:=(by rw [Ow]);have hval:x.val=E[i].2.1:=(by rw [Ow]);have FM:i∉seen:=by rw [hb0]at Jc;simpa using Jc
  have hr1:w1.heap[r]?=W.heap[r]?:=by rcases hw1 with rfl|rfl<;>rfl
  have hb1:w1.heap[b]?=W.heap[b]?:=by rcases hw1 with rfl|rfl<;>rfl
  have hG:W.grownBy (setBlock w1 r (.mapIter (some b) E.length (seen.toArray.push x.born) E.length)) (some r):=by
   rcases hw1 with rfl|rfl
   ·exact J9 h.it
   ·exact⟨rfl,rfl,rfl,by simp [setBlock],fun k _ hk=>Rs (fun e=>hk (by rw [e]))⟩
  have hit:=Kr (o:=.mapIter (some b) E.length (seen.toArray.push x.born) E.length) (hr1.trans h.it);refine⟨i,hi',FM,_,⟨?_,?_,?_⟩,hG,?_,?_,?_⟩
  ·rw [hit,hb0];simp
  ·rw [List.nodup_append];refine⟨h.nd,by simp,?_⟩;intro a ha c hc;simp only [AjZ]at hc;subst hc;intro e;rw [e]at ha;exact FM ha
  ·intro k hk
   rcases List.mem_append.1 hk with hk|hk
   ·exact h.lt k hk
   ·simp only [AjZ]at hk;omega
  ·rcases hw1 with rfl|rfl<;>simp [setBlock]
  ·rw [hrun,hkey,hval]
  ·intro V hVr hVb;rw [←hkey,←hval];exact run_entry_at V r b E.length seen.toArray (Az enc E).toArray E.length x (hVr.trans hit) (hVb.trans ((Rs (Ne.symm hne)).trans (hb1.trans hb))) sZ Ca
end
end
theorem K8.mul_eq{q:Rat}(h:K8 q):∃a:Int,a.natAbs<=9/\(a:Rat)=2*q:=by
 obtain⟨a,h1,rfl⟩:=h;exact⟨a,h1,by grind⟩
theorem Ahi{q:Rat}{n d:Int}(hd:d≠0)(h:q*(d:Rat)=(n:Rat))(hn:n.natAbs<1000)(Ql:d.natAbs<1000):Sz 3 q:=by
 have hd0:(d:Rat)≠0:=(by intro e;exact hd (Rat.intCast_inj.1 (by rw [e];rfl)));have e:q=(n:Rat)/(d:Rat):=(by rw [←h];exact(Rat.mul_div_cancel hd0).symm);by_cases hp:0<d
 ·have:q=mkRat n d.toNat:=by rw [e,Rat.mkRat_eq_div,show ((d.toNat:Nat):Rat)=((d.toNat:Int):Rat)from rfl,Int.toNat_of_nonneg (by omega)]
  rw [this];exact Sz.mkRat (by omega) (by omega) (by omega)
 ·have:q=mkRat (-n) (-d).toNat:=by
   rw [e,Rat.mkRat_eq_div,show (((-d).toNat:Nat):Rat)=(((-d).toNat:Int):Rat)from rfl,Int.toNat_of_nonneg (by omega),Rat.intCast_neg,Rat.intCast_neg]
   grind
  rw [this];exact Sz.mkRat (by omega) (by omega) (by omega)
theorem ah{s:Sg}{x:Rat}(hs:Gb s)(hx:K8 x):Sz 3 (Bq s x):=by
 obtain⟨ax,h1,e1⟩:=hs.a.x.mul_eq;obtain⟨ay,h2,e2⟩:=hs.a.y.mul_eq;obtain⟨bx,h3,e3⟩:=hs.b.x.mul_eq;obtain⟨b,h4,e4⟩:=hs.b.y.mul_eq;obtain⟨u,h5,e5⟩:=hx.mul_eq;by_cases h0:s.b.x=s.a.x
 ·have:Bq s x=s.a.y:=(by unfold Bq;rw [h0,Rat.sub_self,Rat.div_def,Rat.inv_zero,Rat.mul_zero,Rat.zero_mul,Rat.add_zero]);rw [this];exact(hs.a.y.sz (K:=3) (by omega))
 ·have hd:bx-ax≠0:=by intro e;have:bx=ax:=(by omega);rw [this]at e3;exact h0 (by grind)
  have EB:s.b.x-s.a.x≠0:=(by grind);refine Ahi (n:=ay*(bx-ax)+(u-ax)*(b-ay)) (d:=2*(bx-ax)) (by omega) ?_ ?_ (by omega)
  ·unfold Bq;simp only [Rat.intCast_add,Rat.intCast_mul,Rat.intCast_sub,e1,e2,e3,e4,e5]
   have:(x-s.a.x)/(s.b.x-s.a.x)*(s.b.y-s.a.y)*(s.b.x-s.a.x)=(x-s.a.x)*(s.b.y-s.a.y):=by
    rw [Rat.div_def];have:=Rat.inv_mul_cancel _ EB
    grind
   grind
  ·have g1:=UD (x:=ay) (y:=bx-ax) (m:=9) (n:=18) (by omega) (by omega);have g2:=UD (x:=u-ax) (y:=b-ay) (m:=18) (n:=18) (by omega) (by omega);omega
def GA(p:Pt)(st:Option (Sg×Rat))(s:Sg):Option (Sg×Rat):=
 if 0<=AC s.a.x p.x then st else if AC s.b.x p.x<0 then st else if 0<=AC (Bq s p.x) p.y then st else
 match st with
 | none=>some (s,Bq s p.x)
 | some (b,h)=>
  if AC (Bq s p.x) h=0 then (if 0<AV (Ar s.b s.a b.a)then some (s,Bq s p.x)else st)
  else if 0<AC (Bq s p.x) h then some (s,Bq s p.x)else st
def Yo:Option (Sg×Rat)→Value
 | none=>S []
 | some (_,h)=>S (R h)
def Sx:Option (Sg×Rat)→Array Value
 | none=>#[S [],S [],S [],S []]
 | some (s,_)=>#[S (R s.a.x),S (R s.a.y),S (R s.b.x),S (R s.b.y)]
def P4(st:Option (Sg×Rat)):Value:=.agg (Sx st)
def Cz(p:Pt)(l:List Sg):Option (Sg×Rat):=l.foldl (GA p) none
theorem fN(p:Pt)(l:List Sg)(s:Sg):Cz p (l ++ [s])=GA p (Cz p l) s:=by simp [Cz]
theorem Eo{α:Type}{W:World}{r b:Nat}{E:List (α×Value×Nat)}{seen:List Nat}(h:CE W r b E seen):(W.iterSeen r).size=seen.length:=by
 unfold World.iterSeen;rw [h.it];simp
structure OS(w wr:World)(b1 bb r:Nat)(L:List (Sg×Int))(p:Pt)(seen:List Nat)(st:Option (Sg×Rat)):Prop where
 ext:Aa w wr
 box:wr.heap[bb]?=some (.cells #[S (R p.x),S (R p.y)] 28)
 best:wr.heap[bb+1]?=some (.cells (Sx st) 176)
 iter:CE wr r b1 (stamp L) seen
def Sv(p:Pt)(st:Option (Sg×Rat))(s:Sg):Option (Sg×Rat):=
 match st with
 | none=>some (s,Bq s p.x)
 | some (b,h)=>if AC (Bq s p.x) h=0 then (if 0 < AV (Ar s.b s.a b.a)then some (s,Bq s p.x)else some (b,h))else if 0 < AC (Bq s p.x) h then some (s,Bq s p.x)else some (b,h)
theorem su(p:Pt)(st:Option (Sg×Rat))(s:Sg):GA p st s=if 0<=AC s.a.x p.x then st else if AC s.b.x p.x<0 then st else if 0<=AC (Bq s p.x) p.y then st else Sv p st s:=by
 cases st<;>rfl
theorem VY(st:Option (Sg×Rat)):∃c0 c1 c2 c3:Bs,Sx st=#[S c0,S c1,S c2,S c3]:=by
 cases st with
 | none=>exact⟨_,_,_,_,rfl⟩
 | some x=>exact⟨_,_,_,_,rfl⟩
theorem aV(L:List (Sg×Int)):∀i (h:i<(stamp L).length),(stamp L)[i].2.2=i:=by
 intro i h;simp [stamp]
theorem aW(L:List (Sg×Int)){i:Nat}(h:i<(stamp L).length):(stamp L)[i].1=(L[i]'(by rw [CY]at h;exact h)).1:=by simp [stamp]
theorem aX(L:List (Sg×Int)){i:Nat}(h:i<(stamp L).length):(stamp L)[i].2.1=.int .i64 (L[i]'(by rw [CY]at h;exact h)).2:=by simp [stamp]
theorem aF{β:Type}(L:List β):(List.range L.length).filterMap (fun i=>L[i]?)=L:=by
 have h:∀n,n<=L.length→(List.range n).filterMap (fun i=>L[i]?)=L.take n:=by
  intro n
  induction n with
  | zero=>intro _;simp
  | succ n ih=>intro hn;rw [List.range_succ,List.filterMap_append,ih (by omega),AjQ (by omega)];simp [AjS (show n<L.length by omega)]
 rw [h _ (AjN _),List.take_length]
theorem yO(L:List (Sg×Int)){seen:List Nat}(Ca:seen.Nodup)(hlt:∀i∈seen,i<(stamp L).length)(hlen:seen.length=(stamp L).length):(seen.filterMap (fun i=>L[i]?.map (·.1))).Perm (L.map (·.1)):=by
 rw [CY]at hlt hlen
 have hmem:∀i,i<L.length→i∈seen:=by
  intro i hi;refine Classical.byContradiction fun hn=>?_;have h1:(i::seen).Nodup:=List.nodup_cons.2 ⟨hn,Ca⟩
  have h2:(i::seen) ⊆ List.range L.length:=by
   intro j hj
   rcases List.mem_cons.1 hj with rfl|hj
   ·simpa using hi
   ·simpa using hlt j hj
  have:=h1.length_le_of_subset h2;simp at this;omega
 have hp:seen.Perm (List.range L.length):=by
  rw [List.perm_iff_count];intro i;rw [Ca.count,(List.nodup_range).count];by_cases hi:i<L.length
  ·rw [if_pos (hmem i hi),if_pos (by simpa using hi)]
  ·rw [if_neg (fun h=>hi (hlt i h)),if_neg (by simpa using hi)]
 refine(hp.filterMap _).trans ?_
 have e:(List.range L.length).filterMap (fun i=>L[i]?.map (·.1))=L.map (·.1):=by
  have e1:(List.range L.length).filterMap (fun i=>L[i]?.map (·.1))=((List.range L.length).filterMap (fun i=>L[i]?)).map (·.1):=(by rw [List.map_filterMap]);rw [e1]
  congr 1
  exact aF L
 rw [e]
theorem OS.put{w w':World}{b1 bb:Nat}{L:List (Sg×Int)}{p:Pt}{seen:List Nat}{st:Option (Sg×Rat)}(hB:OS w w' b1 bb (bb+2) L p seen st)(hle:w.heap.size<=bb)(s:Sg)(y:Rat) :
  OS w ((((w'.setCell ⟨bb+1,0,none⟩ (S (R s.a.x))).setCell ⟨bb+1,1,none⟩ (S (R s.a.y))).setCell ⟨bb+1,2,none⟩ (S (R s.b.x))).setCell ⟨bb+1,3,none⟩ (S (R s.b.y))) b1 bb (bb+2) L p seen (some (s,y)):=by
 obtain⟨c0,c1,c2,c3,hc⟩:=VY st;have hb:=hB.best;rw [hc]at hb
 have far:∀(X:World) (o:Nat) (v:Value) (q:Nat),q≠bb+1→(X.setCell ⟨bb+1,o,none⟩ v).heap[q]?=X.heap[q]?:=by intro X o v q hq;simp only [World.setCell,Array.getElem?_modify];rw [if_neg (by omega)]
 refine⟨(((hB.ext.setCell (p:=⟨bb+1,0,none⟩) (by simp;omega) _).setCell (p:=⟨bb+1,1,none⟩) (by simp;omega) _).setCell (p:=⟨bb+1,2,none⟩) (by simp;omega) _).setCell (p:=⟨bb+1,3,none⟩) (by simp;omega) _,?_,Nz _ _ _ _ hb,hB.iter.keep ?_⟩
 ·rw [far _ _ _ _ (by omega),far _ _ _ _ (by omega),far _ _ _ _ (by omega),far _ _ _ _ (by omega)];exact hB.box
 ·rw [far _ _ _ _ (by omega),far _ _ _ _ (by omega),far _ _ _ _ (by omega),far _ _ _ _ (by omega)]
theorem fO{B:Nat}{w:World}{rn b1 b2:Nat}{L:List (Sg×Int)}{E:List (Pt×Value×Nat)}{R0:List (Pt×List Pt)}(h:Bn B w rn b1 b2 L E R0)(p:Pt)(hL:∀e∈L,Gb e.1)(ML:Da p)(hw:Ak w) :
  Calls Tryz.prog 213 #[.pointer (some ⟨rn,0,none⟩),Ag p] w fun e w'=>∃l:List Sg,l.Perm (L.map (·.1))/\e=.returned (.tuple #[P4 (Cz p l),.bool (Cz p l).isSome])/\Aa w w':=by
 have hE:=((Aa.refl w).alloc (.cells #[S (R p.x),S (R p.y)] 28)).alloc (.cells #[S [],S [],S [],S []] 176);have hb1:=(Below.heap_alloc (w.alloc (.cells #[S (R p.x),S (R p.y)] 28)) (.cells #[S [],S [],S [],S []] 176) w.heap.size (by simp)).trans (AjM w (.cells #[S (R p.x),S (R p.y)] 28));have hb2:=AjM (w.alloc (.cells #[S (R p.x),S (R p.y)] 28)) (.cells #[S [],S [],S [],S []] 176);rw [AjU]at hb2;have hN:=h.ext hE;have hp:A0 1 p:=ML.sz (by omega);obtain⟨k,El⟩:=AjJ (1);rw [←El]at hp;have hk:0<k:=(by omega);have Gr:k<=1:=(by omega);have HK:=AjK El;clear El;unfold Ag;go_enter Tryz.func213,Tryz.ntmps213
 go_upto_region 2 with fail
 rw [show (⟨#[]⟩:ByteArray)=⟨([]:Bs).toArray⟩from rfl];have hsz:((w.alloc (.cells #[S (R p.x),S (R p.y)] 28)).alloc (.cells #[S [],S [],S [],S []] 176)).heap.size=w.heap.size+2:=(by simp);generalize (w.alloc (.cells #[S (R p.x),S (R p.y)] 28)).alloc (.cells #[S [],S [],S [],S []] 176)=V at *;obtain⟨bb,BH⟩:=AjJ w.heap.size;have hle:w.heap.size<=bb:=(by omega);have Lx:bb<=w.heap.size:=(by omega);rw [←BH]at hb1 hb2 hsz ⊢;clear BH;have n1:=Ab (o:=0) hN.cell rfl;have hrg:=CE.range (enc:=Ax) (E:=stamp L) (t:=160) Tryz.underlying160 (W:=V) (b:=b1) (by rw [CY];exact hN.left);obtain⟨hr1,hr2⟩:=hrg;rw [hsz]at hr1 hr2;have hEI:=hE.alloc (.mapIter (some b1) (stamp L).length #[] (stamp L).length);have Ab4:=(Below.heap_alloc V (.mapIter (some b1) (stamp L).length #[] (stamp L).length) bb (by omega)).trans hb1;have XA:=(Below.heap_alloc V (.mapIter (some b1) (stamp L).length #[] (stamp L).length) (bb+1) (by omega)).trans hb2;clear hb1 hb2
 go_upto_region 3 with fail
 generalize V.alloc (.mapIter (some b1) (stamp L).length #[] (stamp L).length)=V2 at *
 go_loopw [5,6] (fun f hi wr=>∃(seen:List Nat) (st:Option (Sg×Rat)),f=.bool st.isSome/\hi=Yo st/\OS w wr b1 bb (bb+2) L p seen st/\st=Cz p (seen.filterMap (fun i=>L[i]?.map (·.1)))/\(∀x,st=some x→Gb x.1/\x.2=Bq x.1 p.x)) (fun _ _ wr=>L.length-(wr.iterSeen (bb+2)).size)
 case atStart=>exact⟨[],none,rfl,rfl,⟨hEI,Ab4,XA,hr2⟩,rfl,by simp⟩
 case round=>
  obtain⟨seen,st,rfl,rfl,hB,hst,Kf⟩:=hrel;have hb0:=(hB.ext.block b1 (AjL h.left)).trans h.left;rw [←CY]at hb0;have JX:=AjL h.left;obtain⟨c0,c1,c2,c3,hc⟩:=VY st;have GN:=hB.best;rw [hc]at GN
  rcases CE.next Ax hB.iter hb0 (aV L) (by omega) 0 with⟨hlen,hrun⟩|⟨i,hi,FM,W1,DL,hG1,hs1,hrun,hen⟩
  ·have y0:=Ao (o:=0) GN;have y1:=Ao (o:=1) GN;have y2:=Ao (o:=2) GN;have y3:=Ao (o:=3) GN;have z0:=Ab (o:=0) GN rfl;have z1:=Ab (o:=1) GN rfl;have z2:=Ab (o:=2) GN rfl;have z3:=Ab (o:=3) GN rfl;have hq:=Nz (S c0) (S c1) (S c2) (S c3) GN;have q0:=Ab (o:=0) hq rfl;have q1:=Ab (o:=1) hq rfl;have q2:=Ab (o:=2) hq rfl;have q3:=Ab (o:=3) hq rfl;have hP:=yO L hB.iter.nd hB.iter.lt hlen;have hX:=hB.ext;rw [hst]at hc;have hV:P4 (Cz p (seen.filterMap (fun i=>L[i]?.map (·.1))))=.agg #[S c0,S c1,S c2,S c3]:=(by unfold P4;rw [hc]);obtain⟨fb,hfb⟩:=AjJ st.isSome;have XZ:=hfb;rw [hst]at XZ;rw [←hfb];clear hq GN hB hc hfb Kf hst;go_wp2;refine bodyPost_ret (v:=.tuple #[.agg #[S c0,S c1,S c2,S c3],.bool fb]) (by simp [results,Tryz.results213,go_sem,q0,q1,q2,q3,XZ])  rfl ?_;exact⟨_,hP,by rw [hV,XZ],(((hX.setCell (p:=⟨bb+1,0,none⟩) (by simp;omega) _).setCell (p:=⟨bb+1,1,none⟩) (by simp;omega) _).setCell (p:=⟨bb+1,2,none⟩) (by simp;omega) _).setCell (p:=⟨bb+1,3,none⟩) (by simp;omega) _⟩
  ·have Gn:i<L.length:=(by rw [CY]at hi;exact hi);rw [aW,aX]at hrun hen;have FR:Gb (L[i]).1:=hL _ (AjO Gn)
   have hstep:Cz p ((seen ++ [i]).filterMap (fun i=>L[i]?.map (·.1)))=GA p st (L[i]).1:=by rw [List.filterMap_append,hst];simp only [List.filterMap_cons,List.filterMap_nil,AjS Gn,Option.map_some];rw [fN]
   have hlen':seen.length<L.length:=by
    have h2:(i::seen) ⊆ List.range L.length:=by
     intro j hj
     rcases List.mem_cons.1 hj with rfl|hj
     ·simpa using Gn
     ·have:=hB.iter.lt j hj;rw [CY]at this;simpa using this
    have:=(List.nodup_cons.2 ⟨FM,hB.iter.nd⟩).length_le_of_subset h2;simp at this;omega
   have Dz:=Eo hB.iter;have X1:Aa w W1:=N7 hB.ext hG1 (by omega);have fU:=(hG1.block bb (AjL hB.box) (by simp)).trans hB.box;have fQ:=(hG1.block (bb+1) (AjL hB.best) (by simp)).trans hB.best;have Ej:=hen W1 rfl rfl;obtain⟨s,hs⟩:=AjJ ((L[i]).1);obtain⟨z,hz⟩:=AjJ ((L[i]).2);rw [←hs,←hz]at Ej hrun;rw [←hs]at FR hstep;have hsk:G7 k s:=FR.sz hk;have BX:=AjM W1 (.cells #[S (R s.a.x),S (R s.a.y),S (R s.b.x),S (R s.b.y)] 176);have E3:=(Aa.refl W1).alloc (.cells #[S (R s.a.x),S (R s.a.y),S (R s.b.x),S (R s.b.y)] 176)
   have KEEP:∀w',Aa (W1.alloc (.cells #[S (R s.a.x),S (R s.a.y),S (R s.b.x),S (R s.b.y)] 176)) w'→OS w w' b1 bb (bb+2) L p (seen ++ [i]) st:=fun w' hx=>
    have hy:=E3.trans hx
    ⟨X1.trans hy,(hy.block _ (AjL fU)).trans fU,(hy.block _ (AjL fQ)).trans fQ,DL.keep (hy.block _ (AjL DL.it))⟩
   clear hen hs hz GN hb0 hG1 hr1 hr2 hB hN;unfold Ax at Ej hrun
   go_upto_region 5 with fail
   unfold S at BX E3 KEEP;rw [hs1]at BX;generalize (W1.alloc (.cells #[.string ⟨(R s.a.x).toArray⟩,.string ⟨(R s.a.y).toArray⟩,.string ⟨(R s.b.x).toArray⟩,.string ⟨(R s.b.y).toArray⟩] 176))=V3 at *;obtain⟨bs,Dp⟩:=AjJ wr.heap.size;rw [←Dp]at BX ⊢;clear hrun Ej Dp hs1 hst;have okV:=hw.ext (X1.trans E3);have B0:=(KEEP V3 (Aa.refl _)).box
   have F:∀w',Aa V3 w'→(w'.cell? ⟨bb,0,none⟩=some (S (R p.x))/\w'.cell? ⟨bb,1,none⟩=some (S (R p.y))/\w'.cell? ⟨bs,0,none⟩=some (S (R s.a.x))/\w'.cell? ⟨bs,1,none⟩=some (S (R s.a.y))/\w'.cell? ⟨bs,2,none⟩=some (S (R s.b.x))/\w'.cell? ⟨bs,3,none⟩=some (S (R s.b.y))):=fun w' h=>⟨h.cellS (Ab B0 rfl),h.cellS (Ab B0 rfl),h.cellS (Ab BX rfl),h.cellS (Ab BX rfl),h.cellS (Ab BX rfl),h.cellS (Ab BX rfl)⟩
   clear B0 BX;have cA:=FW s.a.x p.x (a:=k) (b:=k) ⟨hsk.a.x,hp.x,hk,hk,by omega⟩;have cB:=FW s.b.x p.x (a:=k) (b:=k) ⟨hsk.b.x,hp.x,hk,hk,by omega⟩
   have Cl:GA p st s=if 0<=AC s.a.x p.x then st else if AC s.b.x p.x<0 then st else if 0<=AC (Bq s p.x) p.y then st else Sv p st s:=su p st s
   obtain⟨xa,Ig⟩:=AjJ (AC s.a.x p.x);obtain⟨xb,hxb⟩:=AjJ (AC s.b.x p.x);rw [←Ig]at cA Cl;rw [←hxb]at cB Cl;obtain⟨f1,f2,f3,f4,f5,f6⟩:=F V3 (Aa.refl _);(go_wp2_with fail);(with_reducible refine(cA _ okV).mono ?_);rintro e w1 ⟨rfl,hx1⟩;clear f1 f2 f3 f4 f5 f6 cA;obtain⟨f1,f2,f3,f4,f5,f6⟩:=F w1 hx1;by_cases a1:0<=xa
   ·have d1:decide (0<=xa)=true:=decide_eq_true a1;have hb1:GA p st s=st:=(by rw [Cl,if_pos a1]);clear Cl cB F;go_wp2;go_roundw
    case rel=>exact⟨seen ++ [i],st,rfl,rfl,KEEP _ hx1,by rw [hstep];exact(hb1).symm,Kf⟩
    case measure=>rw [Dz,Eo (KEEP _ hx1).iter,List.length_append,List.length_singleton];omega
   have d1:decide (0<=xa)=false:=decide_eq_false a1;rw [if_neg a1]at Cl;(go_wp2_with fail);(with_reducible refine(cB _ (okV.ext hx1)).mono ?_);rintro e w2 ⟨rfl,hx2⟩;replace hx2:=hx1.trans hx2;clear f1 f2 f3 f4 f5 f6 cB hx1;obtain⟨f1,f2,f3,f4,f5,f6⟩:=F w2 hx2;by_cases a2:xb<0
   ·have d2:decide (xb<0)=true:=decide_eq_true a2;have hb1:GA p st s=st:=(by rw [Cl,if_pos a2]);clear Cl F;go_wp2;go_roundw
    case rel=>exact⟨seen ++ [i],st,rfl,rfl,KEEP _ hx2,by rw [hstep];exact(hb1).symm,Kf⟩
    case measure=>rw [Dz,Eo (KEEP _ hx2).iter,List.length_append,List.length_singleton];omega
   have d2:decide (xb<0)=false:=decide_eq_false a2;rw [if_neg a2]at Cl
   have h0:s.b.x≠s.a.x:=by have q1:=S4 s.a.x p.x;have q2:=S4 s.b.x p.x;rw [←Ig]at q1;rw [←hxb]at q2;have q3:s.a.x<p.x:=q1.1 (by omega);have q4:¬s.b.x<p.x:=fun h=>a2 (q2.2 h);intro e;rw [e]at q4;exact q4 q3
   have ch:=AbS s p.x hsk hp.x hk (by omega) h0;unfold Ax at ch;have Zh:=ah FR ML.x;obtain⟨y,hy⟩:=AjJ (Bq s p.x);rw [←hy]at ch Zh Cl;have cC:=FW y p.y (a:=3) (b:=k) ⟨Zh,hp.y,by omega,hk,by omega⟩;obtain⟨xc,QL⟩:=AjJ (AC y p.y);rw [←QL]at cC Cl;have HY:=AjK hy;clear Ig hxb QL h0 hy;(go_wp2_with fail);(with_reducible refine(ch _ (okV.ext hx2)).mono ?_);rintro e w3 ⟨rfl,hx3⟩;replace hx3:=hx2.trans hx3;clear f1 f2 f3 f4 f5 f6 ch hx2;obtain⟨f1,f2,f3,f4,f5,f6⟩:=F w3 hx3;(go_wp2_with fail);(with_reducible refine(cC _ (okV.ext hx3)).mono ?_);rintro e w4 ⟨rfl,Aj⟩;replace Aj:=hx3.trans Aj;clear f1 f2 f3 f4 f5 f6 cC hx3;obtain⟨f1,f2,f3,f4,f5,f6⟩:=F w4 Aj;by_cases a3:0<=xc
   ·have d3:decide (0<=xc)=true:=decide_eq_true a3;have hb1:GA p st s=st:=(by rw [Cl,if_pos a3]);clear Cl F;go_wp2;go_roundw
    case rel=>exact⟨seen ++ [i],st,rfl,rfl,KEEP _ Aj,by rw [hstep];exact hb1.symm,Kf⟩
    case measure=>rw [Dz,Eo (KEEP _ Aj).iter,List.length_append,List.length_singleton];omega
   have d3:decide (0<=xc)=false:=decide_eq_false a3;rw [if_neg a3]at Cl;have K4:=KEEP w4 Aj
   cases st with
   | none=>
    have QA:Sv p none s=some (s,y):=(by rw [HY.out];rfl);rw [QA]at Cl;have y0:=Ao (o:=0) K4.best;have y1:=Ao (o:=1) K4.best;have y2:=Ao (o:=2) K4.best;have y3:=Ao (o:=3) K4.best;have z0:=Ab (o:=0) K4.best rfl;have z1:=Ab (o:=1) K4.best rfl;have z2:=Ab (o:=2) K4.best rfl;have z3:=Ab (o:=3) K4.best rfl;have K5:=K4.put hle s y;unfold Yo;clear K4 F KEEP QA;go_wp2;go_roundw
    case rel=>exact⟨seen ++ [i],some (s,y),rfl,rfl,K5,by rw [hstep];exact Cl.symm,by rintro x hx;simp only [AjR]at hx;rw [←hx];exact⟨FR,HY.out⟩⟩
    case measure=>rw [Dz,Eo K5.iter,List.length_append,List.length_singleton];omega
   | some bh=>
    obtain⟨b,hh⟩:=bh;obtain⟨NS,Yl⟩:=Kf _ rfl;simp only at NS Yl;have pM:Sz (3) hh:=(by rw [Yl];exact ah NS ML.x);have cD:=FW y hh (a:=3) (b:=3) ⟨Zh,pM,by omega,by omega,by omega⟩
    have QA:Sv p (some (b,hh)) s=if AC y hh=0 then (if 0<AV (Ar s.b s.a b.a)then some (s,y)else some (b,hh))else if 0<AC y hh then some (s,y)else some (b,hh):=by rw [HY.out];rfl
    rw [QA]at Cl;obtain⟨xd,sY⟩:=AjJ (AC y hh);rw [←sY]at cD Cl;clear sY QA Yl pM hc;clear K4;unfold Yo;(go_wp2_with fail);(with_reducible refine(cD _ (okV.ext Aj)).mono ?_);rintro e w5 ⟨rfl,An⟩;replace An:=Aj.trans An;clear f1 f2 f3 f4 f5 f6 cD Aj;obtain⟨f1,f2,f3,f4,f5,f6⟩:=F w5 An;have K5:=KEEP w5 An;by_cases a4:xd=0
    ·subst a4;rw [if_pos rfl]at Cl;have cE:=Kj s.b s.a b.a hsk.b hsk.a (NS.sz hk).a hk (by omega);unfold Ag at cE;obtain⟨xe,Ow⟩:=AjJ (AV (Ar s.b s.a b.a));rw [←Ow]at cE Cl;clear Ow;have z0:w5.cell? ⟨bb+1,0,none⟩=some (S (R b.a.x)):=Ab (o:=0) K5.best rfl;have z1:w5.cell? ⟨bb+1,1,none⟩=some (S (R b.a.y)):=Ab (o:=1) K5.best rfl;clear K5;(go_wp2_with fail);(with_reducible refine(cE _ (okV.ext An)).mono ?_);rintro e w6 ⟨rfl,AD⟩;replace AD:=An.trans AD;clear f1 f2 f3 f4 f5 f6 cE An z0 z1;obtain⟨f1,f2,f3,f4,f5,f6⟩:=F w6 AD;have K6:=KEEP w6 AD;by_cases a5:0<xe
     ·have d5:decide (0<xe)=true:=decide_eq_true a5;rw [if_pos a5]at Cl;have y0:=Ao (o:=0) K6.best;have y1:=Ao (o:=1) K6.best;have y2:=Ao (o:=2) K6.best;have y3:=Ao (o:=3) K6.best;have z0:=Ab (o:=0) K6.best rfl;have z1:=Ab (o:=1) K6.best rfl;have z2:=Ab (o:=2) K6.best rfl;have z3:=Ab (o:=3) K6.best rfl;have K9:=K6.put hle s y;clear K6 F KEEP;go_wp2;go_roundw
      case rel=>exact⟨seen ++ [i],some (s,y),rfl,rfl,K9,by rw [hstep];exact Cl.symm,by rintro x hx;simp only [AjR]at hx;rw [←hx];exact⟨FR,HY.out⟩⟩
      case measure=>rw [Dz,Eo K9.iter,List.length_append,List.length_singleton];omega
     ·have d5:decide (0<xe)=false:=decide_eq_false a5;rw [if_neg a5]at Cl;go_wp2;go_roundw
      case rel=>exact⟨seen ++ [i],some (b,hh),rfl,rfl,K6,by rw [hstep];exact Cl.symm,Kf⟩
      case measure=>rw [Dz,Eo K6.iter,List.length_append,List.length_singleton];omega
    ·have d4:decide (xd=0)=false:=decide_eq_false a4;have d4':(xd == 0)=false:=(by simpa using a4);rw [if_neg a4]at Cl;by_cases a5:0<xd
     ·have d5:decide (0<xd)=true:=decide_eq_true a5;rw [if_pos a5]at Cl;have y0:=Ao (o:=0) K5.best;have y1:=Ao (o:=1) K5.best;have y2:=Ao (o:=2) K5.best;have y3:=Ao (o:=3) K5.best;have z0:=Ab (o:=0) K5.best rfl;have z1:=Ab (o:=1) K5.best rfl;have z2:=Ab (o:=2) K5.best rfl;have z3:=Ab (o:=3) K5.best rfl;have K9:=K5.put hle s y;clear K5 F KEEP;go_wp2;go_roundw
      case rel=>exact⟨seen ++ [i],some (s,y),rfl,rfl,K9,by rw [hstep];exact Cl.symm,by rintro x hx;simp only [AjR]at hx;rw [←hx];exact⟨FR,HY.out⟩⟩
      case measure=>rw [Dz,Eo K9.iter,List.length_append,List.length_singleton];omega
     ·have d5:decide (0<xd)=false:=decide_eq_false a5;rw [if_neg a5]at Cl;go_wp2;go_roundw
      case rel=>exact⟨seen ++ [i],some (b,hh),rfl,rfl,K5,by rw [hstep];exact Cl.symm,Kf⟩
      case measure=>rw [Dz,Eo K5.iter,List.length_append,List.length_singleton];omega
end Go.Proofs.YtnfedbopbcegjaaGreatDoor
