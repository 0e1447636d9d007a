/- Z32: Lay M12 M13 M14 M15 M16 M18 M19. -/
import Derived.Test.YtdaefncphfeaeaaGreatDoorZ28
import Derived.Shelf.SlSortCmp.InsertionK
set_option maxRecDepth 100000
set_option maxHeartbeats 4000000
namespace Go.Proofs.YtdaefncphfeaeaaGreatDoor
open Go.RowKit Kl Go.Sort
theorem Xi{w a b:World}{r:Nat}(h:Aa w a)(hg:a.grownBy b (some r))(hr:w.heap.size<=r):Aa w b:=
 ⟨hg.os.trans h.os,hg.tape.trans h.tape,hg.output.trans h.output,Asq h.size hg.size,fun k hk=>(hg.block k (Asp hk h.size) (by simp;omega)).trans (h.block k hk)⟩
section
variable {α : Type} [Inhabited α]
theorem Xp(enc:α→List Value)(k:Nat)(w:World)(blk off m:Nat)(dk:Array α)(os:Array Obj):w.grownBy (sortWorldK enc k w blk off m dk os) (some blk):=by
 refine⟨rfl,rfl,rfl,?_,fun i hi hne=>?_⟩
 ·exact size_sortWorldK_c enc k w blk off m dk os
 ·have hb:i≠blk:=fun e=>hne (by rw [e]);show ((w.heap.modify blk _)++os)[i]?=w.heap[i]?;rw [Array.getElem?_append_left (by simpa using hi),Array.getElem?_modify,if_neg (fun e=>hb e.symm)]
theorem vu{g:Nat}{cb:Array Value}{enc:α→List Value}{k:Nat}{cf:α→α→Int}{blk off size:Nat}{w:World}
  (h:∀W,w.grownBy W (some blk)→∀x y,Calls Tryz.prog g (#[.agg (enc x).toArray,.agg (enc y).toArray]++cb) W (AQ (cf x y) W)):CmpLays Tryz.prog g cb enc k cf blk off size w:=by
 intro m os dk _ x y;refine(Calls.drawn (h _ (Xp enc k w blk off m dk os) x y) (fun e w' h=>⟨_,h.1⟩)).mono ?_;rintro e w' ⟨⟨he,hx⟩,hd⟩;exact⟨he,hx.grow hd⟩
theorem Aog(enc:α→List Value)(k:Nat)(w:World)(blk off m:Nat)(dk:Array α)(os:Array Obj){c:Array Value}{e:TypeId}{fr:Nat×Nat}(h:w.heap[blk]?=some (.cells c e fr)) :
  (sortWorldK enc k w blk off m dk os).heap[blk]?=some (.cells (putCells id off (flatK enc k dk) c) e fr):=by
 have hlt:=Asd h;show ((w.heap.modify blk (onCells (putCells id off (flatK enc k dk))))++os)[blk]?=_;rw [Array.getElem?_append_left (by simpa using hlt),Array.getElem?_modify,if_pos rfl,h]
 rfl
end
theorem eI{α:Type}{enc:α→List Value}{k:Nat}(hk:∀x,(enc x).length=k):∀(l:List α),(l.flatMap enc).length=l.length*k
 | []=>by simp
 | x::l=>by rw [List.flatMap_cons,List.length_append,hk,eI hk l,List.length_cons,Nat.add_mul,Nat.one_mul,Nat.add_comm]
section
variable {α : Type} [Inhabited α] {enc : α → List Value} {k : Nat}
theorem Xl(hk:∀x,(enc x).length=k)(k0:0<k):∀(l:List α) (t:Nat),t<l.length*k→(l.flatMap enc)[t]?=some ((enc l[t/k]!)[t%k]!)
 | [],t,h=>by simp at h
 | x::l,t,h=>by
  rw [List.flatMap_cons];by_cases ht:t<k
  ·rw [List.getElem?_append_left (by rw [hk];exact ht),Nat.div_eq_of_lt ht,Nat.mod_eq_of_lt ht,Asl (by rw [hk];exact ht)];simp [hk,ht]
  ·have e1:t/k=(t-k)/k+1:=by rw [Nat.div_eq_sub_div k0 (by omega)]
   have e2:t%k=(t-k)%k:=by rw [Nat.mod_eq_sub_mod (by omega)]
   have hl:t-k<l.length*k:=by rw [List.length_cons,Nat.add_mul,Nat.one_mul]at h;omega
   rw [List.getElem?_append_right (by rw [hk];omega),hk,Xl hk k0 l (t-k) hl,e1,e2];simp
theorem wM(hk:∀x,(enc x).length=k)(k0:0<k)(d:Array α):(flatK enc k d).toList=d.toList.flatMap enc:=by
 apply List.ext_getElem?;intro t;by_cases ht:t<d.size*k
 ·rw [Xl hk k0 _ _ (by simpa using ht)];have h1:t<(flatK enc k d).toList.length:=(by simpa using ht);have h2:=get_flatK enc k d t ht;rw [Asl h1]
  have h3:(flatK enc k d)[t]! = (flatK enc k d).toList[t]:=by rw [getElem!_pos _ t (by simpa using ht)];simp
  rw [←h3,h2]
  congr 1
  have h4:d[t/k]! = d.toList[t/k]!:=by have hlt:t/k<d.size:=Nat.div_lt_of_lt_mul (by rw [Nat.mul_comm];exact ht);rw [getElem!_pos d _ hlt,getElem!_pos d.toList _ (by simpa using hlt)];simp
  rw [h4]
 ·rw [List.getElem?_eq_none (by simp;omega),List.getElem?_eq_none (by rw [eI hk];simp;omega)]
theorem l9{w:World}{base:Nat}{e:TypeId}{v:Value}{d:Array α}(hk:∀x,(enc x).length=k)(k0:0<k)(h:w.ownsRow base e k v d.size (d.toList.flatMap enc))(hd:0<d.size) :
  ∃g cap,v=.slice (some ⟨g,0,none⟩) d.size cap/\base<=g/\g<w.heap.size/\HoldsK enc k w g 0 d/\v.ownBlock=some g:=by
 rcases h.2 with⟨_,h0⟩|⟨g,cap,cur,rfl,hb,hg,hn,hm,hs,ht⟩
 ·omega
 ·refine⟨g,cap,rfl,hb,Asd hg,?_,rfl⟩;intro j hj;rw [size_flatK]at hj;have Mc:j<d.toList.length*k:=(by simpa using hj);have h1:=Xl hk k0 d.toList j Mc;rw [←wM hk k0]at h1
  have h2:(flatK enc k d)[j]! = (enc d.toList[j/k]!)[j%k]!:=by rw [getElem!_pos _ j (by simpa using hj)];rw [Asl (by simpa using hj),Asj]at h1;rw [←h1];simp
  have h3:cur.toList[j]?=some ((flatK enc k d)[j]!):=by have h4:=Xl hk k0 d.toList j Mc;rw [←ht,List.getElem?_take_of_lt (by rw [Nat.mul_comm]at hj ⊢;omega)]at h4;rw [h4,h2]
  refine⟨?_,?_⟩
  ·rw [Nat.zero_add];refine Ab hg ?_;rw [←Array.getElem?_toList];exact h3
  ·rw [Nat.zero_add];exact An hg
theorem nJ{w:World}{base:Nat}{e:TypeId}{g cap:Nat}{d d':Array α}(hk:∀x,(enc x).length=k)(k0:0<k)(h:w.ownsRow base e k (.slice (some ⟨g,0,none⟩) d.size cap) d.size (d.toList.flatMap enc))(hd:d'.size=d.size)(m:Nat)(os:Array Obj) :
  (sortWorldK enc k w g 0 m d' os).ownsRow base e k (.slice (some ⟨g,0,none⟩) d.size cap) d.size (d'.toList.flatMap enc):=by
 rcases h.2 with⟨h',_⟩|⟨g',cap',cur,hv,hb,hg,hn,hm,hs,ht⟩
 ·cases h'
 ·simp only [Value.slice.injEq,Asj,Addr.mk.injEq,and_true,true_and]at hv;obtain⟨rfl,rfl⟩:=hv;have hF:(flatK enc k d').size=d.size*k:=(by rw [size_flatK,hd]);have hle:d.size*k<=cur.size:=(by rw [hs];exact Nat.mul_le_mul_right k hn);refine⟨?_,.inr ⟨g,cap,_,rfl,hb,Aog enc k w g 0 m d' os hg,hn,hm,?_,?_⟩⟩
  ·rw [eI hk];simp [hd]
  ·unfold putCells;simpa using hs
  ·rw [←wM hk k0];apply List.ext_getElem?;intro t;by_cases Gy:t<d.size*k
   ·rw [List.getElem?_take_of_lt Gy,Array.getElem?_toList];unfold putCells;rw [Array.getElem?_mapIdx,Array.getElem?_eq_getElem (by omega)];simp only [Option.map_some,Nat.zero_le,true_and,Nat.zero_add,Nat.sub_zero];rw [if_pos (by omega),Array.getElem?_toList,Array.getElem?_eq_getElem (by omega)];rw [getElem!_pos _ t (by omega)]
    rfl
   ·rw [List.getElem?_eq_none (by rw [List.length_take];omega),List.getElem?_eq_none (by simp [hd];omega)]
end
def Hn(s t:Sg):Int:=if Bp s.a t.a≠0 then Bp s.a t.a else Bp s.b t.b
theorem Afv(s t:Sg){k:Nat}(hs:DK k s)(ht:DK k t)(hk:0<k)(hk2:k<=400)(w:World)(hw:Ai w) :
  Calls Tryz.prog 197 #[Ax s,Ax t] w (AQ (Hn s t) w):=by
 have c1:=Oe s.a t.a hs.a ht.a hk hk2;have c2:=Oe s.b t.b hs.b ht.b hk hk2;have hE:=((Aa.refl w).alloc (.cells #[S (R s.a.x),S (R s.a.y),S (R s.b.x),S (R s.b.y)] 183)).alloc (.cells #[S (R t.a.x),S (R t.a.y),S (R t.b.x),S (R t.b.y)] 183);obtain⟨x,hx0⟩:=AcG (Bp s.a t.a);obtain⟨y,Ba⟩:=AcG (Bp s.b t.b)
 have hr:Hn s t=if x≠0 then x else y:=by rw [hx0,Ba];rfl
 rw [hr];rw [←hx0]at c1;rw [←Ba]at c2
 have hA:(w.alloc (.cells #[S (R s.a.x),S (R s.a.y),S (R s.b.x),S (R s.b.y)] 183)).alloc (.cells #[S (R t.a.x),S (R t.a.y),S (R t.b.x),S (R t.b.y)] 183) |>.heap[w.heap.size]?=some (.cells #[S (R s.a.x),S (R s.a.y),S (R s.b.x),S (R s.b.y)] 183):=(Below.heap_alloc _ _ _ (by simp)).trans (Ase w _)
 have hB:=Ase (w.alloc (.cells #[S (R s.a.x),S (R s.a.y),S (R s.b.x),S (R s.b.y)] 183)) (.cells #[S (R t.a.x),S (R t.a.y),S (R t.b.x),S (R t.b.y)] 183);rw [Asn]at hB;obtain⟨r,EZ⟩:=AcG (if x≠0 then x else y:Int);rw [←EZ]
 have PC:∀(b o:Nat) (w:World),w.cell? ⟨b,o,none⟩=some (.int .i64 x)→w.cell? ⟨b,o+1,none⟩=some (.int .i64 y)→Calls Tryz.prog 176 #[.slice (some ⟨b,o,none⟩) 2 2] w (AQ r w):=by intro b o w h1 h2;rw [EZ];exact Z0 x y b o w h1 h2
 unfold Ak at c1 c2;unfold Ax;clear hs ht hr hx0 Ba EZ;go_enter Tryz.func197,Tryz.ntmps197
 go_upto_region 1 with fail
 generalize (w.alloc (.cells #[S (R s.a.x),S (R s.a.y),S (R s.b.x),S (R s.b.y)] 183)).alloc (.cells #[S (R t.a.x),S (R t.a.y),S (R t.b.x),S (R t.b.y)] 183)=V at *;have hs:=hE.size;obtain⟨ba,Bj⟩:=AcG w.heap.size;rw [←Bj]at hA hB ⊢;clear Bj hs
 have SO:∀w',Aa V w'→(w'.cell? ⟨ba,0,none⟩=some (S (R s.a.x))/\w'.cell? ⟨ba,1,none⟩=some (S (R s.a.y))/\w'.cell? ⟨ba,2,none⟩=some (S (R s.b.x))/\w'.cell? ⟨ba,3,none⟩=some (S (R s.b.y))/\w'.cell? ⟨ba+1,0,none⟩=some (S (R t.a.x))/\w'.cell? ⟨ba+1,1,none⟩=some (S (R t.a.y))/\w'.cell? ⟨ba+1,2,none⟩=some (S (R t.b.x))/\w'.cell? ⟨ba+1,3,none⟩=some (S (R t.b.y))):=fun w' h=>⟨h.cellS (Ab hA rfl),h.cellS (Ab hA rfl),h.cellS (Ab hA rfl),h.cellS (Ab hA rfl),h.cellS (Ab hB rfl),h.cellS (Ab hB rfl),h.cellS (Ab hB rfl),h.cellS (Ab hB rfl)⟩
 have X0:Aa V V.drew:=(Aa.refl V).drew;have hV:=hw.ext hE;clear hA hB
 go_region_held3 (fun w'=>w'.cell? ⟨ba,0,none⟩=some (S (R s.a.x))/\w'.cell? ⟨ba,1,none⟩=some (S (R s.a.y))/\w'.cell? ⟨ba,2,none⟩=some (S (R s.b.x))/\w'.cell? ⟨ba,3,none⟩=some (S (R s.b.y))/\w'.cell? ⟨ba+1,0,none⟩=some (S (R t.a.x))/\w'.cell? ⟨ba+1,1,none⟩=some (S (R t.a.y))/\w'.cell? ⟨ba+1,2,none⟩=some (S (R t.b.x))/\w'.cell? ⟨ba+1,3,none⟩=some (S (R t.b.y)))
  (first|with_reducible exact SO _ X0|with_reducible exact SO _ X5|with_reducible exact SO _ X6|with_reducible exact SO _ X7|with_reducible exact SO _ (X6.alloc _))
  (first|((with_reducible refine(c1 _ (hV.ext X0)).mono ?_);rintro e w5 ⟨rfl,Ae⟩;have X5:Aa V w5:=X0.trans Ae)|((with_reducible refine(c2 _ (hV.ext X5)).mono ?_);rintro e w6 ⟨rfl,Ao⟩;have X6:Aa V w6:=X5.trans Ao;have EC:=Ase w6 (.cells #[.int .i64 x,.int .i64 y] 3);have g0:=Ab (o:=0) EC rfl;have g1:=Ab (o:=1) EC rfl;clear EC)|((with_reducible refine(PC w6.heap.size 0 _ g0 g1).mono ?_);rintro e w7 ⟨rfl,Aj⟩;have X7:Aa V w7:=(X6.alloc _).trans Aj))
 go_wp2;go_ret;exact⟨rfl,hE.trans X7⟩
theorem WT(p q:Rat):AD p q<0↔p<q:=by unfold AD;grind
theorem dS(p q:Rat):AD p q=0↔p=q:=by unfold AD;grind
theorem Ak9(a b:Pt):Bp a b=0↔a.x=b.x/\a.y=b.y:=by
 unfold Bp;have h1:=dS a.x b.x;have h2:=dS a.y b.y
 split<;>grind
theorem wm(a b:Pt):Bp a b<0↔a.x<b.x∨(a.x=b.x/\a.y<b.y):=by
 unfold Bp;have h1:=dS a.x b.x;have h2:=WT a.x b.x;have h3:=WT a.y b.y
 split<;>grind
theorem Rs(s t:Sg):Hn s t<0↔s.a.x<t.a.x∨(s.a.x=t.a.x/\(s.a.y<t.a.y∨(s.a.y=t.a.y/\(s.b.x<t.b.x∨(s.b.x=t.b.x/\s.b.y<t.b.y))))):=by
 unfold Hn;have h1:=Ak9 s.a t.a;have h2:=wm s.a t.a;have h3:=wm s.b t.b
 split<;>grind
def S9(s:Sg):Prop:=DK 200 s
theorem AnU:S9 ⟨⟨0,0⟩,⟨0,0⟩⟩:=by
 have h:Sz 200 (0:Rat):=(by constructor<;>decide +kernel);exact⟨⟨h,h⟩,⟨h,h⟩⟩
abbrev Way:={s:Sg // S9 s}
instance:Inhabited Way:=⟨⟨_,AnU⟩⟩
def IT(s t:Way):Int:=Hn s.1 t.1
theorem AbP(s t:Way):ltOf IT s t=true↔s.1.a.x<t.1.a.x∨(s.1.a.x=t.1.a.x/\(s.1.a.y<t.1.a.y∨(s.1.a.y=t.1.a.y/\(s.1.b.x<t.1.b.x∨(s.1.b.x=t.1.b.x/\s.1.b.y<t.1.b.y))))):=by
 unfold ltOf IT;rw [decide_eq_true_iff];exact Rs _ _
theorem pK(s t:Way):ltOf IT s t=false↔¬(s.1.a.x<t.1.a.x∨(s.1.a.x=t.1.a.x/\(s.1.a.y<t.1.a.y∨(s.1.a.y=t.1.a.y/\(s.1.b.x<t.1.b.x∨(s.1.b.x=t.1.b.x/\s.1.b.y<t.1.b.y)))))):=by
 rw [←AbP];simp
theorem AbQ:SWO (ltOf IT) where
 irrefl x:=by rw [pK];grind
 trans x y z h1 h2:=by rw [AbP]at *;grind
 ntrans x y z h1 h2:=by rw [pK]at *;grind
theorem Apa(x y:Way)(h1:ltOf IT x y=false)(h2:ltOf IT y x=false):x=y:=by
 rw [pK]at h1 h2;obtain⟨⟨⟨a,b⟩,⟨c,d⟩⟩,hx⟩:=x;obtain⟨⟨⟨a',b'⟩,⟨c',d'⟩⟩,hy⟩:=y;simp only [Subtype.mk.injEq,Sg.mk.injEq,Pt.mk.injEq]at *
 grind
def Hz(s:Way):List Value:=[S (R s.1.a.x),S (R s.1.a.y),S (R s.1.b.x),S (R s.1.b.y)]
theorem Xh(s:Way):(Hz s).length=4:=rfl
theorem Ags(s:Way):∀v∈Hz s,v.oneCell'=true:=by
 intro v hv;simp only [Hz,List.mem_cons,Asr,or_false]at hv
 rcases hv with rfl|rfl|rfl|rfl<;>rfl
theorem AoZ{w0 w:World}(hw:Ai w0)(hx:Aa w0 w){blk:Nat}(hb:w0.heap.size<=blk)(off size:Nat):CmpLays Tryz.prog 197 #[] Hz 4 IT blk off size w:=by
 refine vu fun W hg x y=>?_;have h:=Afv x.1 y.1 x.2 y.2 (by omega) (by omega) W (hw.ext (Xi hx hg hb));exact h
end Go.Proofs.YtdaefncphfeaeaaGreatDoor
namespace Go.Proofs.YtdaefncphfeaeaaGreatDoor
open Go.RowKit Kl
def BX(s:Sg)(x:Rat):Rat:=s.a.y+(x-s.a.x)/(s.b.x-s.a.x)*(s.b.y-s.a.y)
theorem Air(s:Sg)(x:Rat){k:Nat}(hs:DK k s)(hx:Sz k x)(hk:0<k)(hk2:k<=400)(h0:s.b.x≠s.a.x)(w:World)(hw:Ai w) :
  Calls Tryz.prog 237 #[Ax s,S (R x)] w (A0 (R (BX s x)) w):=by
 have s1:=BS x s.a.x (a:=k) (b:=k) ⟨hx,hs.a.x,hk,hk,by omega⟩;have s2:=BS s.b.x s.a.x (a:=k) (b:=k) ⟨hs.b.x,hs.a.x,hk,hk,by omega⟩;have dv:=PI (x-s.a.x) (s.b.x-s.a.x) (by grind) (a:=k+k+1) (b:=k+k+1) ⟨hx.sub hs.a.x,hs.b.x.sub hs.a.x,by omega,by omega,by omega⟩;have s3:=BS s.b.y s.a.y (a:=k) (b:=k) ⟨hs.b.y,hs.a.y,hk,hk,by omega⟩;have mu:=Io ((x-s.a.x)/(s.b.x-s.a.x)) (s.b.y-s.a.y) (a:=k+k+1+(k+k+1)) (b:=k+k+1) ⟨(hx.sub hs.a.x).div (by omega) (hs.b.x.sub hs.a.x),hs.b.y.sub hs.a.y,by omega,by omega,by omega⟩;have ad:=Ol s.a.y ((x-s.a.x)/(s.b.x-s.a.x)*(s.b.y-s.a.y)) (a:=k) (b:=k+k+1+(k+k+1)+(k+k+1)) ⟨hs.a.y,((hx.sub hs.a.x).div (by omega) (hs.b.x.sub hs.a.x)).mul (hs.b.y.sub hs.a.y),by omega,by omega,by omega⟩;have e:BX s x=s.a.y+(x-s.a.x)/(s.b.x-s.a.x)*(s.b.y-s.a.y):=rfl;rw [←e]at ad;obtain⟨r,hr⟩:=AcG (BX s x);rw [←hr]at ad ⊢;unfold Ax;unfold GQ at dv;clear hs hx e hr;go_enter Tryz.func237,Tryz.ntmps237
 go_upto_region 1 with fail
 have hb:=Ase w (.cells #[S (R s.a.x),S (R s.a.y),S (R s.b.x),S (R s.b.y)] 183);have hE:=(Aa.refl w).alloc (.cells #[S (R s.a.x),S (R s.a.y),S (R s.b.x),S (R s.b.y)] 183);obtain⟨W,hW⟩:=AcG (w.alloc (.cells #[S (R s.a.x),S (R s.a.y),S (R s.b.x),S (R s.b.y)] 183));rw [←hW]at hb hE ⊢;clear hW;obtain⟨ba,Bj⟩:=AcG w.heap.size;rw [←Bj]at hb ⊢;clear Bj
 have SO:∀w',Aa W w'→(w'.cell? ⟨ba,0,none⟩=some (S (R s.a.x))/\w'.cell? ⟨ba,1,none⟩=some (S (R s.a.y))/\w'.cell? ⟨ba,2,none⟩=some (S (R s.b.x))/\w'.cell? ⟨ba,3,none⟩=some (S (R s.b.y))):=fun w' h=>⟨h.cellS (Ab hb rfl),h.cellS (Ab hb rfl),h.cellS (Ab hb rfl),h.cellS (Ab hb rfl)⟩
 have Dm:=hw.ext hE;have X:Aa W W:=Aa.refl W;clear hb
 go_region_held3 (fun w'=>w'.cell? ⟨ba,0,none⟩=some (S (R s.a.x))/\w'.cell? ⟨ba,1,none⟩=some (S (R s.a.y))/\w'.cell? ⟨ba,2,none⟩=some (S (R s.b.x))/\w'.cell? ⟨ba,3,none⟩=some (S (R s.b.y)))
  (first|with_reducible exact SO _ X|with_reducible exact SO _ X.drew)
  (first|((with_reducible refine(s1 _ (Dm.ext (by first|exact X|exact X.drew))).mono ?_);rintro e w1 ⟨rfl,hx1⟩;replace X:Aa W w1:=(by first|exact X.trans hx1|exact X.drew.trans hx1))|((with_reducible refine(s2 _ (Dm.ext (by first|exact X|exact X.drew))).mono ?_);rintro e w1 ⟨rfl,hx1⟩;replace X:Aa W w1:=(by first|exact X.trans hx1|exact X.drew.trans hx1))|((with_reducible refine(dv _ (Dm.ext (by first|exact X|exact X.drew))).mono ?_);rintro e w1 ⟨rfl,hx1⟩;replace X:Aa W w1:=(by first|exact X.trans hx1|exact X.drew.trans hx1)))
 go_upto_region 2 with fail
 go_region_held3 (fun w'=>w'.cell? ⟨ba,0,none⟩=some (S (R s.a.x))/\w'.cell? ⟨ba,1,none⟩=some (S (R s.a.y))/\w'.cell? ⟨ba,2,none⟩=some (S (R s.b.x))/\w'.cell? ⟨ba,3,none⟩=some (S (R s.b.y)))
  (first|with_reducible exact SO _ X|with_reducible exact SO _ X.drew)
  (first|((with_reducible refine(s3 _ (Dm.ext (by first|exact X|exact X.drew))).mono ?_);rintro e w1 ⟨rfl,hx1⟩;replace X:Aa W w1:=(by first|exact X.trans hx1|exact X.drew.trans hx1))|((with_reducible refine(mu _ (Dm.ext (by first|exact X|exact X.drew))).mono ?_);rintro e w1 ⟨rfl,hx1⟩;replace X:Aa W w1:=(by first|exact X.trans hx1|exact X.drew.trans hx1))|((with_reducible refine(ad _ (Dm.ext (by first|exact X|exact X.drew))).mono ?_);rintro e w1 ⟨rfl,hx1⟩;replace X:Aa W w1:=(by first|exact X.trans hx1|exact X.drew.trans hx1)))
 go_wp2;go_ret;exact⟨rfl,hE.trans X⟩
theorem AnM(l:List Sg):(Cb l).length=l.length*4:=by
 induction l with
 | nil=>rfl
 | cons e l ih=>unfold Cb at *;simp only [List.flatMap_cons,List.length_append,ih,List.length_cons,List.length_nil];omega
theorem AaT:∀(l:List Sg) (j:Nat) (h:j<l.length),(Cb l)[j*4]?=some (S (R l[j].a.x))/\(Cb l)[j*4+1]?=some (S (R l[j].a.y))/\(Cb l)[j*4+2]?=some (S (R l[j].b.x))/\(Cb l)[j*4+3]?=some (S (R l[j].b.y))
 | e::l,0,_=>⟨rfl,rfl,rfl,rfl⟩
 | e::l,j+1,h=>by
  have ih:=AaT l j (by simpa using h);have e0:Cb (e::l)=S (R e.a.x)::S (R e.a.y)::S (R e.b.x)::S (R e.b.y)::Cb l:=rfl;rw [e0];have e1:(j+1)*4=j*4+1+1+1+1:=(by omega);rw [e1]
  simpa using ih
theorem RH{w:World}{A:Option Addr}{l:List Sg}(hr:Am w A (Cb l)){j:Nat}(h:j<l.length):∃b o,A=some ⟨b,o,none⟩/\w.cell? ⟨b,o+j*4,none⟩=some (S (R l[j].a.x))/\w.cell? ⟨b,o+j*4+1,none⟩=some (S (R l[j].a.y))/\w.cell? ⟨b,o+j*4+2,none⟩=some (S (R l[j].b.x))/\w.cell? ⟨b,o+j*4+3,none⟩=some (S (R l[j].b.y)):=by
 have hl:=AnM l;obtain⟨b,o,e,hcs⟩:=hr.ad (by omega);obtain⟨f1,f2,f3,f4⟩:=AaT l j h;have g1:=hcs (j*4) (by omega);have g2:=hcs (j*4+1) (by omega);have g3:=hcs (j*4+2) (by omega);have g4:=hcs (j*4+3) (by omega);rw [Asl (by omega),Asj]at f1 f2 f3 f4;rw [f1]at g1;rw [f2,←Nat.add_assoc]at g2;rw [f3,←Nat.add_assoc]at g3;rw [f4,←Nat.add_assoc]at g4;exact⟨b,o,e,g1,g2,g3,g4⟩
def G8(p:Pt)(l:List Sg):Rat:=l.foldl (fun s e=>s+Aw p e.a e.b) 0
def MV:List Sg→Rat
 | []=>0
 | e::l=>G8 e.a (e::l)
theorem Aew(p:Pt)(l:List Sg)(e:Sg):G8 p (l ++ [e])=G8 p l+Aw p e.a e.b:=by simp [G8]
theorem sX(p:Pt)(l:List Sg){j:Nat}(h:j<l.length):G8 p (l.take (j+1))=G8 p (l.take j)+Aw p l[j].a l[j].b:=by
 rw [Asi h,Aew]
theorem Aex(l:List Sg)(h:0<l.length):MV l=G8 l[0].a l:=by
 cases l with
 | nil=>simp at h
 | cons e l=>rfl
theorem Aey(l:List Sg)(A:Option Addr)(c:Nat){k K:Nat}(hl:∀e∈l,DK k e)(hk:0<k)(hk2:k<=400)(hK:0<K)(hK2:K<=2000)(h0:0<l.length)
  (hS:∀j,j<=l.length→Sz K (G8 l[0].a (l.take j))) (hA:∀j (h:j<l.length),Sz (K-100) (Aw l[0].a l[j].a l[j].b)) (hc:l.length<=c) (hcm:c<=9223372036854775807) (hK3:100<K) (w:World) (hw:Ai w) (hr:Am w A (Cb l)) :
  Calls Tryz.prog 200 #[.slice A l.length c] w (A0 (R (MV l)) w):=by
 obtain⟨b,o,rfl,q1,q2,-,-⟩:=RH hr h0;rw [Aex l h0];obtain⟨r,hr0⟩:=AcG (G8 l[0].a l);rw [←hr0];obtain⟨p,hp⟩:=AcG (l[0].a);have Uz:Aq k p:=(by rw [hp];exact(hl _ (Asg h0)).a);rw [←hp]at hr0 hS hA q1 q2;have HR:=Asb hr0;clear hr0 hp;rw [Nat.zero_mul,Nat.add_zero]at q1 q2;go_enter Tryz.func200,Tryz.ntmps200
 go_upto_region 3 with fail
 go_loopw [3,8] (fun s i wr=>∃j:Nat,i=.int .i64 (j:Nat)/\s=S (R (G8 p (l.take j)))/\j<=l.length/\Aa w wr) (fun _ i _=>l.length-(intOf i).toNat)
 case atStart=>exact⟨0,rfl,by rw [List.take_zero];show _=S (R 0);rw [G7],by omega,Aa.refl _⟩
 case round=>
  obtain⟨j,rfl,rfl,hj,Ac⟩:=hrel;by_cases hlt:j<l.length
  ·obtain⟨b',o',TI,g1,g2,g3,g4⟩:=RH (hr.ext Ac) hlt;simp only [Asj,Addr.mk.injEq,and_true]at TI;obtain⟨rfl,rfl⟩:=TI;have p1:=Ac.cellS q1;have p2:=Ac.cellS q2;have ez:=hl _ (Asg hlt);have ar:=zw p l[j].a l[j].b Uz ez.a ez.b hk hk2;have ad:=Ol (G8 p (l.take j)) (Aw p l[j].a l[j].b) (a:=K) (b:=K-100) ⟨hS j hj,hA j hlt,hK,by omega,by omega⟩;rw [←sX p l hlt]at ad;obtain⟨e,he⟩:=AcG (l[j]);rw [←he]at g1 g2 g3 g4 ar ad;have hj0:(0:Int)<=(j:Int):=(by omega);have hl0:(0:Int)<(l.length:Int):=(by omega);have AG:(j:Int)<(l.length:Int):=(by omega);clear ez he;obtain⟨s,hs⟩:=AcG (G8 p (l.take j));obtain⟨s',hs'⟩:=AcG (G8 p (l.take (j+1)));rw [←hs,←hs']at ad;rw [←hs];have HS':=Asb hs';clear hs hs' hS hA hl q1 q2;unfold Ak at ar
   go_upto_region 5 with fail
   have hb:=Ase wr (.cells #[S (R e.a.x),S (R e.a.y),S (R e.b.x),S (R e.b.y)] 183);have hE:=(Aa.refl wr).alloc (.cells #[S (R e.a.x),S (R e.a.y),S (R e.b.x),S (R e.b.y)] 183);unfold S at hb hE;generalize (wr.alloc (.cells #[.string ⟨(R e.a.x).toArray⟩,.string ⟨(R e.a.y).toArray⟩,.string ⟨(R e.b.x).toArray⟩,.string ⟨(R e.b.y).toArray⟩] 183))=W at *;obtain⟨be,Bu⟩:=AcG wr.heap.size;rw [←Bu]at hb ⊢;clear Bu
   have SO:∀w',Aa W w'→(w'.cell? ⟨b,o,none⟩=some (S (R p.x))/\w'.cell? ⟨b,o+1,none⟩=some (S (R p.y))/\w'.cell? ⟨be,0,none⟩=some (S (R e.a.x))/\w'.cell? ⟨be,1,none⟩=some (S (R e.a.y))/\w'.cell? ⟨be,2,none⟩=some (S (R e.b.x))/\w'.cell? ⟨be,3,none⟩=some (S (R e.b.y))):=fun w' h=>⟨h.cellS (hE.cellS p1),h.cellS (hE.cellS p2),h.cellS (Ab hb rfl),h.cellS (Ab hb rfl),h.cellS (Ab hb rfl),h.cellS (Ab hb rfl)⟩
   have Dm:=(hw.ext Ac).ext hE;have hx0:=Ac.trans hE;have X:Aa W W:=Aa.refl W;clear hb p1 p2 g1 g2 g3 g4
   go_region_held3 (fun w'=>w'.cell? ⟨b,o,none⟩=some (S (R p.x))/\w'.cell? ⟨b,o+1,none⟩=some (S (R p.y))/\w'.cell? ⟨be,0,none⟩=some (S (R e.a.x))/\w'.cell? ⟨be,1,none⟩=some (S (R e.a.y))/\w'.cell? ⟨be,2,none⟩=some (S (R e.b.x))/\w'.cell? ⟨be,3,none⟩=some (S (R e.b.y)))
    (first|with_reducible exact SO _ X|with_reducible exact SO _ X.drew)
    (first|((with_reducible refine(ar _ (Dm.ext (by first|exact X|exact X.drew))).mono ?_);rintro e w1 ⟨rfl,hx1⟩;replace X:Aa W w1:=(by first|exact X.trans hx1|exact X.drew.trans hx1))|((with_reducible refine(ad _ (Dm.ext (by first|exact X|exact X.drew))).mono ?_);rintro e w1 ⟨rfl,hx1⟩;replace X:Aa W w1:=(by first|exact X.trans hx1|exact X.drew.trans hx1)))
   go_wp2;go_roundw
   case rel=>exact⟨j+1,by go_num,by rw [HS'.out],hlt,hx0.trans X⟩
   case measure=>simp [intOf];omega
  ·have hjn:j=l.length:=(by omega);have e:G8 p (l.take j)=r:=(by rw [HR.out,hjn,List.take_length]);rw [e];have hle:(l.length:Int)<=(j:Int):=(by omega);go_wp2;go_ret;exact⟨rfl,Ac⟩
theorem Fh.look{E:List (Pt×Value×Nat)}{R0:List (Pt×List Pt)}{B:Nat}{W:World}{b2:Nat}(h:Fh B W b2 E R0)(p:Pt){e:Pt×List Pt}(hf:R0.find? (fun e=>Ar p e.1)=some e) :
  ∃A c,Le Ar (.slice none 0 0) p E=.slice A e.2.length c/\Am W A (flat (AI e.2))/\e.2.length<=c/\c<=9223372036854775807:=by
 have Gs:=eH h.len (fun i h1 h2=>(h.row i h1 h2).1) p;obtain⟨h3,j,hj',h4,h5⟩:=List.find?_eq_some_iff_getElem.1 hf
 have hfj:R0.findIdx? (fun e=>Ar p e.1)=some j:=by rw [List.findIdx?_eq_some_iff_getElem];exact⟨hj',by rw [h4];exact h3,fun i hi=>by have:=h5 i hi;simpa using this⟩
 rw [hfj,List.findIdx?_eq_some_iff_getElem]at Gs;obtain⟨hj,h1,h2⟩:=Gs
 have e1:E.find? (fun e=>Ar p e.1)=some E[j]:=by rw [List.find?_eq_some_iff_getElem];exact⟨h1,j,hj,rfl,fun i hi=>by have:=h2 i hi;simpa using this⟩
 have ho:=(h.row j hj hj').2.2;rw [h4]at ho;obtain⟨A,c,hv,hr,g1,g2⟩:=Am.of_own' (by omega) ho;refine⟨A,c,?_,hr,g1,g2⟩;unfold Le;rw [e1];exact hv
theorem Aln{j n:Nat}(h:j<n):∃m:Nat,m<n/\m=(j+n-1)%n/\Int.tmod ((j:Int)+n-1) n=(m:Int):=by
 refine⟨(j+n-1)%n,Nat.mod_lt _ (by omega),rfl,?_⟩;have e:(j:Int)+n-1=((j+n-1:Nat):Int):=(by omega);rw [e];exact(Int.ofNat_tmod _ _).symm
theorem Alm{B:Nat}{w:World}{r b1 b2:Nat}{L:List (Sg×Int)}{E:List (Pt×Value×Nat)}{R0:List (Pt×List Pt)}(h:Cl B w r b1 b2 L E R0)(s:Sg){e:Pt×List Pt}(hf:R0.find? (fun e=>Ar s.b e.1)=some e){j m:Nat}(hj:j<e.2.length)(hi:FV e.2 s.a=(j:Int))(hm:m<e.2.length)(Hk:m=(j+e.2.length-1)%e.2.length)(hn:e.2.length<100000) :
  Calls Tryz.prog 198 #[.pointer (some ⟨r,0,none⟩),Ax s] w (Bg (Ax ⟨s.b,e.2[m]⟩) w):=by
 obtain⟨A,c,hv,AU,hc1,hc2⟩:=h.ar.look s.b hf;obtain⟨m',hm',hme,htm⟩:=Aln hj;rw [←Hk]at hme;subst hme;clear hm' Hk;obtain⟨p,hp⟩:=AcG (e.2[m']);rw [←hp];have ix:=fun W (hE:Aa w W)=>uw e.2 s.a A c W (AU.ext hE) hc1 hc2;rw [hi]at ix;have hE:=((Aa.refl w).alloc (.cells #[S (R s.a.x),S (R s.a.y),S (R s.b.x),S (R s.b.y)] 183)).alloc (.cells #[S [],S [],S [],S []] 183);have hb1:=(Below.heap_alloc (w.alloc (.cells #[S (R s.a.x),S (R s.a.y),S (R s.b.x),S (R s.b.y)] 183)) (.cells #[S [],S [],S [],S []] 183) w.heap.size (by simp)).trans (Ase w (.cells #[S (R s.a.x),S (R s.a.y),S (R s.b.x),S (R s.b.y)] 183));have hb2:=Ase (w.alloc (.cells #[S (R s.a.x),S (R s.a.y),S (R s.b.x),S (R s.b.y)] 183)) (.cells #[S [],S [],S [],S []] 183);rw [Asn]at hb2;obtain⟨b',o',hA,g1,g2⟩:=BO AU hm;have hlt:=World.block_lt_of_cell? w _ g1;simp only at hlt;replace g1:=hE.cellS g1;replace g2:=hE.cellS g2;have hN:=h.ext hE;rw [←hp]at g1 g2;obtain⟨n,FT⟩:=AcG e.2.length;rw [←FT]at hj htm hv hn hc1 ix hm;clear hp hf FT AU;unfold Ax;go_enter Tryz.func198,Tryz.ntmps198
 go_upto_region 1 with fail
 rw [show (⟨#[]⟩:ByteArray)=⟨([]:Bs).toArray⟩from rfl];generalize (w.alloc (.cells #[S (R s.a.x),S (R s.a.y),S (R s.b.x),S (R s.b.y)] 183)).alloc (.cells #[S [],S [],S [],S []] 183)=V at *;obtain⟨bb,BA⟩:=AcG w.heap.size;have hle:w.heap.size<=bb+1:=(by omega);rw [←BA]at hb1 hb2 hlt ⊢;have AiV:¬(b'=bb+1):=(by omega);have IB:¬(bb+1=b'):=(by omega);clear BA;have q2:∀q:Ad V,q.w.cell? ⟨r,1,none⟩=some (.map (some b2)):=Ad.cell (Ab hN.cell rfl);have q3:∀q:Ad V,q.w.cell? ⟨bb,2,none⟩=some (S (R s.b.x)):=Ad.cell (Ab hb1 rfl);have q4:∀q:Ad V,q.w.cell? ⟨bb,3,none⟩=some (S (R s.b.y)):=Ad.cell (Ab hb1 rfl)
 have q5:∀q:Ad V,(Instr.lookup 109 (.map (some b2)) (Ak s.b) false).run Tryz.prog q.w=.ok (.slice A n c) q.w:=fun q=>by rw [ZQ UP s.b E (W:=q.w) ((q.h.block b2 hN.ar.lt).trans hN.ar.blk),hv]
 unfold Ak at q5 ix;refine Bi (by kernel_rfl) (by kernel_rfl) ?_
 repeat (go_big_quiet_step (fail))
 refine wpQuiet_nil ?_;rintro _ ⟨q,rfl⟩;obtain⟨W1,hx1⟩:=q;have k1:=hx1.cellS (Ab (o:=0) hb1 rfl);have k2:=hx1.cellS (Ab (o:=1) hb1 rfl);have mI:=ix W1 (hE.trans hx1);rw [hA]at mI hv;simp only;clear ix;(go_wp2_with fail);(with_reducible refine mI.mono ?_);rintro e w2 ⟨rfl,hx2⟩;replace hx2:=hx1.trans hx2;have B8:=(hx2.block _ (Asd hb1)).trans hb1;have BR:=(hx2.block _ (Asd hb2)).trans hb2;have f1:=hx2.cellS g1;have f2:=hx2.cellS g2;have e1:=Ab (o:=2) B8 rfl;have e2:=Ab (o:=3) B8 rfl;have y0:=An (o:=0) BR;have y1:=An (o:=1) BR;have y2:=An (o:=2) BR;have y3:=An (o:=3) BR;have z0:=Ab (o:=0) BR rfl;have z1:=Ab (o:=1) BR rfl;have z2:=Ab (o:=2) BR rfl;have z3:=Ab (o:=3) BR rfl;clear k1 k2 q2 q3 q4 q5 hN h g1 g2 mI;have FS:(n:Int)≠0:=(by omega);have Df:¬n=0:=(by omega);have a1:IntKind.i64.wrap ((j:Int)+n)=(j:Int)+n:=Asm _ (by omega);have a2:IntKind.i64.wrap ((j:Int)+n-1)=(j:Int)+n-1:=Asm _ (by omega);have a3:IntKind.i64.wrap (m':Int)=(m':Int):=Asm _ (by omega);have a4:(0:Int)<=(m':Int):=(by omega);have a5:(m':Int)<(n:Int):=by omega
 go_upto_region 3 with fail
 go_region_held3 (fun w'=>w'.cell? ⟨bb,2,none⟩=some (S (R s.b.x))/\w'.cell? ⟨bb,3,none⟩=some (S (R s.b.y))/\w'.cell? ⟨b',o'+m'*2,none⟩=some (S (R p.x))/\w'.cell? ⟨b',o'+m'*2+1,none⟩=some (S (R p.y)))
  (first|go_keep|(simp [World.cell?_setCell,AiV,IB];go_keep)) (fail)
 have hq:=Qn (S (R s.b.x)) (S (R s.b.y)) (S (R p.x)) (S (R p.y)) BR;have q0:=(Aa.refl _).drew.cellS (Ab (o:=0) hq rfl);have q1:=(Aa.refl _).drew.cellS (Ab (o:=1) hq rfl);have q2:=(Aa.refl _).drew.cellS (Ab (o:=2) hq rfl);have q3:=(Aa.refl _).drew.cellS (Ab (o:=3) hq rfl);clear hq;go_wp2;refine bodyPost_ret (v:=.agg #[S (R s.b.x),S (R s.b.y),S (R p.x),S (R p.y)]) (by simp [results,Tryz.results198,go_sem,q0,q1,q2,q3]) rfl ?_;have Hd:=hE.trans hx2;exact⟨rfl,((((Hd.setCell (p:=⟨bb+1,0,none⟩) hle _).setCell (p:=⟨bb+1,1,none⟩) hle _).setCell (p:=⟨bb+1,2,none⟩) hle _).setCell (p:=⟨bb+1,3,none⟩) hle _).drew⟩
section
open Go.ChangeMaps (setBlock)
section
variable {α : Type} (enc : α → Value)
structure F7(W:World)(r b:Nat)(E:List (α×Value×Nat))(seen:List Nat):Prop where
 it:W.heap[r]?=some (.mapIter (some b) E.length seen.toArray E.length)
 nd:seen.Nodup
 lt:∀i∈seen,i<E.length
theorem F7.range{W:World}{b:Nat}{E:List (α×Value×Nat)}{t k e:TypeId}(ht:Tryz.prog.underlying t=some (.map k e))(hb:W.heap[b]?=some (.map (AK enc E).toArray E.length)) :
  (Instr.range t (.map (some b))).run Tryz.prog W=.ok (.pointer (some ⟨W.heap.size,0,none⟩)) (W.alloc (.mapIter (some b) E.length #[] E.length))/\F7 (W.alloc (.mapIter (some b) E.length #[] E.length)) W.heap.size b E []:=
 ⟨run_range_map W t k e b _ _ ht hb,Ase _ _,List.nodup_nil,by simp⟩
theorem F7.keep{W W':World}{r b:Nat}{E:List (α×Value×Nat)}{seen:List Nat}(h:F7 W r b E seen)(hk:W'.heap[r]?=W.heap[r]?):F7 W' r b E seen:=⟨hk.trans h.it,h.nd,h.lt⟩
theorem Agu{E:List (α×Value×Nat)}(hst:∀i (h:i<E.length),E[i].2.2=i):(AK enc E).map (·.born)=List.range E.length:=by
 apply List.ext_getElem
 ·simp [AK]
 ·intro i h1 h2;simp [AK]at h1 ⊢;exact hst i h1
theorem F7.next{W:World}{r b:Nat}{E:List (α×Value×Nat)}{seen:List Nat}(h:F7 W r b E seen)(hb:W.heap[b]?=some (.map (AK enc E).toArray E.length))(hst:∀i (h:i<E.length),E[i].2.2=i)(hne:r≠b)(ty:TypeId) :
  (seen.length=E.length/\(Instr.next (.pointer (some ⟨r,0,none⟩)) false ty).run Tryz.prog W=.ok (.tuple #[.bool false]) W)∨
  ∃i,∃hi:i<E.length,i∉seen/\∃W',F7 W' r b E (seen ++ [i])/\W.grownBy W' (some r)/\W'.heap.size=W.heap.size/\
   (Instr.next (.pointer (some ⟨r,0,none⟩)) false ty).run Tryz.prog W=.ok (.tuple #[.bool true,enc E[i].1,E[i].2.1]) W'/\
   (∀V,V.heap[r]?=W'.heap[r]?→V.heap[b]?=W'.heap[b]?→(Instr.entry (.pointer (some ⟨r,0,none⟩))).run Tryz.prog V=.ok (.tuple #[enc E[i].1,E[i].2.1]) V):=by
 have BJ:=Agu enc hst
 have hold:∀x∈(AK enc E).toArray.toList,x.born<E.length:=by
  intro x hx;have:x.born∈(AK enc E).map (·.born):=List.mem_map_of_mem hx;rw [BJ]at this
  simpa using this
 have IA:((AK enc E).toArray.toList.map (·.born)).Nodup:=by show ((AK enc E).map (·.born)).Nodup;rw [BJ];exact List.nodup_range
 rcases run_next_at (P:=Tryz.prog) W ty r b E.length E.length seen.toArray (AK enc E).toArray E.length h.it hb hold (Asf _)with⟨h0,hrun⟩|⟨x,hx,w1,hw1,hrun⟩
 ·left
  refine⟨?_,hrun⟩;have hall:=all_seen _ _ h0
  have Aj1:List.range E.length ⊆ seen:=by
   intro i hi;rw [←BJ]at hi;obtain⟨x,hx,rfl⟩:=List.mem_map.1 hi;have:=hall x hx
   simpa using this
  have h1:E.length<=seen.length:=by
   have:=(List.nodup_range (n:=E.length)).length_le_of_subset Aj1
   simpa using this
  have h2:seen.length<=E.length:=by
   have hs:seen ⊆ List.range E.length:=fun i hi=>(by simpa using h.lt i hi);have:=h.nd.length_le_of_subset hs
   simpa using this
  omega
 ·right
  obtain⟨tz,Mp⟩:=mem_left hx;obtain⟨i,hi,hxi⟩:=List.getElem_of_mem tz;have hi':i<E.length:=(by simpa [AK]using hi);have NR:x=⟨enc E[i].1,E[i].2.1,E[i].2.2⟩:=(by rw [←hxi];simp [AK]);have hb0:x.born=i:=(by rw [NR];exact hst i hi');have hkey:x.key=enc E[i].1:=(by rw [NR]);have hval:x.val=E[i].2.1:=(by rw [NR]);have KV:i∉seen:=by rw [hb0]at Mp;simpa using Mp
  have hr1:w1.heap[r]?=W.heap[r]?:=by rcases hw1 with rfl|rfl<;>rfl
  have hb1:w1.heap[b]?=W.heap[b]?:=by rcases hw1 with rfl|rfl<;>rfl
  have hG:W.grownBy (setBlock w1 r (.mapIter (some b) E.length (seen.toArray.push x.born) E.length)) (some r):=by
   rcases hw1 with rfl|rfl
   ·exact Nh h.it
   ·exact⟨rfl,rfl,rfl,by simp [setBlock],fun k _ hk=>V4 (fun e=>hk (by rw [e]))⟩
  have hit:=On (o:=.mapIter (some b) E.length (seen.toArray.push x.born) E.length) (hr1.trans h.it);refine⟨i,hi',KV,_,⟨?_,?_,?_⟩,hG,?_,?_,?_⟩
  ·rw [hit,hb0];simp
  ·rw [List.nodup_append];refine⟨h.nd,by simp,?_⟩;intro a ha c hc;simp only [Ass]at hc;subst hc;intro e;rw [e]at ha;exact KV ha
  ·intro k hk
   rcases List.mem_append.1 hk with hk|hk
   ·exact h.lt k hk
   ·simp only [Ass]at hk;omega
  ·rcases hw1 with rfl|rfl<;>simp [setBlock]
  ·rw [hrun,hkey,hval]
  ·intro V hVr hVb;rw [←hkey,←hval];exact run_entry_at V r b E.length seen.toArray (AK enc E).toArray E.length x (hVr.trans hit) (hVb.trans ((V4 (Ne.symm hne)).trans (hb1.trans hb))) tz IA
end
end
theorem Abw{s:Sg}{x:Rat}{k:Nat}(hs:DK k s)(hx:Sz k x):Sz (7*k+5) (BX s x):=
 (hs.a.y.add (((hx.sub hs.a.x).div (by omega) (hs.b.x.sub hs.a.x)).mul (hs.b.y.sub hs.a.y))).mono (by omega)
def Jc(p:Pt)(st:Option (Sg×Rat))(s:Sg):Option (Sg×Rat):=
 if 0<=AD s.a.x p.x then st else if AD s.b.x p.x<0 then st else if 0<=AD (BX s p.x) p.y then st else
 match st with
 | none=>some (s,BX s p.x)
 | some (b,h)=>
  if AD (BX s p.x) h=0 then (if 0<AN (Aw s.b s.a b.a)then some (s,BX s p.x)else st)
  else if 0<AD (BX s p.x) h then some (s,BX s p.x)else st
def jO:Option (Sg×Rat)→Value
 | none=>S []
 | some (_,h)=>S (R h)
def dO:Option (Sg×Rat)→Array Value
 | none=>#[S [],S [],S [],S []]
 | some (s,_)=>#[S (R s.a.x),S (R s.a.y),S (R s.b.x),S (R s.b.y)]
def WM(st:Option (Sg×Rat)):Value:=.agg (dO st)
def Ef(p:Pt)(l:List Sg):Option (Sg×Rat):=l.foldl (Jc p) none
theorem tD(p:Pt)(l:List Sg)(s:Sg):Ef p (l ++ [s])=Jc p (Ef p l) s:=by simp [Ef]
theorem IG{α:Type}{W:World}{r b:Nat}{E:List (α×Value×Nat)}{seen:List Nat}(h:F7 W r b E seen):(W.iterSeen r).size=seen.length:=by
 unfold World.iterSeen;rw [h.it];simp
end Go.Proofs.YtdaefncphfeaeaaGreatDoor
