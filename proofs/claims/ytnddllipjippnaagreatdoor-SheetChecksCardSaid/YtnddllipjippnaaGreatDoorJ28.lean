/- J28: Lay M12 M13 M14 M15 M16 M18 M19 M20. -/
import Derived.Test.YtnddllipjippnaaGreatDoorJ09
import Derived.Test.YtnddllipjippnaaGreatDoorJ25
import Derived.Shelf.SlSortCmp.InsertionK
set_option maxRecDepth 100000
set_option maxHeartbeats 8000000
namespace Go.Proofs.YtnddllipjippnaaGreatDoor
open Go.RowKit Kl Go.Sort
theorem S2{w a b:World}{r:Nat}(h:Ab w a)(hg:a.grownBy b (some r))(hr:w.heap.size<=r):Ab w b:=
 ⟨hg.os.trans h.os,hg.tape.trans h.tape,hg.output.trans h.output,AoH h.size hg.size,fun k hk=>(hg.block k (AoG hk h.size) (by simp;omega)).trans (h.block k hk)⟩
section
variable {α : Type} [Inhabited α]
theorem PR(enc:α→List Value)(k:Nat)(w:World)(blk off m:Nat)(dk:Array α)(os:Array Obj):w.grownBy (sortWorldK enc k w blk off m dk os) (some blk):=by
 refine⟨rfl,rfl,rfl,?_,fun i hi hne=>?_⟩
 ·exact size_sortWorldK_c enc k w blk off m dk os
 ·have hb:i≠blk:=fun e=>hne (by rw [e]);show ((w.heap.modify blk _)++os)[i]?=w.heap[i]?;rw [Array.getElem?_append_left (by simpa using hi),Array.getElem?_modify,if_neg (fun e=>hb e.symm)]
theorem iZ{g:Nat}{cb:Array Value}{enc:α→List Value}{k:Nat}{cf:α→α→Int}{blk off size:Nat}{w:World}
  (h:∀W,w.grownBy W (some blk)→∀x y,Calls Tryz.prog g (#[.agg (enc x).toArray,.agg (enc y).toArray]++cb) W (AI (cf x y) W)):CmpLays Tryz.prog g cb enc k cf blk off size w:=by
 intro m os dk _ x y;refine(Calls.drawn (h _ (PR enc k w blk off m dk os) x y) (fun e w' h=>⟨_,h.1⟩)).mono ?_;rintro e w' ⟨⟨he,hx⟩,hd⟩;exact⟨he,hx.grow hd⟩
theorem AkY(enc:α→List Value)(k:Nat)(w:World)(blk off m:Nat)(dk:Array α)(os:Array Obj){c:Array Value}{e:TypeId}{fr:Nat×Nat}(h:w.heap[blk]?=some (.cells c e fr)) :
  (sortWorldK enc k w blk off m dk os).heap[blk]?=some (.cells (putCells id off (flatK enc k dk) c) e fr):=by
 have hlt:=Ao5 h;show ((w.heap.modify blk (onCells (putCells id off (flatK enc k dk))))++os)[blk]?=_;rw [Array.getElem?_append_left (by simpa using hlt),Array.getElem?_modify,if_pos rfl,h]
 rfl
end
theorem aI{α:Type}{enc:α→List Value}{k:Nat}(hk:∀x,(enc x).length=k):∀(l:List α),(l.flatMap enc).length=l.length*k
 | []=>by simp
 | x::l=>by rw [List.flatMap_cons,List.length_append,hk,aI hk l,List.length_cons,Nat.add_mul,Nat.one_mul,Nat.add_comm]
section
variable {α : Type} [Inhabited α] {enc : α → List Value} {k : Nat}
theorem VT(hk:∀x,(enc x).length=k)(k0:0<k):∀(l:List α) (t:Nat),t<l.length*k→(l.flatMap enc)[t]?=some ((enc l[t/k]!)[t%k]!)
 | [],t,h=>by simp at h
 | x::l,t,h=>by
  rw [List.flatMap_cons];by_cases ht:t<k
  ·rw [List.getElem?_append_left (by rw [hk];exact ht),Nat.div_eq_of_lt ht,Nat.mod_eq_of_lt ht,AoC (by rw [hk];exact ht)];simp [hk,ht]
  ·have e1:t/k=(t-k)/k+1:=by rw [Nat.div_eq_sub_div k0 (by omega)]
   have e2:t%k=(t-k)%k:=by rw [Nat.mod_eq_sub_mod (by omega)]
   have hl:t-k<l.length*k:=by rw [List.length_cons,Nat.add_mul,Nat.one_mul]at h;omega
   rw [List.getElem?_append_right (by rw [hk];omega),hk,VT hk k0 l (t-k) hl,e1,e2];simp
theorem uC(hk:∀x,(enc x).length=k)(k0:0<k)(d:Array α):(flatK enc k d).toList=d.toList.flatMap enc:=by
 apply List.ext_getElem?;intro t;by_cases ht:t<d.size*k
 ·rw [VT hk k0 _ _ (by simpa using ht)];have h1:t<(flatK enc k d).toList.length:=(by simpa using ht);have h2:=get_flatK enc k d t ht;rw [AoC h1]
  have h3:(flatK enc k d)[t]! = (flatK enc k d).toList[t]:=by rw [getElem!_pos _ t (by simpa using ht)];simp
  rw [←h3,h2]
  congr 1
  have h4:d[t/k]! = d.toList[t/k]!:=by have hlt:t/k<d.size:=Nat.div_lt_of_lt_mul (by rw [Nat.mul_comm];exact ht);rw [getElem!_pos d _ hlt,getElem!_pos d.toList _ (by simpa using hlt)];simp
  rw [h4]
 ·rw [List.getElem?_eq_none (by simp;omega),List.getElem?_eq_none (by rw [aI hk];simp;omega)]
theorem fO{w:World}{base:Nat}{e:TypeId}{v:Value}{d:Array α}(hk:∀x,(enc x).length=k)(k0:0<k)(h:w.ownsRow base e k v d.size (d.toList.flatMap enc))(hd:0<d.size) :
  ∃g cap,v=.slice (some ⟨g,0,none⟩) d.size cap/\base<=g/\g<w.heap.size/\HoldsK enc k w g 0 d/\v.ownBlock=some g:=by
 rcases h.2 with⟨_,h0⟩|⟨g,cap,cur,rfl,hb,hg,hn,hm,hs,ht⟩
 ·omega
 ·refine⟨g,cap,rfl,hb,Ao5 hg,?_,rfl⟩;intro j hj;rw [size_flatK]at hj;have Ns:j<d.toList.length*k:=(by simpa using hj);have h1:=VT hk k0 d.toList j Ns;rw [←uC hk k0]at h1
  have h2:(flatK enc k d)[j]! = (enc d.toList[j/k]!)[j%k]!:=by rw [getElem!_pos _ j (by simpa using hj)];rw [AoC (by simpa using hj),AoB]at h1;rw [←h1];simp
  have h3:cur.toList[j]?=some ((flatK enc k d)[j]!):=by have h4:=VT hk k0 d.toList j Ns;rw [←ht,List.getElem?_take_of_lt (by rw [Nat.mul_comm]at hj ⊢;omega)]at h4;rw [h4,h2]
  refine⟨?_,?_⟩
  ·rw [Nat.zero_add];refine Aa hg ?_;rw [←Array.getElem?_toList];exact h3
  ·rw [Nat.zero_add];exact Aj hg
theorem U2{w:World}{base:Nat}{e:TypeId}{g cap:Nat}{d d':Array α}(hk:∀x,(enc x).length=k)(k0:0<k)(h:w.ownsRow base e k (.slice (some ⟨g,0,none⟩) d.size cap) d.size (d.toList.flatMap enc))(hd:d'.size=d.size)(m:Nat)(os:Array Obj) :
  (sortWorldK enc k w g 0 m d' os).ownsRow base e k (.slice (some ⟨g,0,none⟩) d.size cap) d.size (d'.toList.flatMap enc):=by
 rcases h.2 with⟨h',_⟩|⟨g',cap',cur,hv,hb,hg,hn,hm,hs,ht⟩
 ·cases h'
 ·simp only [Value.slice.injEq,AoB,Addr.mk.injEq,and_true,true_and]at hv;obtain⟨rfl,rfl⟩:=hv;have hF:(flatK enc k d').size=d.size*k:=(by rw [size_flatK,hd]);have hle:d.size*k<=cur.size:=(by rw [hs];exact Nat.mul_le_mul_right k hn);refine⟨?_,.inr ⟨g,cap,_,rfl,hb,AkY enc k w g 0 m d' os hg,hn,hm,?_,?_⟩⟩
  ·rw [aI hk];simp [hd]
  ·unfold putCells;simpa using hs
  ·rw [←uC hk k0];apply List.ext_getElem?;intro t;by_cases Ko:t<d.size*k
   ·rw [List.getElem?_take_of_lt Ko,Array.getElem?_toList];unfold putCells;rw [Array.getElem?_mapIdx,Array.getElem?_eq_getElem (by omega)];simp only [Option.map_some,Nat.zero_le,true_and,Nat.zero_add,Nat.sub_zero];rw [if_pos (by omega),Array.getElem?_toList,Array.getElem?_eq_getElem (by omega)];rw [getElem!_pos _ t (by omega)]
    rfl
   ·rw [List.getElem?_eq_none (by rw [List.length_take];omega),List.getElem?_eq_none (by simp [hd];omega)]
end
def Gg(s t:Sg):Int:=if Bq s.a t.a≠0 then Bq s.a t.a else Bq s.b t.b
theorem AcG(s t:Sg){k:Nat}(hs:EP k s)(ht:EP k t)(hk:0<k)(hk2:k<=400)(w:World)(hw:Am w) :
  Calls Tryz.prog 87 #[AC s,AC t] w (AI (Gg s t) w):=by
 have c1:=IM s.a t.a hs.a ht.a hk hk2;have c2:=IM s.b t.b hs.b ht.b hk hk2;have hE:=((Ab.refl w).alloc (.cells #[S (R s.a.x),S (R s.a.y),S (R s.b.x),S (R s.b.y)] 140)).alloc (.cells #[S (R t.a.x),S (R t.a.y),S (R t.b.x),S (R t.b.y)] 140);obtain⟨x,hx0⟩:=Ao3 (Bq s.a t.a);obtain⟨y,BA⟩:=Ao3 (Bq s.b t.b)
 have hr:Gg s t=if x≠0 then x else y:=by rw [hx0,BA];rfl
 rw [hr];rw [←hx0]at c1;rw [←BA]at c2
 have hA:(w.alloc (.cells #[S (R s.a.x),S (R s.a.y),S (R s.b.x),S (R s.b.y)] 140)).alloc (.cells #[S (R t.a.x),S (R t.a.y),S (R t.b.x),S (R t.b.y)] 140) |>.heap[w.heap.size]?=some (.cells #[S (R s.a.x),S (R s.a.y),S (R s.b.x),S (R s.b.y)] 140):=(Below.heap_alloc _ _ _ (by simp)).trans (Ao6 w _)
 have hB:=Ao6 (w.alloc (.cells #[S (R s.a.x),S (R s.a.y),S (R s.b.x),S (R s.b.y)] 140)) (.cells #[S (R t.a.x),S (R t.a.y),S (R t.b.x),S (R t.b.y)] 140);rw [AoE]at hB;obtain⟨r,G2⟩:=Ao3 (if x≠0 then x else y:Int);rw [←G2]
 have Uy:∀(b o:Nat) (w:World),w.cell? ⟨b,o,none⟩=some (.int .i64 x)→w.cell? ⟨b,o+1,none⟩=some (.int .i64 y)→Calls Tryz.prog 141 #[.slice (some ⟨b,o,none⟩) 2 2] w (AI r w):=by intro b o w h1 h2;rw [G2];exact kG x y b o w h1 h2
 unfold Ak at c1 c2;unfold AC;clear hs ht hr hx0 BA G2;go_enter Tryz.func87,Tryz.ntmps87
 go_upto_region 1 with fail
 generalize (w.alloc (.cells #[S (R s.a.x),S (R s.a.y),S (R s.b.x),S (R s.b.y)] 140)).alloc (.cells #[S (R t.a.x),S (R t.a.y),S (R t.b.x),S (R t.b.y)] 140)=V at *;have hs:=hE.size;obtain⟨ba,Av⟩:=Ao3 w.heap.size;rw [←Av]at hA hB ⊢;clear Av hs
 have SO:∀w',Ab V w'→(w'.cell? ⟨ba,0,none⟩=some (S (R s.a.x))/\w'.cell? ⟨ba,1,none⟩=some (S (R s.a.y))/\w'.cell? ⟨ba,2,none⟩=some (S (R s.b.x))/\w'.cell? ⟨ba,3,none⟩=some (S (R s.b.y))/\w'.cell? ⟨ba+1,0,none⟩=some (S (R t.a.x))/\w'.cell? ⟨ba+1,1,none⟩=some (S (R t.a.y))/\w'.cell? ⟨ba+1,2,none⟩=some (S (R t.b.x))/\w'.cell? ⟨ba+1,3,none⟩=some (S (R t.b.y))):=fun w' h=>⟨h.cellS (Aa hA rfl),h.cellS (Aa hA rfl),h.cellS (Aa hA rfl),h.cellS (Aa hA rfl),h.cellS (Aa hB rfl),h.cellS (Aa hB rfl),h.cellS (Aa hB rfl),h.cellS (Aa hB rfl)⟩
 have X0:Ab V V.drew:=(Ab.refl V).drew;have hV:=hw.ext hE;clear hA hB
 go_region_held3 (fun w'=>w'.cell? ⟨ba,0,none⟩=some (S (R s.a.x))/\w'.cell? ⟨ba,1,none⟩=some (S (R s.a.y))/\w'.cell? ⟨ba,2,none⟩=some (S (R s.b.x))/\w'.cell? ⟨ba,3,none⟩=some (S (R s.b.y))/\w'.cell? ⟨ba+1,0,none⟩=some (S (R t.a.x))/\w'.cell? ⟨ba+1,1,none⟩=some (S (R t.a.y))/\w'.cell? ⟨ba+1,2,none⟩=some (S (R t.b.x))/\w'.cell? ⟨ba+1,3,none⟩=some (S (R t.b.y)))
  (first|with_reducible exact SO _ X0|with_reducible exact SO _ X5|with_reducible exact SO _ X6|with_reducible exact SO _ X7|with_reducible exact SO _ (X6.alloc _))
  (first|((with_reducible refine(c1 _ (hV.ext X0)).mono ?_);rintro e w5 ⟨rfl,Ae⟩;have X5:Ab V w5:=X0.trans Ae)|((with_reducible refine(c2 _ (hV.ext X5)).mono ?_);rintro e w6 ⟨rfl,AG⟩;have X6:Ab V w6:=X5.trans AG;have Ds:=Ao6 w6 (.cells #[.int .i64 x,.int .i64 y] 3);have g0:=Aa (o:=0) Ds rfl;have g1:=Aa (o:=1) Ds rfl;clear Ds)|((with_reducible refine(Uy w6.heap.size 0 _ g0 g1).mono ?_);rintro e w7 ⟨rfl,Aw⟩;have X7:Ab V w7:=(X6.alloc _).trans Aw))
 go_wp2;go_ret;exact⟨rfl,hE.trans X7⟩
theorem VG(p q:Rat):Bo p q<0↔p<q:=by unfold Bo;grind
theorem ZI(p q:Rat):Bo p q=0↔p=q:=by unfold Bo;grind
theorem Ah6(a b:Pt):Bq a b=0↔a.x=b.x/\a.y=b.y:=by
 unfold Bq;have h1:=ZI a.x b.x;have h2:=ZI a.y b.y
 split<;>grind
theorem QG(a b:Pt):Bq a b<0↔a.x<b.x∨(a.x=b.x/\a.y<b.y):=by
 unfold Bq;have h1:=ZI a.x b.x;have h2:=VG a.x b.x;have h3:=VG a.y b.y
 split<;>grind
theorem QH(s t:Sg):Gg s t<0↔s.a.x<t.a.x∨(s.a.x=t.a.x/\(s.a.y<t.a.y∨(s.a.y=t.a.y/\(s.b.x<t.b.x∨(s.b.x=t.b.x/\s.b.y<t.b.y))))):=by
 unfold Gg;have h1:=Ah6 s.a t.a;have h2:=QG s.a t.a;have h3:=QG s.b t.b
 split<;>grind
def RR(s:Sg):Prop:=EP 200 s
theorem t8:RR ⟨⟨0,0⟩,⟨0,0⟩⟩:=by
 have h:Sz 200 (0:Rat):=(by constructor<;>decide +kernel);exact⟨⟨h,h⟩,⟨h,h⟩⟩
abbrev Way:={s:Sg // RR s}
instance:Inhabited Way:=⟨⟨_,t8⟩⟩
def Iq(s t:Way):Int:=Gg s.1 t.1
theorem wz(s t:Way):ltOf Iq s t=true↔s.1.a.x<t.1.a.x∨(s.1.a.x=t.1.a.x/\(s.1.a.y<t.1.a.y∨(s.1.a.y=t.1.a.y/\(s.1.b.x<t.1.b.x∨(s.1.b.x=t.1.b.x/\s.1.b.y<t.1.b.y))))):=by
 unfold ltOf Iq;rw [decide_eq_true_iff];exact QH _ _
theorem mG(s t:Way):ltOf Iq s t=false↔¬(s.1.a.x<t.1.a.x∨(s.1.a.x=t.1.a.x/\(s.1.a.y<t.1.a.y∨(s.1.a.y=t.1.a.y/\(s.1.b.x<t.1.b.x∨(s.1.b.x=t.1.b.x/\s.1.b.y<t.1.b.y)))))):=by
 rw [←wz];simp
theorem xf:SWO (ltOf Iq) where
 irrefl x:=by rw [mG];grind
 trans x y z h1 h2:=by rw [wz]at *;grind
 ntrans x y z h1 h2:=by rw [mG]at *;grind
theorem AlN(x y:Way)(h1:ltOf Iq x y=false)(h2:ltOf Iq y x=false):x=y:=by
 rw [mG]at h1 h2;obtain⟨⟨⟨a,b⟩,⟨c,d⟩⟩,hx⟩:=x;obtain⟨⟨⟨a',b'⟩,⟨c',d'⟩⟩,hy⟩:=y;simp only [Subtype.mk.injEq,Sg.mk.injEq,Pt.mk.injEq]at *
 grind
def GH(s:Way):List Value:=[S (R s.1.a.x),S (R s.1.a.y),S (R s.1.b.x),S (R s.1.b.y)]
theorem VR(s:Way):(GH s).length=4:=rfl
theorem Ad4(s:Way):∀v∈GH s,v.oneCell'=true:=by
 intro v hv;simp only [GH,List.mem_cons,AoI,or_false]at hv
 rcases hv with rfl|rfl|rfl|rfl<;>rfl
theorem AlM{w0 w:World}(hw:Am w0)(hx:Ab w0 w){blk:Nat}(hb:w0.heap.size<=blk)(off size:Nat):CmpLays Tryz.prog 87 #[] GH 4 Iq blk off size w:=by
 refine iZ fun W hg x y=>?_;have h:=AcG x.1 y.1 x.2 y.2 (by omega) (by omega) W (hw.ext (S2 hx hg hb));exact h
end Go.Proofs.YtnddllipjippnaaGreatDoor
namespace Go.Proofs.YtnddllipjippnaaGreatDoor
open Go.RowKit Kl
def BW(s:Sg)(x:Rat):Rat:=s.a.y+(x-s.a.x)/(s.b.x-s.a.x)*(s.b.y-s.a.y)
theorem Afp(s:Sg)(x:Rat){k:Nat}(hs:EP k s)(hx:Sz k x)(hk:0<k)(hk2:k<=400)(h0:s.b.x≠s.a.x)(w:World)(hw:Am w) :
  Calls Tryz.prog 162 #[AC s,S (R x)] w (By (R (BW s x)) w):=by
 have s1:=Hi x s.a.x (a:=k) (b:=k) ⟨hx,hs.a.x,hk,hk,by omega⟩;have s2:=Hi s.b.x s.a.x (a:=k) (b:=k) ⟨hs.b.x,hs.a.x,hk,hk,by omega⟩;have dv:=Aj8 (x-s.a.x) (s.b.x-s.a.x) (by grind) (a:=k+k+1) (b:=k+k+1) ⟨hx.sub hs.a.x,hs.b.x.sub hs.a.x,by omega,by omega,by omega⟩;have s3:=Hi s.b.y s.a.y (a:=k) (b:=k) ⟨hs.b.y,hs.a.y,hk,hk,by omega⟩;have mu:=Pe ((x-s.a.x)/(s.b.x-s.a.x)) (s.b.y-s.a.y) (a:=k+k+1+(k+k+1)) (b:=k+k+1) ⟨(hx.sub hs.a.x).div (by omega) (hs.b.x.sub hs.a.x),hs.b.y.sub hs.a.y,by omega,by omega,by omega⟩;have ad:=Yl s.a.y ((x-s.a.x)/(s.b.x-s.a.x)*(s.b.y-s.a.y)) (a:=k) (b:=k+k+1+(k+k+1)+(k+k+1)) ⟨hs.a.y,((hx.sub hs.a.x).div (by omega) (hs.b.x.sub hs.a.x)).mul (hs.b.y.sub hs.a.y),by omega,by omega,by omega⟩;have e:BW s x=s.a.y+(x-s.a.x)/(s.b.x-s.a.x)*(s.b.y-s.a.y):=rfl;rw [←e]at ad;obtain⟨r,hr⟩:=Ao3 (BW s x);rw [←hr]at ad ⊢;unfold AC;unfold Yo at dv;clear hs hx e hr;go_enter Tryz.func162,Tryz.ntmps162
 go_upto_region 1 with fail
 have hb:=Ao6 w (.cells #[S (R s.a.x),S (R s.a.y),S (R s.b.x),S (R s.b.y)] 140);have hE:=(Ab.refl w).alloc (.cells #[S (R s.a.x),S (R s.a.y),S (R s.b.x),S (R s.b.y)] 140);obtain⟨W,hW⟩:=Ao3 (w.alloc (.cells #[S (R s.a.x),S (R s.a.y),S (R s.b.x),S (R s.b.y)] 140));rw [←hW]at hb hE ⊢;clear hW;obtain⟨ba,Av⟩:=Ao3 w.heap.size;rw [←Av]at hb ⊢;clear Av
 have SO:∀w',Ab W w'→(w'.cell? ⟨ba,0,none⟩=some (S (R s.a.x))/\w'.cell? ⟨ba,1,none⟩=some (S (R s.a.y))/\w'.cell? ⟨ba,2,none⟩=some (S (R s.b.x))/\w'.cell? ⟨ba,3,none⟩=some (S (R s.b.y))):=fun w' h=>⟨h.cellS (Aa hb rfl),h.cellS (Aa hb rfl),h.cellS (Aa hb rfl),h.cellS (Aa hb rfl)⟩
 have Df:=hw.ext hE;have X:Ab W W:=Ab.refl W;clear hb
 go_region_held3 (fun w'=>w'.cell? ⟨ba,0,none⟩=some (S (R s.a.x))/\w'.cell? ⟨ba,1,none⟩=some (S (R s.a.y))/\w'.cell? ⟨ba,2,none⟩=some (S (R s.b.x))/\w'.cell? ⟨ba,3,none⟩=some (S (R s.b.y)))
  (first|with_reducible exact SO _ X|with_reducible exact SO _ X.drew)
  (first|((with_reducible refine(s1 _ (Df.ext (by first|exact X|exact X.drew))).mono ?_);rintro e w1 ⟨rfl,hx1⟩;replace X:Ab W w1:=(by first|exact X.trans hx1|exact X.drew.trans hx1))|((with_reducible refine(s2 _ (Df.ext (by first|exact X|exact X.drew))).mono ?_);rintro e w1 ⟨rfl,hx1⟩;replace X:Ab W w1:=(by first|exact X.trans hx1|exact X.drew.trans hx1))|((with_reducible refine(dv _ (Df.ext (by first|exact X|exact X.drew))).mono ?_);rintro e w1 ⟨rfl,hx1⟩;replace X:Ab W w1:=(by first|exact X.trans hx1|exact X.drew.trans hx1)))
 go_upto_region 2 with fail
 go_region_held3 (fun w'=>w'.cell? ⟨ba,0,none⟩=some (S (R s.a.x))/\w'.cell? ⟨ba,1,none⟩=some (S (R s.a.y))/\w'.cell? ⟨ba,2,none⟩=some (S (R s.b.x))/\w'.cell? ⟨ba,3,none⟩=some (S (R s.b.y)))
  (first|with_reducible exact SO _ X|with_reducible exact SO _ X.drew)
  (first|((with_reducible refine(s3 _ (Df.ext (by first|exact X|exact X.drew))).mono ?_);rintro e w1 ⟨rfl,hx1⟩;replace X:Ab W w1:=(by first|exact X.trans hx1|exact X.drew.trans hx1))|((with_reducible refine(mu _ (Df.ext (by first|exact X|exact X.drew))).mono ?_);rintro e w1 ⟨rfl,hx1⟩;replace X:Ab W w1:=(by first|exact X.trans hx1|exact X.drew.trans hx1))|((with_reducible refine(ad _ (Df.ext (by first|exact X|exact X.drew))).mono ?_);rintro e w1 ⟨rfl,hx1⟩;replace X:Ab W w1:=(by first|exact X.trans hx1|exact X.drew.trans hx1)))
 go_wp2;go_ret;exact⟨rfl,hE.trans X⟩
theorem Aku(l:List Sg):(Cu l).length=l.length*4:=by
 induction l with
 | nil=>rfl
 | cons e l ih=>unfold Cu at *;simp only [List.flatMap_cons,List.length_append,ih,List.length_cons,List.length_nil];omega
theorem r6:∀(l:List Sg) (j:Nat) (h:j<l.length),(Cu l)[j*4]?=some (S (R l[j].a.x))/\(Cu l)[j*4+1]?=some (S (R l[j].a.y))/\(Cu l)[j*4+2]?=some (S (R l[j].b.x))/\(Cu l)[j*4+3]?=some (S (R l[j].b.y))
 | e::l,0,_=>⟨rfl,rfl,rfl,rfl⟩
 | e::l,j+1,h=>by
  have ih:=r6 l j (by simpa using h);have e0:Cu (e::l)=S (R e.a.x)::S (R e.a.y)::S (R e.b.x)::S (R e.b.y)::Cu l:=rfl;rw [e0];have e1:(j+1)*4=j*4+1+1+1+1:=(by omega);rw [e1]
  simpa using ih
theorem K7{w:World}{A:Option Addr}{l:List Sg}(hr:Af w A (Cu l)){j:Nat}(h:j<l.length):∃b o,A=some ⟨b,o,none⟩/\w.cell? ⟨b,o+j*4,none⟩=some (S (R l[j].a.x))/\w.cell? ⟨b,o+j*4+1,none⟩=some (S (R l[j].a.y))/\w.cell? ⟨b,o+j*4+2,none⟩=some (S (R l[j].b.x))/\w.cell? ⟨b,o+j*4+3,none⟩=some (S (R l[j].b.y)):=by
 have hl:=Aku l;obtain⟨b,o,e,hcs⟩:=hr.ad (by omega);obtain⟨f1,f2,f3,f4⟩:=r6 l j h;have g1:=hcs (j*4) (by omega);have g2:=hcs (j*4+1) (by omega);have g3:=hcs (j*4+2) (by omega);have g4:=hcs (j*4+3) (by omega);rw [AoC (by omega),AoB]at f1 f2 f3 f4;rw [f1]at g1;rw [f2,←Nat.add_assoc]at g2;rw [f3,←Nat.add_assoc]at g3;rw [f4,←Nat.add_assoc]at g4;exact⟨b,o,e,g1,g2,g3,g4⟩
def FW(p:Pt)(l:List Sg):Rat:=l.foldl (fun s e=>s+Ar p e.a e.b) 0
def Hu:List Sg→Rat
 | []=>0
 | e::l=>FW e.a (e::l)
theorem AbJ(p:Pt)(l:List Sg)(e:Sg):FW p (l ++ [e])=FW p l+Ar p e.a e.b:=by simp [FW]
theorem pR(p:Pt)(l:List Sg){j:Nat}(h:j<l.length):FW p (l.take (j+1))=FW p (l.take j)+Ar p l[j].a l[j].b:=by
 rw [AoA h,AbJ]
theorem AbK(l:List Sg)(h:0<l.length):Hu l=FW l[0].a l:=by
 cases l with
 | nil=>simp at h
 | cons e l=>rfl
theorem AbL(l:List Sg)(A:Option Addr)(c:Nat){k K:Nat}(hl:∀e∈l,EP k e)(hk:0<k)(hk2:k<=400)(hK:0<K)(hK2:K<=2000)(h0:0<l.length)
  (hS:∀j,j<=l.length→Sz K (FW l[0].a (l.take j))) (hA:∀j (h:j<l.length),Sz (K-100) (Ar l[0].a l[j].a l[j].b)) (hc:l.length<=c) (hcm:c<=9223372036854775807) (hK3:100<K) (w:World) (hw:Am w) (hr:Af w A (Cu l)) :
  Calls Tryz.prog 120 #[.slice A l.length c] w (By (R (Hu l)) w):=by
 obtain⟨b,o,rfl,q1,q2,-,-⟩:=K7 hr h0;rw [AbK l h0];obtain⟨r,hr0⟩:=Ao3 (FW l[0].a l);rw [←hr0];obtain⟨p,hp⟩:=Ao3 (l[0].a);have TR:Az k p:=(by rw [hp];exact(hl _ (Ao8 h0)).a);rw [←hp]at hr0 hS hA q1 q2;have HR:=Ao4 hr0;clear hr0 hp;rw [Nat.zero_mul,Nat.add_zero]at q1 q2;go_enter Tryz.func120,Tryz.ntmps120
 go_upto_region 3 with fail
 go_loopw [3,8] (fun s i wr=>∃j:Nat,i=.int .i64 (j:Nat)/\s=S (R (FW p (l.take j)))/\j<=l.length/\Ab w wr) (fun _ i _=>l.length-(intOf i).toNat)
 case atStart=>exact⟨0,rfl,by rw [List.take_zero];show _=S (R 0);rw [KT],by omega,Ab.refl _⟩
 case round=>
  obtain⟨j,rfl,rfl,hj,Ac⟩:=hrel;by_cases hlt:j<l.length
  ·obtain⟨b',o',D4,g1,g2,g3,g4⟩:=K7 (hr.ext Ac) hlt;simp only [AoB,Addr.mk.injEq,and_true]at D4;obtain⟨rfl,rfl⟩:=D4;have p1:=Ac.cellS q1;have p2:=Ac.cellS q2;have ez:=hl _ (Ao8 hlt);have ar:=oz p l[j].a l[j].b TR ez.a ez.b hk hk2;have ad:=Yl (FW p (l.take j)) (Ar p l[j].a l[j].b) (a:=K) (b:=K-100) ⟨hS j hj,hA j hlt,hK,by omega,by omega⟩;rw [←pR p l hlt]at ad;obtain⟨e,he⟩:=Ao3 (l[j]);rw [←he]at g1 g2 g3 g4 ar ad;have hj0:(0:Int)<=(j:Int):=(by omega);have hl0:(0:Int)<(l.length:Int):=(by omega);have Bc:(j:Int)<(l.length:Int):=(by omega);clear ez he;obtain⟨s,hs⟩:=Ao3 (FW p (l.take j));obtain⟨s',hs'⟩:=Ao3 (FW p (l.take (j+1)));rw [←hs,←hs']at ad;rw [←hs];have HS':=Ao4 hs';clear hs hs' hS hA hl q1 q2;unfold Ak at ar
   go_upto_region 5 with fail
   have hb:=Ao6 wr (.cells #[S (R e.a.x),S (R e.a.y),S (R e.b.x),S (R e.b.y)] 140);have hE:=(Ab.refl wr).alloc (.cells #[S (R e.a.x),S (R e.a.y),S (R e.b.x),S (R e.b.y)] 140);unfold S at hb hE;generalize (wr.alloc (.cells #[.string ⟨(R e.a.x).toArray⟩,.string ⟨(R e.a.y).toArray⟩,.string ⟨(R e.b.x).toArray⟩,.string ⟨(R e.b.y).toArray⟩] 140))=W at *;obtain⟨be,AB⟩:=Ao3 wr.heap.size;rw [←AB]at hb ⊢;clear AB
   have SO:∀w',Ab W w'→(w'.cell? ⟨b,o,none⟩=some (S (R p.x))/\w'.cell? ⟨b,o+1,none⟩=some (S (R p.y))/\w'.cell? ⟨be,0,none⟩=some (S (R e.a.x))/\w'.cell? ⟨be,1,none⟩=some (S (R e.a.y))/\w'.cell? ⟨be,2,none⟩=some (S (R e.b.x))/\w'.cell? ⟨be,3,none⟩=some (S (R e.b.y))):=fun w' h=>⟨h.cellS (hE.cellS p1),h.cellS (hE.cellS p2),h.cellS (Aa hb rfl),h.cellS (Aa hb rfl),h.cellS (Aa hb rfl),h.cellS (Aa hb rfl)⟩
   have Df:=(hw.ext Ac).ext hE;have hx0:=Ac.trans hE;have X:Ab W W:=Ab.refl W;clear hb p1 p2 g1 g2 g3 g4
   go_region_held3 (fun w'=>w'.cell? ⟨b,o,none⟩=some (S (R p.x))/\w'.cell? ⟨b,o+1,none⟩=some (S (R p.y))/\w'.cell? ⟨be,0,none⟩=some (S (R e.a.x))/\w'.cell? ⟨be,1,none⟩=some (S (R e.a.y))/\w'.cell? ⟨be,2,none⟩=some (S (R e.b.x))/\w'.cell? ⟨be,3,none⟩=some (S (R e.b.y)))
    (first|with_reducible exact SO _ X|with_reducible exact SO _ X.drew)
    (first|((with_reducible refine(ar _ (Df.ext (by first|exact X|exact X.drew))).mono ?_);rintro e w1 ⟨rfl,hx1⟩;replace X:Ab W w1:=(by first|exact X.trans hx1|exact X.drew.trans hx1))|((with_reducible refine(ad _ (Df.ext (by first|exact X|exact X.drew))).mono ?_);rintro e w1 ⟨rfl,hx1⟩;replace X:Ab W w1:=(by first|exact X.trans hx1|exact X.drew.trans hx1)))
   go_wp2;go_roundw
   case rel=>exact⟨j+1,by go_num,by rw [HS'.out],hlt,hx0.trans X⟩
   case measure=>simp [intOf];omega
  ·have hjn:j=l.length:=(by omega);have e:FW p (l.take j)=r:=(by rw [HR.out,hjn,List.take_length]);rw [e];have hle:(l.length:Int)<=(j:Int):=(by omega);go_wp2;go_ret;exact⟨rfl,Ac⟩
theorem DO.look{E:List (Pt×Value×Nat)}{R0:List (Pt×List Pt)}{B:Nat}{W:World}{b2:Nat}(h:DO B W b2 E R0)(p:Pt){e:Pt×List Pt}(hf:R0.find? (fun e=>Ax p e.1)=some e) :
  ∃A c,FI Ax (.slice none 0 0) p E=.slice A e.2.length c/\Af W A (flat (Aq e.2))/\e.2.length<=c/\c<=9223372036854775807:=by
 have DI:=aG h.len (fun i h1 h2=>(h.row i h1 h2).1) p;obtain⟨h3,j,hj',h4,h5⟩:=List.find?_eq_some_iff_getElem.1 hf
 have hfj:R0.findIdx? (fun e=>Ax p e.1)=some j:=by rw [List.findIdx?_eq_some_iff_getElem];exact⟨hj',by rw [h4];exact h3,fun i hi=>by have:=h5 i hi;simpa using this⟩
 rw [hfj,List.findIdx?_eq_some_iff_getElem]at DI;obtain⟨hj,h1,h2⟩:=DI
 have e1:E.find? (fun e=>Ax p e.1)=some E[j]:=by rw [List.find?_eq_some_iff_getElem];exact⟨h1,j,hj,rfl,fun i hi=>by have:=h2 i hi;simpa using this⟩
 have ho:=(h.row j hj hj').2.2;rw [h4]at ho;obtain⟨A,c,hv,hr,g1,g2⟩:=Af.of_own' (by omega) ho;refine⟨A,c,?_,hr,g1,g2⟩;unfold FI;rw [e1];exact hv
theorem Ail{j n:Nat}(h:j<n):∃m:Nat,m<n/\m=(j+n-1)%n/\Int.tmod ((j:Int)+n-1) n=(m:Int):=by
 refine⟨(j+n-1)%n,Nat.mod_lt _ (by omega),rfl,?_⟩;have e:(j:Int)+n-1=((j+n-1:Nat):Int):=(by omega);rw [e];exact(Int.ofNat_tmod _ _).symm
theorem Aik{B:Nat}{w:World}{r b1 b2:Nat}{L:List (Sg×Int)}{E:List (Pt×Value×Nat)}{R0:List (Pt×List Pt)}(h:BD B w r b1 b2 L E R0)(s:Sg){e:Pt×List Pt}(hf:R0.find? (fun e=>Ax s.b e.1)=some e){j m:Nat}(hj:j<e.2.length)(hi:Et e.2 s.a=(j:Int))(hm:m<e.2.length)(TL:m=(j+e.2.length-1)%e.2.length)(hn:e.2.length<100000) :
  Calls Tryz.prog 153 #[.pointer (some ⟨r,0,none⟩),AC s] w (BG (AC ⟨s.b,e.2[m]⟩) w):=by
 obtain⟨A,c,hv,Bf,hc1,hc2⟩:=h.ar.look s.b hf;obtain⟨m',hm',hme,htm⟩:=Ail hj;rw [←TL]at hme;subst hme;clear hm' TL;obtain⟨p,hp⟩:=Ao3 (e.2[m']);rw [←hp];have ix:=fun W (hE:Ab w W)=>Xz e.2 s.a A c W (Bf.ext hE) hc1 hc2;rw [hi]at ix;have hE:=((Ab.refl w).alloc (.cells #[S (R s.a.x),S (R s.a.y),S (R s.b.x),S (R s.b.y)] 140)).alloc (.cells #[S [],S [],S [],S []] 140);have hb1:=(Below.heap_alloc (w.alloc (.cells #[S (R s.a.x),S (R s.a.y),S (R s.b.x),S (R s.b.y)] 140)) (.cells #[S [],S [],S [],S []] 140) w.heap.size (by simp)).trans (Ao6 w (.cells #[S (R s.a.x),S (R s.a.y),S (R s.b.x),S (R s.b.y)] 140));have hb2:=Ao6 (w.alloc (.cells #[S (R s.a.x),S (R s.a.y),S (R s.b.x),S (R s.b.y)] 140)) (.cells #[S [],S [],S [],S []] 140);rw [AoE]at hb2;obtain⟨b',o',hA,g1,g2⟩:=Co Bf hm;have hlt:=World.block_lt_of_cell? w _ g1;simp only at hlt;replace g1:=hE.cellS g1;replace g2:=hE.cellS g2;have hN:=h.ext hE;rw [←hp]at g1 g2;obtain⟨n,Jz⟩:=Ao3 e.2.length;rw [←Jz]at hj htm hv hn hc1 ix hm;clear hp hf Jz Bf;unfold AC;go_enter Tryz.func153,Tryz.ntmps153
 go_upto_region 1 with fail
 rw [show (⟨#[]⟩:ByteArray)=⟨([]:Bs).toArray⟩from rfl];generalize (w.alloc (.cells #[S (R s.a.x),S (R s.a.y),S (R s.b.x),S (R s.b.y)] 140)).alloc (.cells #[S [],S [],S [],S []] 140)=V at *;obtain⟨bb,Br⟩:=Ao3 w.heap.size;have hle:w.heap.size<=bb+1:=(by omega);rw [←Br]at hb1 hb2 hlt ⊢;have fE:¬(b'=bb+1):=(by omega);have G1:¬(bb+1=b'):=(by omega);clear Br;have q2:∀q:Ad V,q.w.cell? ⟨r,1,none⟩=some (.map (some b2)):=Ad.cell (Aa hN.cell rfl);have q3:∀q:Ad V,q.w.cell? ⟨bb,2,none⟩=some (S (R s.b.x)):=Ad.cell (Aa hb1 rfl);have q4:∀q:Ad V,q.w.cell? ⟨bb,3,none⟩=some (S (R s.b.y)):=Ad.cell (Aa hb1 rfl)
 have q5:∀q:Ad V,(Instr.lookup 96 (.map (some b2)) (Ak s.b) false).run Tryz.prog q.w=.ok (.slice A n c) q.w:=fun q=>by rw [Rf QE s.b E (W:=q.w) ((q.h.block b2 hN.ar.lt).trans hN.ar.blk),hv]
 unfold Ak at q5 ix;refine Di (by kernel_rfl) (by kernel_rfl) ?_
 repeat (go_big_quiet_step (fail))
 refine wpQuiet_nil ?_;rintro _ ⟨q,rfl⟩;obtain⟨W1,hx1⟩:=q;have k1:=hx1.cellS (Aa (o:=0) hb1 rfl);have k2:=hx1.cellS (Aa (o:=1) hb1 rfl);have iW:=ix W1 (hE.trans hx1);rw [hA]at iW hv;simp only;clear ix;(go_wp2_with fail);(with_reducible refine iW.mono ?_);rintro e w2 ⟨rfl,hx2⟩;replace hx2:=hx1.trans hx2;have Bl:=(hx2.block _ (Ao5 hb1)).trans hb1;have BH:=(hx2.block _ (Ao5 hb2)).trans hb2;have f1:=hx2.cellS g1;have f2:=hx2.cellS g2;have e1:=Aa (o:=2) Bl rfl;have e2:=Aa (o:=3) Bl rfl;have y0:=Aj (o:=0) BH;have y1:=Aj (o:=1) BH;have y2:=Aj (o:=2) BH;have y3:=Aj (o:=3) BH;have z0:=Aa (o:=0) BH rfl;have z1:=Aa (o:=1) BH rfl;have z2:=Aa (o:=2) BH rfl;have z3:=Aa (o:=3) BH rfl;clear k1 k2 q2 q3 q4 q5 hN h g1 g2 iW;have Gc:(n:Int)≠0:=(by omega);have Jy:¬n=0:=(by omega);have a1:IntKind.i64.wrap ((j:Int)+n)=(j:Int)+n:=AoD _ (by omega);have a2:IntKind.i64.wrap ((j:Int)+n-1)=(j:Int)+n-1:=AoD _ (by omega);have a3:IntKind.i64.wrap (m':Int)=(m':Int):=AoD _ (by omega);have a4:(0:Int)<=(m':Int):=(by omega);have a5:(m':Int)<(n:Int):=by omega
 go_upto_region 3 with fail
 go_region_held3 (fun w'=>w'.cell? ⟨bb,2,none⟩=some (S (R s.b.x))/\w'.cell? ⟨bb,3,none⟩=some (S (R s.b.y))/\w'.cell? ⟨b',o'+m'*2,none⟩=some (S (R p.x))/\w'.cell? ⟨b',o'+m'*2+1,none⟩=some (S (R p.y)))
  (first|go_keep|(simp [World.cell?_setCell,fE,G1];go_keep)) (fail)
 have hq:=PD (S (R s.b.x)) (S (R s.b.y)) (S (R p.x)) (S (R p.y)) BH;have q0:=(Ab.refl _).drew.cellS (Aa (o:=0) hq rfl);have q1:=(Ab.refl _).drew.cellS (Aa (o:=1) hq rfl);have q2:=(Ab.refl _).drew.cellS (Aa (o:=2) hq rfl);have q3:=(Ab.refl _).drew.cellS (Aa (o:=3) hq rfl);clear hq;go_wp2;refine bodyPost_ret (v:=.agg #[S (R s.b.x),S (R s.b.y),S (R p.x),S (R p.y)]) (by simp [results,Tryz.results153,go_sem,q0,q1,q2,q3]) rfl ?_;have Dp:=hE.trans hx2;exact⟨rfl,((((Dp.setCell (p:=⟨bb+1,0,none⟩) hle _).setCell (p:=⟨bb+1,1,none⟩) hle _).setCell (p:=⟨bb+1,2,none⟩) hle _).setCell (p:=⟨bb+1,3,none⟩) hle _).drew⟩
section
open Go.ChangeMaps (setBlock)
section
variable {α : Type} (enc : α → Value)
structure Da(W:World)(r b:Nat)(E:List (α×Value×Nat))(seen:List Nat):Prop where
 it:W.heap[r]?=some (.mapIter (some b) E.length seen.toArray E.length)
 nd:seen.Nodup
 lt:∀i∈seen,i<E.length
theorem Da.range{W:World}{b:Nat}{E:List (α×Value×Nat)}{t k e:TypeId}(ht:Tryz.prog.underlying t=some (.map k e))(hb:W.heap[b]?=some (.map (AN enc E).toArray E.length)) :
  (Instr.range t (.map (some b))).run Tryz.prog W=.ok (.pointer (some ⟨W.heap.size,0,none⟩)) (W.alloc (.mapIter (some b) E.length #[] E.length))/\Da (W.alloc (.mapIter (some b) E.length #[] E.length)) W.heap.size b E []:=
 ⟨run_range_map W t k e b _ _ ht hb,Ao6 _ _,List.nodup_nil,by simp⟩
theorem Da.keep{W W':World}{r b:Nat}{E:List (α×Value×Nat)}{seen:List Nat}(h:Da W r b E seen)(hk:W'.heap[r]?=W.heap[r]?):Da W' r b E seen:=⟨hk.trans h.it,h.nd,h.lt⟩
theorem AdA{E:List (α×Value×Nat)}(hst:∀i (h:i<E.length),E[i].2.2=i):(AN enc E).map (·.born)=List.range E.length:=by
 apply List.ext_getElem
 ·simp [AN]
 ·intro i h1 h2;simp [AN]at h1 ⊢;exact hst i h1
theorem Da.next{W:World}{r b:Nat}{E:List (α×Value×Nat)}{seen:List Nat}(h:Da W r b E seen)(hb:W.heap[b]?=some (.map (AN enc E).toArray E.length))(hst:∀i (h:i<E.length),E[i].2.2=i)(hne:r≠b)(ty:TypeId) :
  (seen.length=E.length/\(Instr.next (.pointer (some ⟨r,0,none⟩)) false ty).run Tryz.prog W=.ok (.tuple #[.bool false]) W)∨
  ∃i,∃hi:i<E.length,i∉seen/\∃W',Da W' r b E (seen ++ [i])/\W.grownBy W' (some r)/\W'.heap.size=W.heap.size/\
   (Instr.next (.pointer (some ⟨r,0,none⟩)) false ty).run Tryz.prog W=.ok (.tuple #[.bool true,enc E[i].1,E[i].2.1]) W'/\
   (∀V,V.heap[r]?=W'.heap[r]?→V.heap[b]?=W'.heap[b]?→(Instr.entry (.pointer (some ⟨r,0,none⟩))).run Tryz.prog V=.ok (.tuple #[enc E[i].1,E[i].2.1]) V):=by
 have Cx:=AdA enc hst
 have hold:∀x∈(AN enc E).toArray.toList,x.born<E.length:=by
  intro x hx;have:x.born∈(AN enc E).map (·.born):=List.mem_map_of_mem hx;rw [Cx]at this
  simpa using this
 have C6:((AN enc E).toArray.toList.map (·.born)).Nodup:=by show ((AN enc E).map (·.born)).Nodup;rw [Cx];exact List.nodup_range
 rcases run_next_at (P:=Tryz.prog) W ty r b E.length E.length seen.toArray (AN enc E).toArray E.length h.it hb hold (Ao7 _)with⟨h0,hrun⟩|⟨x,hx,w1,hw1,hrun⟩
 ·left
  refine⟨?_,hrun⟩;have hall:=all_seen _ _ h0
  have Agm:List.range E.length ⊆ seen:=by
   intro i hi;rw [←Cx]at hi;obtain⟨x,hx,rfl⟩:=List.mem_map.1 hi;have:=hall x hx
   simpa using this
  have h1:E.length<=seen.length:=by
   have:=(List.nodup_range (n:=E.length)).length_le_of_subset Agm
   simpa using this
  have h2:seen.length<=E.length:=by
   have hs:seen ⊆ List.range E.length:=fun i hi=>(by simpa using h.lt i hi);have:=h.nd.length_le_of_subset hs
   simpa using this
  omega
 ·right
  obtain⟨iy,LO⟩:=mem_left hx;obtain⟨i,hi,hxi⟩:=List.getElem_of_mem iy;have hi':i<E.length:=(by simpa [AN]using hi);have IH:x=⟨enc E[i].1,E[i].2.1,E[i].2.2⟩:=(by rw [←hxi];simp [AN]);have hb0:x.born=i:=(by rw [IH];exact hst i hi');have hkey:x.key=enc E[i].1:=(by rw [IH]);have hval:x.val=E[i].2.1:=(by rw [IH]);have GY:i∉seen:=by rw [hb0]at LO;simpa using LO
  have hr1:w1.heap[r]?=W.heap[r]?:=by rcases hw1 with rfl|rfl<;>rfl
  have hb1:w1.heap[b]?=W.heap[b]?:=by rcases hw1 with rfl|rfl<;>rfl
  have hG:W.grownBy (setBlock w1 r (.mapIter (some b) E.length (seen.toArray.push x.born) E.length)) (some r):=by
   rcases hw1 with rfl|rfl
   ·exact Ll h.it
   ·exact⟨rfl,rfl,rfl,by simp [setBlock],fun k _ hk=>UA (fun e=>hk (by rw [e]))⟩
  have hit:=Mi (o:=.mapIter (some b) E.length (seen.toArray.push x.born) E.length) (hr1.trans h.it);refine⟨i,hi',GY,_,⟨?_,?_,?_⟩,hG,?_,?_,?_⟩
  ·rw [hit,hb0];simp
  ·rw [List.nodup_append];refine⟨h.nd,by simp,?_⟩;intro a ha c hc;simp only [AoJ]at hc;subst hc;intro e;rw [e]at ha;exact GY ha
  ·intro k hk
   rcases List.mem_append.1 hk with hk|hk
   ·exact h.lt k hk
   ·simp only [AoJ]at hk;omega
  ·rcases hw1 with rfl|rfl<;>simp [setBlock]
  ·rw [hrun,hkey,hval]
  ·intro V hVr hVb;rw [←hkey,←hval];exact run_entry_at V r b E.length seen.toArray (AN enc E).toArray E.length x (hVr.trans hit) (hVb.trans ((UA (Ne.symm hne)).trans (hb1.trans hb))) iy C6
end
end
theorem vk{s:Sg}{x:Rat}{k:Nat}(hs:EP k s)(hx:Sz k x):Sz (7*k+5) (BW s x):=
 (hs.a.y.add (((hx.sub hs.a.x).div (by omega) (hs.b.x.sub hs.a.x)).mul (hs.b.y.sub hs.a.y))).mono (by omega)
def Iz(p:Pt)(st:Option (Sg×Rat))(s:Sg):Option (Sg×Rat):=
 if 0<=Bo s.a.x p.x then st else if Bo s.b.x p.x<0 then st else if 0<=Bo (BW s p.x) p.y then st else
 match st with
 | none=>some (s,BW s p.x)
 | some (b,h)=>
  if Bo (BW s p.x) h=0 then (if 0<AZ (Ar s.b s.a b.a)then some (s,BW s p.x)else st)
  else if 0<Bo (BW s p.x) h then some (s,BW s p.x)else st
def eP:Option (Sg×Rat)→Value
 | none=>S []
 | some (_,h)=>S (R h)
def VD:Option (Sg×Rat)→Array Value
 | none=>#[S [],S [],S [],S []]
 | some (s,_)=>#[S (R s.a.x),S (R s.a.y),S (R s.b.x),S (R s.b.y)]
def Sa(st:Option (Sg×Rat)):Value:=.agg (VD st)
def CS(p:Pt)(l:List Sg):Option (Sg×Rat):=l.foldl (Iz p) none
theorem pV(p:Pt)(l:List Sg)(s:Sg):CS p (l ++ [s])=Iz p (CS p l) s:=by simp [CS]
theorem Fh{α:Type}{W:World}{r b:Nat}{E:List (α×Value×Nat)}{seen:List Nat}(h:Da W r b E seen):(W.iterSeen r).size=seen.length:=by
 unfold World.iterSeen;rw [h.it];simp
structure Rs(w wr:World)(b1 bb r:Nat)(L:List (Sg×Int))(p:Pt)(seen:List Nat)(st:Option (Sg×Rat)):Prop where
 ext:Ab w wr
 box:wr.heap[bb]?=some (.cells #[S (R p.x),S (R p.y)] 24)
 best:wr.heap[bb+1]?=some (.cells (VD st) 140)
 iter:Da wr r b1 (stamp L) seen
def V8(p:Pt)(st:Option (Sg×Rat))(s:Sg):Option (Sg×Rat):=
 match st with
 | none=>some (s,BW s p.x)
 | some (b,h)=>if Bo (BW s p.x) h=0 then (if 0 < AZ (Ar s.b s.a b.a)then some (s,BW s p.x)else some (b,h))else if 0 < Bo (BW s p.x) h then some (s,BW s p.x)else some (b,h)
theorem Acb(p:Pt)(st:Option (Sg×Rat))(s:Sg):Iz p st s=if 0<=Bo s.a.x p.x then st else if Bo s.b.x p.x<0 then st else if 0<=Bo (BW s p.x) p.y then st else V8 p st s:=by
 cases st<;>rfl
theorem ZA(st:Option (Sg×Rat)):∃c0 c1 c2 c3:Bs,VD st=#[S c0,S c1,S c2,S c3]:=by
 cases st with
 | none=>exact⟨_,_,_,_,rfl⟩
 | some x=>exact⟨_,_,_,_,rfl⟩
theorem lU(L:List (Sg×Int)):∀i (h:i<(stamp L).length),(stamp L)[i].2.2=i:=by
 intro i h;simp [stamp]
theorem Yy(L:List (Sg×Int)){i:Nat}(h:i<(stamp L).length):(stamp L)[i].1=(L[i]'(by rw [DK]at h;exact h)).1:=by simp [stamp]
theorem lW(L:List (Sg×Int)){i:Nat}(h:i<(stamp L).length):(stamp L)[i].2.1=.int .i64 (L[i]'(by rw [DK]at h;exact h)).2:=by simp [stamp]
theorem qy{β:Type}(L:List β):(List.range L.length).filterMap (fun i=>L[i]?)=L:=by
 have h:∀n,n<=L.length→(List.range n).filterMap (fun i=>L[i]?)=L.take n:=by
  intro n
  induction n with
  | zero=>intro _;simp
  | succ n ih=>intro hn;rw [List.range_succ,List.filterMap_append,ih (by omega),AoA (by omega)];simp [AoC (show n<L.length by omega)]
 rw [h _ (Ao7 _),List.take_length]
theorem sf(L:List (Sg×Int)){seen:List Nat}(C6:seen.Nodup)(hlt:∀i∈seen,i<(stamp L).length)(hlen:seen.length=(stamp L).length):(seen.filterMap (fun i=>L[i]?.map (·.1))).Perm (L.map (·.1)):=by
 rw [DK]at hlt hlen
 have hmem:∀i,i<L.length→i∈seen:=by
  intro i hi;refine Classical.byContradiction fun hn=>?_;have h1:(i::seen).Nodup:=List.nodup_cons.2 ⟨hn,C6⟩
  have h2:(i::seen) ⊆ List.range L.length:=by
   intro j hj
   rcases List.mem_cons.1 hj with rfl|hj
   ·simpa using hi
   ·simpa using hlt j hj
  have:=h1.length_le_of_subset h2;simp at this;omega
 have hp:seen.Perm (List.range L.length):=by
  rw [List.perm_iff_count];intro i;rw [C6.count,(List.nodup_range).count];by_cases hi:i<L.length
  ·rw [if_pos (hmem i hi),if_pos (by simpa using hi)]
  ·rw [if_neg (fun h=>hi (hlt i h)),if_neg (by simpa using hi)]
 refine(hp.filterMap _).trans ?_
 have e:(List.range L.length).filterMap (fun i=>L[i]?.map (·.1))=L.map (·.1):=by
  have e1:(List.range L.length).filterMap (fun i=>L[i]?.map (·.1))=((List.range L.length).filterMap (fun i=>L[i]?)).map (·.1):=(by rw [List.map_filterMap]);rw [e1]
  congr 1
  exact qy L
 rw [e]
theorem Rs.put{w w':World}{b1 bb:Nat}{L:List (Sg×Int)}{p:Pt}{seen:List Nat}{st:Option (Sg×Rat)}(hB:Rs w w' b1 bb (bb+2) L p seen st)(hle:w.heap.size<=bb)(s:Sg)(y:Rat) :
  Rs w ((((w'.setCell ⟨bb+1,0,none⟩ (S (R s.a.x))).setCell ⟨bb+1,1,none⟩ (S (R s.a.y))).setCell ⟨bb+1,2,none⟩ (S (R s.b.x))).setCell ⟨bb+1,3,none⟩ (S (R s.b.y))) b1 bb (bb+2) L p seen (some (s,y)):=by
 obtain⟨c0,c1,c2,c3,hc⟩:=ZA st;have hb:=hB.best;rw [hc]at hb
 have far:∀(X:World) (o:Nat) (v:Value) (q:Nat),q≠bb+1→(X.setCell ⟨bb+1,o,none⟩ v).heap[q]?=X.heap[q]?:=by intro X o v q hq;simp only [World.setCell,Array.getElem?_modify];rw [if_neg (by omega)]
 refine⟨(((hB.ext.setCell (p:=⟨bb+1,0,none⟩) (by simp;omega) _).setCell (p:=⟨bb+1,1,none⟩) (by simp;omega) _).setCell (p:=⟨bb+1,2,none⟩) (by simp;omega) _).setCell (p:=⟨bb+1,3,none⟩) (by simp;omega) _,?_,PD _ _ _ _ hb,hB.iter.keep ?_⟩
 ·rw [far _ _ _ _ (by omega),far _ _ _ _ (by omega),far _ _ _ _ (by omega),far _ _ _ _ (by omega)];exact hB.box
 ·rw [far _ _ _ _ (by omega),far _ _ _ _ (by omega),far _ _ _ _ (by omega),far _ _ _ _ (by omega)]
theorem pW{B:Nat}{w:World}{rn b1 b2:Nat}{L:List (Sg×Int)}{E:List (Pt×Value×Nat)}{R0:List (Pt×List Pt)}(h:BD B w rn b1 b2 L E R0)(p:Pt){k:Nat}(hL:∀e∈L,EP k e.1)(hp:Az k p)(hk:0<k)(hk2:k<=200)(hw:Am w) :
  Calls Tryz.prog 113 #[.pointer (some ⟨rn,0,none⟩),Ak p] w fun e w'=>∃l:List Sg,l.Perm (L.map (·.1))/\e=.returned (.tuple #[Sa (CS p l),.bool (CS p l).isSome])/\Ab w w':=by
 have hE:=((Ab.refl w).alloc (.cells #[S (R p.x),S (R p.y)] 24)).alloc (.cells #[S [],S [],S [],S []] 140);have hb1:=(Below.heap_alloc (w.alloc (.cells #[S (R p.x),S (R p.y)] 24)) (.cells #[S [],S [],S [],S []] 140) w.heap.size (by simp)).trans (Ao6 w (.cells #[S (R p.x),S (R p.y)] 24));have hb2:=Ao6 (w.alloc (.cells #[S (R p.x),S (R p.y)] 24)) (.cells #[S [],S [],S [],S []] 140);rw [AoE]at hb2;have hN:=h.ext hE;unfold Ak;go_enter Tryz.func113,Tryz.ntmps113
 go_upto_region 2 with fail
 rw [show (⟨#[]⟩:ByteArray)=⟨([]:Bs).toArray⟩from rfl];have hsz:((w.alloc (.cells #[S (R p.x),S (R p.y)] 24)).alloc (.cells #[S [],S [],S [],S []] 140)).heap.size=w.heap.size+2:=(by simp);generalize (w.alloc (.cells #[S (R p.x),S (R p.y)] 24)).alloc (.cells #[S [],S [],S [],S []] 140)=V at *;obtain⟨bb,Br⟩:=Ao3 w.heap.size;have hle:w.heap.size<=bb:=(by omega);have G0:bb<=w.heap.size:=(by omega);rw [←Br]at hb1 hb2 hsz ⊢;clear Br;have n1:=Aa (o:=0) hN.cell rfl;have hrg:=Da.range (enc:=AC) (E:=stamp L) (t:=95) Tryz.underlying95 (W:=V) (b:=b1) (by rw [DK];exact hN.left);obtain⟨hr1,hr2⟩:=hrg;rw [hsz]at hr1 hr2;have hEI:=hE.alloc (.mapIter (some b1) (stamp L).length #[] (stamp L).length);have Tg:=(Below.heap_alloc V (.mapIter (some b1) (stamp L).length #[] (stamp L).length) bb (by omega)).trans hb1;have dG:=(Below.heap_alloc V (.mapIter (some b1) (stamp L).length #[] (stamp L).length) (bb+1) (by omega)).trans hb2;clear hb1 hb2
 go_upto_region 3 with fail
 generalize V.alloc (.mapIter (some b1) (stamp L).length #[] (stamp L).length)=V2 at *
 go_loopw [5,6] (fun f hi wr=>∃(seen:List Nat) (st:Option (Sg×Rat)),f=.bool st.isSome/\hi=eP st/\Rs w wr b1 bb (bb+2) L p seen st/\st=CS p (seen.filterMap (fun i=>L[i]?.map (·.1)))/\(∀x,st=some x→EP k x.1/\x.2=BW x.1 p.x)) (fun _ _ wr=>L.length-(wr.iterSeen (bb+2)).size)
 case atStart=>exact⟨[],none,rfl,rfl,⟨hEI,Tg,dG,hr2⟩,rfl,by simp⟩
 case round=>
  obtain⟨seen,st,rfl,rfl,hB,hst,J4⟩:=hrel;have hb0:=(hB.ext.block b1 (Ao5 h.left)).trans h.left;rw [←DK]at hb0;have GX:=Ao5 h.left;obtain⟨c0,c1,c2,c3,hc⟩:=ZA st;have IB:=hB.best;rw [hc]at IB
  rcases Da.next AC hB.iter hb0 (lU L) (by omega) 0 with⟨hlen,hrun⟩|⟨i,hi,GY,W1,EW,hG1,hs1,hrun,hen⟩
  ·have y0:=Aj (o:=0) IB;have y1:=Aj (o:=1) IB;have y2:=Aj (o:=2) IB;have y3:=Aj (o:=3) IB;have z0:=Aa (o:=0) IB rfl;have z1:=Aa (o:=1) IB rfl;have z2:=Aa (o:=2) IB rfl;have z3:=Aa (o:=3) IB rfl;have hq:=PD (S c0) (S c1) (S c2) (S c3) IB;have q0:=Aa (o:=0) hq rfl;have q1:=Aa (o:=1) hq rfl;have q2:=Aa (o:=2) hq rfl;have q3:=Aa (o:=3) hq rfl;have hP:=sf L hB.iter.nd hB.iter.lt hlen;have hX:=hB.ext;rw [hst]at hc;have hV:Sa (CS p (seen.filterMap (fun i=>L[i]?.map (·.1))))=.agg #[S c0,S c1,S c2,S c3]:=(by unfold Sa;rw [hc]);obtain⟨fb,hfb⟩:=Ao3 st.isSome;have dZ:=hfb;rw [hst]at dZ;rw [←hfb];clear hq IB hB hc hfb J4 hst;go_wp2;refine bodyPost_ret (v:=.tuple #[.agg #[S c0,S c1,S c2,S c3],.bool fb]) (by simp [results,Tryz.results113,go_sem,q0,q1,q2,q3,dZ])  rfl ?_;exact⟨_,hP,by rw [hV,dZ],(((hX.setCell (p:=⟨bb+1,0,none⟩) (by simp;omega) _).setCell (p:=⟨bb+1,1,none⟩) (by simp;omega) _).setCell (p:=⟨bb+1,2,none⟩) (by simp;omega) _).setCell (p:=⟨bb+1,3,none⟩) (by simp;omega) _⟩
  ·have L9:i<L.length:=(by rw [DK]at hi;exact hi);rw [Yy,lW]at hrun hen;have hsk:EP k (L[i]).1:=hL _ (Ao8 L9)
   have hstep:CS p ((seen ++ [i]).filterMap (fun i=>L[i]?.map (·.1)))=Iz p st (L[i]).1:=by rw [List.filterMap_append,hst];simp only [List.filterMap_cons,List.filterMap_nil,AoC L9,Option.map_some];rw [pV]
   have hlen':seen.length<L.length:=by
    have h2:(i::seen) ⊆ List.range L.length:=by
     intro j hj
     rcases List.mem_cons.1 hj with rfl|hj
     ·simpa using L9
     ·have:=hB.iter.lt j hj;rw [DK]at this;simpa using this
    have:=(List.nodup_cons.2 ⟨GY,hB.iter.nd⟩).length_le_of_subset h2;simp at this;omega
   have FA:=Fh hB.iter;have X1:Ab w W1:=S2 hB.ext hG1 (by omega);have qK:=(hG1.block bb (Ao5 hB.box) (by simp)).trans hB.box;have pY:=(hG1.block (bb+1) (Ao5 hB.best) (by simp)).trans hB.best;have GT:=hen W1 rfl rfl;obtain⟨s,hs⟩:=Ao3 ((L[i]).1);obtain⟨z,hz⟩:=Ao3 ((L[i]).2);rw [←hs,←hz]at GT hrun;rw [←hs]at hsk hstep;have EY:=Ao6 W1 (.cells #[S (R s.a.x),S (R s.a.y),S (R s.b.x),S (R s.b.y)] 140);have E3:=(Ab.refl W1).alloc (.cells #[S (R s.a.x),S (R s.a.y),S (R s.b.x),S (R s.b.y)] 140)
   have KEEP:∀w',Ab (W1.alloc (.cells #[S (R s.a.x),S (R s.a.y),S (R s.b.x),S (R s.b.y)] 140)) w'→Rs w w' b1 bb (bb+2) L p (seen ++ [i]) st:=fun w' hx=>
    have hy:=E3.trans hx
    ⟨X1.trans hy,(hy.block _ (Ao5 qK)).trans qK,(hy.block _ (Ao5 pY)).trans pY,EW.keep (hy.block _ (Ao5 EW.it))⟩
   clear hen hs hz IB hb0 hG1 hr1 hr2 hB hN;unfold AC at GT hrun
   go_upto_region 5 with fail
   unfold S at EY E3 KEEP;rw [hs1]at EY;generalize (W1.alloc (.cells #[.string ⟨(R s.a.x).toArray⟩,.string ⟨(R s.a.y).toArray⟩,.string ⟨(R s.b.x).toArray⟩,.string ⟨(R s.b.y).toArray⟩] 140))=V3 at *;obtain⟨bs,B7⟩:=Ao3 wr.heap.size;rw [←B7]at EY ⊢;clear hrun GT B7 hs1 hst;have okV:=hw.ext (X1.trans E3);have B0:=(KEEP V3 (Ab.refl _)).box
   have F:∀w',Ab V3 w'→(w'.cell? ⟨bb,0,none⟩=some (S (R p.x))/\w'.cell? ⟨bb,1,none⟩=some (S (R p.y))/\w'.cell? ⟨bs,0,none⟩=some (S (R s.a.x))/\w'.cell? ⟨bs,1,none⟩=some (S (R s.a.y))/\w'.cell? ⟨bs,2,none⟩=some (S (R s.b.x))/\w'.cell? ⟨bs,3,none⟩=some (S (R s.b.y))):=fun w' h=>⟨h.cellS (Aa B0 rfl),h.cellS (Aa B0 rfl),h.cellS (Aa EY rfl),h.cellS (Aa EY rfl),h.cellS (Aa EY rfl),h.cellS (Aa EY rfl)⟩
   clear B0 EY;have cA:=K2 s.a.x p.x (a:=k) (b:=k) ⟨hsk.a.x,hp.x,hk,hk,by omega⟩;have cB:=K2 s.b.x p.x (a:=k) (b:=k) ⟨hsk.b.x,hp.x,hk,hk,by omega⟩
   have C3:Iz p st s=if 0<=Bo s.a.x p.x then st else if Bo s.b.x p.x<0 then st else if 0<=Bo (BW s p.x) p.y then st else V8 p st s:=Acb p st s
   obtain⟨xa,AQ⟩:=Ao3 (Bo s.a.x p.x);obtain⟨xb,hxb⟩:=Ao3 (Bo s.b.x p.x);rw [←AQ]at cA C3;rw [←hxb]at cB C3;obtain⟨f1,f2,f3,f4,f5,f6⟩:=F V3 (Ab.refl _);(go_wp2_with fail);(with_reducible refine(cA _ okV).mono ?_);rintro e w1 ⟨rfl,hx1⟩;clear f1 f2 f3 f4 f5 f6 cA;obtain⟨f1,f2,f3,f4,f5,f6⟩:=F w1 hx1;by_cases a1:0<=xa
   ·have d1:decide (0<=xa)=true:=decide_eq_true a1;have hb1:Iz p st s=st:=(by rw [C3,if_pos a1]);clear C3 cB F;go_wp2;go_roundw
    case rel=>exact⟨seen ++ [i],st,rfl,rfl,KEEP _ hx1,by rw [hstep];exact(hb1).symm,J4⟩
    case measure=>rw [FA,Fh (KEEP _ hx1).iter,List.length_append,List.length_singleton];omega
   have d1:decide (0<=xa)=false:=decide_eq_false a1;rw [if_neg a1]at C3;(go_wp2_with fail);(with_reducible refine(cB _ (okV.ext hx1)).mono ?_);rintro e w2 ⟨rfl,hx2⟩;replace hx2:=hx1.trans hx2;clear f1 f2 f3 f4 f5 f6 cB hx1;obtain⟨f1,f2,f3,f4,f5,f6⟩:=F w2 hx2;by_cases a2:xb<0
   ·have d2:decide (xb<0)=true:=decide_eq_true a2;have hb1:Iz p st s=st:=(by rw [C3,if_pos a2]);clear C3 F;go_wp2;go_roundw
    case rel=>exact⟨seen ++ [i],st,rfl,rfl,KEEP _ hx2,by rw [hstep];exact(hb1).symm,J4⟩
    case measure=>rw [FA,Fh (KEEP _ hx2).iter,List.length_append,List.length_singleton];omega
   have d2:decide (xb<0)=false:=decide_eq_false a2;rw [if_neg a2]at C3
   have h0:s.b.x≠s.a.x:=by have q1:=VG s.a.x p.x;have q2:=VG s.b.x p.x;rw [←AQ]at q1;rw [←hxb]at q2;have q3:s.a.x<p.x:=q1.1 (by omega);have q4:¬s.b.x<p.x:=fun h=>a2 (q2.2 h);intro e;rw [e]at q4;exact q4 q3
   have ch:=Afp s p.x hsk hp.x hk (by omega) h0;unfold AC at ch;have iM:=vk hsk hp.x;obtain⟨y,hy⟩:=Ao3 (BW s p.x);rw [←hy]at ch iM C3;have cC:=K2 y p.y (a:=7*k+5) (b:=k) ⟨iM,hp.y,by omega,hk,by omega⟩;obtain⟨xc,N4⟩:=Ao3 (Bo y p.y);rw [←N4]at cC C3;have HY:=Ao4 hy;clear AQ hxb N4 h0 hy;(go_wp2_with fail);(with_reducible refine(ch _ (okV.ext hx2)).mono ?_);rintro e w3 ⟨rfl,hx3⟩;replace hx3:=hx2.trans hx3;clear f1 f2 f3 f4 f5 f6 ch hx2;obtain⟨f1,f2,f3,f4,f5,f6⟩:=F w3 hx3;(go_wp2_with fail);(with_reducible refine(cC _ (okV.ext hx3)).mono ?_);rintro e w4 ⟨rfl,Ag⟩;replace Ag:=hx3.trans Ag;clear f1 f2 f3 f4 f5 f6 cC hx3;obtain⟨f1,f2,f3,f4,f5,f6⟩:=F w4 Ag;by_cases a3:0<=xc
   ·have d3:decide (0<=xc)=true:=decide_eq_true a3;have hb1:Iz p st s=st:=(by rw [C3,if_pos a3]);clear C3 F;go_wp2;go_roundw
    case rel=>exact⟨seen ++ [i],st,rfl,rfl,KEEP _ Ag,by rw [hstep];exact hb1.symm,J4⟩
    case measure=>rw [FA,Fh (KEEP _ Ag).iter,List.length_append,List.length_singleton];omega
   have d3:decide (0<=xc)=false:=decide_eq_false a3;rw [if_neg a3]at C3;have K4:=KEEP w4 Ag
   cases st with
   | none=>
    have LJ:V8 p none s=some (s,y):=(by rw [HY.out];rfl);rw [LJ]at C3;have y0:=Aj (o:=0) K4.best;have y1:=Aj (o:=1) K4.best;have y2:=Aj (o:=2) K4.best;have y3:=Aj (o:=3) K4.best;have z0:=Aa (o:=0) K4.best rfl;have z1:=Aa (o:=1) K4.best rfl;have z2:=Aa (o:=2) K4.best rfl;have z3:=Aa (o:=3) K4.best rfl;have K5:=K4.put hle s y;unfold eP;clear K4 F KEEP LJ;go_wp2;go_roundw
    case rel=>exact⟨seen ++ [i],some (s,y),rfl,rfl,K5,by rw [hstep];exact C3.symm,by rintro x hx;simp only [AoB]at hx;rw [←hx];exact⟨hsk,HY.out⟩⟩
    case measure=>rw [FA,Fh K5.iter,List.length_append,List.length_singleton];omega
   | some bh=>
    obtain⟨b,hh⟩:=bh;obtain⟨dO,eO⟩:=J4 _ rfl;simp only at dO eO;have zH:Sz (7*k+5) hh:=(by rw [eO];exact vk dO hp.x);have cD:=K2 y hh (a:=7*k+5) (b:=7*k+5) ⟨iM,zH,by omega,by omega,by omega⟩
    have LJ:V8 p (some (b,hh)) s=if Bo y hh=0 then (if 0<AZ (Ar s.b s.a b.a)then some (s,y)else some (b,hh))else if 0<Bo y hh then some (s,y)else some (b,hh):=by rw [HY.out];rfl
    rw [LJ]at C3;obtain⟨xd,LN⟩:=Ao3 (Bo y hh);rw [←LN]at cD C3;clear LN LJ eO zH hc;clear K4;unfold eP;(go_wp2_with fail);(with_reducible refine(cD _ (okV.ext Ag)).mono ?_);rintro e w5 ⟨rfl,Ae⟩;replace Ae:=Ag.trans Ae;clear f1 f2 f3 f4 f5 f6 cD Ag;obtain⟨f1,f2,f3,f4,f5,f6⟩:=F w5 Ae;have K5:=KEEP w5 Ae;by_cases a4:xd=0
    ·subst a4;rw [if_pos rfl]at C3;have cE:=Mb s.b s.a b.a hsk.b hsk.a dO.a hk (by omega);unfold Ak at cE;obtain⟨xe,IH⟩:=Ao3 (AZ (Ar s.b s.a b.a));rw [←IH]at cE C3;clear IH;have z0:w5.cell? ⟨bb+1,0,none⟩=some (S (R b.a.x)):=Aa (o:=0) K5.best rfl;have z1:w5.cell? ⟨bb+1,1,none⟩=some (S (R b.a.y)):=Aa (o:=1) K5.best rfl;clear K5;(go_wp2_with fail);(with_reducible refine(cE _ (okV.ext Ae)).mono ?_);rintro e w6 ⟨rfl,AG⟩;replace AG:=Ae.trans AG;clear f1 f2 f3 f4 f5 f6 cE Ae z0 z1;obtain⟨f1,f2,f3,f4,f5,f6⟩:=F w6 AG;have K6:=KEEP w6 AG;by_cases a5:0<xe
     ·have d5:decide (0<xe)=true:=decide_eq_true a5;rw [if_pos a5]at C3;have y0:=Aj (o:=0) K6.best;have y1:=Aj (o:=1) K6.best;have y2:=Aj (o:=2) K6.best;have y3:=Aj (o:=3) K6.best;have z0:=Aa (o:=0) K6.best rfl;have z1:=Aa (o:=1) K6.best rfl;have z2:=Aa (o:=2) K6.best rfl;have z3:=Aa (o:=3) K6.best rfl;have K9:=K6.put hle s y;clear K6 F KEEP;go_wp2;go_roundw
      case rel=>exact⟨seen ++ [i],some (s,y),rfl,rfl,K9,by rw [hstep];exact C3.symm,by rintro x hx;simp only [AoB]at hx;rw [←hx];exact⟨hsk,HY.out⟩⟩
      case measure=>rw [FA,Fh K9.iter,List.length_append,List.length_singleton];omega
     ·have d5:decide (0<xe)=false:=decide_eq_false a5;rw [if_neg a5]at C3;go_wp2;go_roundw
      case rel=>exact⟨seen ++ [i],some (b,hh),rfl,rfl,K6,by rw [hstep];exact C3.symm,J4⟩
      case measure=>rw [FA,Fh K6.iter,List.length_append,List.length_singleton];omega
    ·have d4:decide (xd=0)=false:=decide_eq_false a4;have d4':(xd == 0)=false:=(by simpa using a4);rw [if_neg a4]at C3;by_cases a5:0<xd
     ·have d5:decide (0<xd)=true:=decide_eq_true a5;rw [if_pos a5]at C3;have y0:=Aj (o:=0) K5.best;have y1:=Aj (o:=1) K5.best;have y2:=Aj (o:=2) K5.best;have y3:=Aj (o:=3) K5.best;have z0:=Aa (o:=0) K5.best rfl;have z1:=Aa (o:=1) K5.best rfl;have z2:=Aa (o:=2) K5.best rfl;have z3:=Aa (o:=3) K5.best rfl;have K9:=K5.put hle s y;clear K5 F KEEP;go_wp2;go_roundw
      case rel=>exact⟨seen ++ [i],some (s,y),rfl,rfl,K9,by rw [hstep];exact C3.symm,by rintro x hx;simp only [AoB]at hx;rw [←hx];exact⟨hsk,HY.out⟩⟩
      case measure=>rw [FA,Fh K9.iter,List.length_append,List.length_singleton];omega
     ·have d5:decide (0<xd)=false:=decide_eq_false a5;rw [if_neg a5]at C3;go_wp2;go_roundw
      case rel=>exact⟨seen ++ [i],some (b,hh),rfl,rfl,K5,by rw [hstep];exact C3.symm,J4⟩
      case measure=>rw [FA,Fh K5.iter,List.length_append,List.length_singleton];omega
end Go.Proofs.YtnddllipjippnaaGreatDoor
