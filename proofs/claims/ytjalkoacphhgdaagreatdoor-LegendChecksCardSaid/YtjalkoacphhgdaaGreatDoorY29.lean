/- Y29: Lay M12 M13 M14 M15 M16 M18 M19 M20. -/
import Derived.Test.YtjalkoacphhgdaaGreatDoorY10
import Derived.Test.YtjalkoacphhgdaaGreatDoorY27
import Derived.Shelf.SlSortCmp.InsertionK
set_option maxRecDepth 100000
set_option maxHeartbeats 8000000
namespace Go.Proofs.YtjalkoacphhgdaaGreatDoor
open Go.RowKit Kl Go.Sort
theorem Nx{w a b:World}{r:Nat}(h:Aa w a)(hg:a.grownBy b (some r))(hr:w.heap.size<=r):Aa w b:=
 ⟨hg.os.trans h.os,hg.tape.trans h.tape,hg.output.trans h.output,AmM h.size hg.size,fun k hk=>(hg.block k (AmL hk h.size) (by simp;omega)).trans (h.block k hk)⟩
section
variable {α : Type} [Inhabited α]
theorem OR(enc:α→List Value)(k:Nat)(w:World)(blk off m:Nat)(dk:Array α)(os:Array Obj):w.grownBy (sortWorldK enc k w blk off m dk os) (some blk):=by
 refine⟨rfl,rfl,rfl,?_,fun i hi hne=>?_⟩
 ·exact size_sortWorldK_c enc k w blk off m dk os
 ·have hb:i≠blk:=fun e=>hne (by rw [e]);show ((w.heap.modify blk _)++os)[i]?=w.heap[i]?;rw [Array.getElem?_append_left (by simpa using hi),Array.getElem?_modify,if_neg (fun e=>hb e.symm)]
theorem dX{g:Nat}{cb:Array Value}{enc:α→List Value}{k:Nat}{cf:α→α→Int}{blk off size:Nat}{w:World}
  (h:∀W,w.grownBy W (some blk)→∀x y,Calls Tryz.prog g (#[.agg (enc x).toArray,.agg (enc y).toArray]++cb) W (Az (cf x y) W)):CmpLays Tryz.prog g cb enc k cf blk off size w:=by
 intro m os dk _ x y;refine(Calls.drawn (h _ (OR enc k w blk off m dk os) x y) (fun e w' h=>⟨_,h.1⟩)).mono ?_;rintro e w' ⟨⟨he,hx⟩,hd⟩;exact⟨he,hx.grow hd⟩
theorem Ajg(enc:α→List Value)(k:Nat)(w:World)(blk off m:Nat)(dk:Array α)(os:Array Obj){c:Array Value}{e:TypeId}{fr:Nat×Nat}(h:w.heap[blk]?=some (.cells c e fr)) :
  (sortWorldK enc k w blk off m dk os).heap[blk]?=some (.cells (putCells id off (flatK enc k dk) c) e fr):=by
 have hlt:=AmA h;show ((w.heap.modify blk (onCells (putCells id off (flatK enc k dk))))++os)[blk]?=_;rw [Array.getElem?_append_left (by simpa using hlt),Array.getElem?_modify,if_pos rfl,h]
 rfl
end
theorem YS{α:Type}{enc:α→List Value}{k:Nat}(hk:∀x,(enc x).length=k):∀(l:List α),(l.flatMap enc).length=l.length*k
 | []=>by simp
 | x::l=>by rw [List.flatMap_cons,List.length_append,hk,YS hk l,List.length_cons,Nat.add_mul,Nat.one_mul,Nat.add_comm]
section
variable {α : Type} [Inhabited α] {enc : α → List Value} {k : Nat}
theorem U1(hk:∀x,(enc x).length=k)(k0:0<k):∀(l:List α) (t:Nat),t<l.length*k→(l.flatMap enc)[t]?=some ((enc l[t/k]!)[t%k]!)
 | [],t,h=>by simp at h
 | x::l,t,h=>by
  rw [List.flatMap_cons];by_cases ht:t<k
  ·rw [List.getElem?_append_left (by rw [hk];exact ht),Nat.div_eq_of_lt ht,Nat.mod_eq_of_lt ht,AmH (by rw [hk];exact ht)];simp [hk,ht]
  ·have e1:t/k=(t-k)/k+1:=by rw [Nat.div_eq_sub_div k0 (by omega)]
   have e2:t%k=(t-k)%k:=by rw [Nat.mod_eq_sub_mod (by omega)]
   have hl:t-k<l.length*k:=by rw [List.length_cons,Nat.add_mul,Nat.one_mul]at h;omega
   rw [List.getElem?_append_right (by rw [hk];omega),hk,U1 hk k0 l (t-k) hl,e1,e2];simp
theorem qJ(hk:∀x,(enc x).length=k)(k0:0<k)(d:Array α):(flatK enc k d).toList=d.toList.flatMap enc:=by
 apply List.ext_getElem?;intro t;by_cases ht:t<d.size*k
 ·rw [U1 hk k0 _ _ (by simpa using ht)];have h1:t<(flatK enc k d).toList.length:=(by simpa using ht);have h2:=get_flatK enc k d t ht;rw [AmH h1]
  have h3:(flatK enc k d)[t]! = (flatK enc k d).toList[t]:=by rw [getElem!_pos _ t (by simpa using ht)];simp
  rw [←h3,h2]
  congr 1
  have h4:d[t/k]! = d.toList[t/k]!:=by have hlt:t/k<d.size:=Nat.div_lt_of_lt_mul (by rw [Nat.mul_comm];exact ht);rw [getElem!_pos d _ hlt,getElem!_pos d.toList _ (by simpa using hlt)];simp
  rw [h4]
 ·rw [List.getElem?_eq_none (by simp;omega),List.getElem?_eq_none (by rw [YS hk];simp;omega)]
theorem bO{w:World}{base:Nat}{e:TypeId}{v:Value}{d:Array α}(hk:∀x,(enc x).length=k)(k0:0<k)(h:w.ownsRow base e k v d.size (d.toList.flatMap enc))(hd:0<d.size) :
  ∃g cap,v=.slice (some ⟨g,0,none⟩) d.size cap/\base<=g/\g<w.heap.size/\HoldsK enc k w g 0 d/\v.ownBlock=some g:=by
 rcases h.2 with⟨_,h0⟩|⟨g,cap,cur,rfl,hb,hg,hn,hm,hs,ht⟩
 ·omega
 ·refine⟨g,cap,rfl,hb,AmA hg,?_,rfl⟩;intro j hj;rw [size_flatK]at hj;have Mw:j<d.toList.length*k:=(by simpa using hj);have h1:=U1 hk k0 d.toList j Mw;rw [←qJ hk k0]at h1
  have h2:(flatK enc k d)[j]! = (enc d.toList[j/k]!)[j%k]!:=by rw [getElem!_pos _ j (by simpa using hj)];rw [AmH (by simpa using hj),AmG]at h1;rw [←h1];simp
  have h3:cur.toList[j]?=some ((flatK enc k d)[j]!):=by have h4:=U1 hk k0 d.toList j Mw;rw [←ht,List.getElem?_take_of_lt (by rw [Nat.mul_comm]at hj ⊢;omega)]at h4;rw [h4,h2]
  refine⟨?_,?_⟩
  ·rw [Nat.zero_add];refine Ab hg ?_;rw [←Array.getElem?_toList];exact h3
  ·rw [Nat.zero_add];exact AV hg
theorem Te{w:World}{base:Nat}{e:TypeId}{g cap:Nat}{d d':Array α}(hk:∀x,(enc x).length=k)(k0:0<k)(h:w.ownsRow base e k (.slice (some ⟨g,0,none⟩) d.size cap) d.size (d.toList.flatMap enc))(hd:d'.size=d.size)(m:Nat)(os:Array Obj) :
  (sortWorldK enc k w g 0 m d' os).ownsRow base e k (.slice (some ⟨g,0,none⟩) d.size cap) d.size (d'.toList.flatMap enc):=by
 rcases h.2 with⟨h',_⟩|⟨g',cap',cur,hv,hb,hg,hn,hm,hs,ht⟩
 ·cases h'
 ·simp only [Value.slice.injEq,AmG,Addr.mk.injEq,and_true,true_and]at hv;obtain⟨rfl,rfl⟩:=hv;have hF:(flatK enc k d').size=d.size*k:=(by rw [size_flatK,hd]);have hle:d.size*k<=cur.size:=(by rw [hs];exact Nat.mul_le_mul_right k hn);refine⟨?_,.inr ⟨g,cap,_,rfl,hb,Ajg enc k w g 0 m d' os hg,hn,hm,?_,?_⟩⟩
  ·rw [YS hk];simp [hd]
  ·unfold putCells;simpa using hs
  ·rw [←qJ hk k0];apply List.ext_getElem?;intro t;by_cases Dx:t<d.size*k
   ·rw [List.getElem?_take_of_lt Dx,Array.getElem?_toList];unfold putCells;rw [Array.getElem?_mapIdx,Array.getElem?_eq_getElem (by omega)];simp only [Option.map_some,Nat.zero_le,true_and,Nat.zero_add,Nat.sub_zero];rw [if_pos (by omega),Array.getElem?_toList,Array.getElem?_eq_getElem (by omega)];rw [getElem!_pos _ t (by omega)]
    rfl
   ·rw [List.getElem?_eq_none (by rw [List.length_take];omega),List.getElem?_eq_none (by simp [hd];omega)]
end
def Fu(s t:Sg):Int:=if AX s.a t.a≠0 then AX s.a t.a else AX s.b t.b
theorem AaB(s t:Sg){k:Nat}(hs:Eh k s)(ht:Eh k t)(hk:0<k)(hk2:k<=400)(w:World)(hw:An w) :
  Calls Tryz.prog 109 #[As s,As t] w (Az (Fu s t) w):=by
 have c1:=Ik s.a t.a hs.a ht.a hk hk2;have c2:=Ik s.b t.b hs.b ht.b hk hk2;have hE:=((Aa.refl w).alloc (.cells #[S (R s.a.x),S (R s.a.y),S (R s.b.x),S (R s.b.y)] 155)).alloc (.cells #[S (R t.a.x),S (R t.a.y),S (R t.b.x),S (R t.b.y)] 155);obtain⟨x,hx0⟩:=Am8 (AX s.a t.a);obtain⟨y,Bj⟩:=Am8 (AX s.b t.b)
 have hr:Fu s t=if x≠0 then x else y:=by rw [hx0,Bj];rfl
 rw [hr];rw [←hx0]at c1;rw [←Bj]at c2
 have hA:(w.alloc (.cells #[S (R s.a.x),S (R s.a.y),S (R s.b.x),S (R s.b.y)] 155)).alloc (.cells #[S (R t.a.x),S (R t.a.y),S (R t.b.x),S (R t.b.y)] 155) |>.heap[w.heap.size]?=some (.cells #[S (R s.a.x),S (R s.a.y),S (R s.b.x),S (R s.b.y)] 155):=(Below.heap_alloc _ _ _ (by simp)).trans (AmB w _)
 have hB:=AmB (w.alloc (.cells #[S (R s.a.x),S (R s.a.y),S (R s.b.x),S (R s.b.y)] 155)) (.cells #[S (R t.a.x),S (R t.a.y),S (R t.b.x),S (R t.b.y)] 155);rw [AmJ]at hB;obtain⟨r,FQ⟩:=Am8 (if x≠0 then x else y:Int);rw [←FQ]
 have MN:∀(b o:Nat) (w:World),w.cell? ⟨b,o,none⟩=some (.int .i64 x)→w.cell? ⟨b,o+1,none⟩=some (.int .i64 y)→Calls Tryz.prog 98 #[.slice (some ⟨b,o,none⟩) 2 2] w (Az r w):=by intro b o w h1 h2;rw [FQ];exact Wt x y b o w h1 h2
 unfold Ak at c1 c2;unfold As;clear hs ht hr hx0 Bj FQ;go_enter Tryz.func109,Tryz.ntmps109
 go_upto_region 1 with fail
 generalize (w.alloc (.cells #[S (R s.a.x),S (R s.a.y),S (R s.b.x),S (R s.b.y)] 155)).alloc (.cells #[S (R t.a.x),S (R t.a.y),S (R t.b.x),S (R t.b.y)] 155)=V at *;have hs:=hE.size;obtain⟨ba,Aq⟩:=Am8 w.heap.size;rw [←Aq]at hA hB ⊢;clear Aq hs
 have SO:∀w',Aa V w'→(w'.cell? ⟨ba,0,none⟩=some (S (R s.a.x))/\w'.cell? ⟨ba,1,none⟩=some (S (R s.a.y))/\w'.cell? ⟨ba,2,none⟩=some (S (R s.b.x))/\w'.cell? ⟨ba,3,none⟩=some (S (R s.b.y))/\w'.cell? ⟨ba+1,0,none⟩=some (S (R t.a.x))/\w'.cell? ⟨ba+1,1,none⟩=some (S (R t.a.y))/\w'.cell? ⟨ba+1,2,none⟩=some (S (R t.b.x))/\w'.cell? ⟨ba+1,3,none⟩=some (S (R t.b.y))):=fun w' h=>⟨h.cellS (Ab hA rfl),h.cellS (Ab hA rfl),h.cellS (Ab hA rfl),h.cellS (Ab hA rfl),h.cellS (Ab hB rfl),h.cellS (Ab hB rfl),h.cellS (Ab hB rfl),h.cellS (Ab hB rfl)⟩
 have X0:Aa V V.drew:=(Aa.refl V).drew;have hV:=hw.ext hE;clear hA hB
 go_region_held3 (fun w'=>w'.cell? ⟨ba,0,none⟩=some (S (R s.a.x))/\w'.cell? ⟨ba,1,none⟩=some (S (R s.a.y))/\w'.cell? ⟨ba,2,none⟩=some (S (R s.b.x))/\w'.cell? ⟨ba,3,none⟩=some (S (R s.b.y))/\w'.cell? ⟨ba+1,0,none⟩=some (S (R t.a.x))/\w'.cell? ⟨ba+1,1,none⟩=some (S (R t.a.y))/\w'.cell? ⟨ba+1,2,none⟩=some (S (R t.b.x))/\w'.cell? ⟨ba+1,3,none⟩=some (S (R t.b.y)))
  (first|with_reducible exact SO _ X0|with_reducible exact SO _ X5|with_reducible exact SO _ X6|with_reducible exact SO _ X7|with_reducible exact SO _ (X6.alloc _))
  (first|((with_reducible refine(c1 _ (hV.ext X0)).mono ?_);rintro e w5 ⟨rfl,Ad⟩;have X5:Aa V w5:=X0.trans Ad)|((with_reducible refine(c2 _ (hV.ext X5)).mono ?_);rintro e w6 ⟨rfl,AH⟩;have X6:Aa V w6:=X5.trans AH;have CJ:=AmB w6 (.cells #[.int .i64 x,.int .i64 y] 3);have g0:=Ab (o:=0) CJ rfl;have g1:=Ab (o:=1) CJ rfl;clear CJ)|((with_reducible refine(MN w6.heap.size 0 _ g0 g1).mono ?_);rintro e w7 ⟨rfl,AB⟩;have X7:Aa V w7:=(X6.alloc _).trans AB))
 go_wp2;go_ret;exact⟨rfl,hE.trans X7⟩
theorem Uo(p q:Rat):AO p q<0↔p<q:=by unfold AO;grind
theorem Y2(p q:Rat):AO p q=0↔p=q:=by unfold AO;grind
theorem AfM(a b:Pt):AX a b=0↔a.x=b.x/\a.y=b.y:=by
 unfold AX;have h1:=Y2 a.x b.x;have h2:=Y2 a.y b.y
 split<;>grind
theorem PM(a b:Pt):AX a b<0↔a.x<b.x∨(a.x=b.x/\a.y<b.y):=by
 unfold AX;have h1:=Y2 a.x b.x;have h2:=Uo a.x b.x;have h3:=Uo a.y b.y
 split<;>grind
theorem PN(s t:Sg):Fu s t<0↔s.a.x<t.a.x∨(s.a.x=t.a.x/\(s.a.y<t.a.y∨(s.a.y=t.a.y/\(s.b.x<t.b.x∨(s.b.x=t.b.x/\s.b.y<t.b.y))))):=by
 unfold Fu;have h1:=AfM s.a t.a;have h2:=PM s.a t.a;have h3:=PM s.b t.b
 split<;>grind
def QH(s:Sg):Prop:=Eh 200 s
theorem ko:QH ⟨⟨0,0⟩,⟨0,0⟩⟩:=by
 have h:Sz 200 (0:Rat):=(by constructor<;>decide +kernel);exact⟨⟨h,h⟩,⟨h,h⟩⟩
abbrev Way:={s:Sg // QH s}
instance:Inhabited Way:=⟨⟨_,ko⟩⟩
def GW(s t:Way):Int:=Fu s.1 t.1
theorem nt(s t:Way):ltOf GW s t=true↔s.1.a.x<t.1.a.x∨(s.1.a.x=t.1.a.x/\(s.1.a.y<t.1.a.y∨(s.1.a.y=t.1.a.y/\(s.1.b.x<t.1.b.x∨(s.1.b.x=t.1.b.x/\s.1.b.y<t.1.b.y))))):=by
 unfold ltOf GW;rw [decide_eq_true_iff];exact PN _ _
theorem iV(s t:Way):ltOf GW s t=false↔¬(s.1.a.x<t.1.a.x∨(s.1.a.x=t.1.a.x/\(s.1.a.y<t.1.a.y∨(s.1.a.y=t.1.a.y/\(s.1.b.x<t.1.b.x∨(s.1.b.x=t.1.b.x/\s.1.b.y<t.1.b.y)))))):=by
 rw [←nt];simp
theorem nv:SWO (ltOf GW) where
 irrefl x:=by rw [iV];grind
 trans x y z h1 h2:=by rw [nt]at *;grind
 ntrans x y z h1 h2:=by rw [iV]at *;grind
theorem Akk(x y:Way)(h1:ltOf GW x y=false)(h2:ltOf GW y x=false):x=y:=by
 rw [iV]at h1 h2;obtain⟨⟨⟨a,b⟩,⟨c,d⟩⟩,hx⟩:=x;obtain⟨⟨⟨a',b'⟩,⟨c',d'⟩⟩,hy⟩:=y;simp only [Subtype.mk.injEq,Sg.mk.injEq,Pt.mk.injEq]at *
 grind
def Ge(s:Way):List Value:=[S (R s.1.a.x),S (R s.1.a.y),S (R s.1.b.x),S (R s.1.b.y)]
theorem Uz(s:Way):(Ge s).length=4:=rfl
theorem Ab2(s:Way):∀v∈Ge s,v.oneCell'=true:=by
 intro v hv;simp only [Ge,List.mem_cons,AmN,or_false]at hv
 rcases hv with rfl|rfl|rfl|rfl<;>rfl
theorem Akj{w0 w:World}(hw:An w0)(hx:Aa w0 w){blk:Nat}(hb:w0.heap.size<=blk)(off size:Nat):CmpLays Tryz.prog 109 #[] Ge 4 GW blk off size w:=by
 refine dX fun W hg x y=>?_;have h:=AaB x.1 y.1 x.2 y.2 (by omega) (by omega) W (hw.ext (Nx hx hg hb));exact h
end Go.Proofs.YtjalkoacphhgdaaGreatDoor
namespace Go.Proofs.YtjalkoacphhgdaaGreatDoor
open Go.RowKit Kl
def BC(s:Sg)(x:Rat):Rat:=s.a.y+(x-s.a.x)/(s.b.x-s.a.x)*(s.b.y-s.a.y)
theorem Ad0(s:Sg)(x:Rat){k:Nat}(hs:Eh k s)(hx:Sz k x)(hk:0<k)(hk2:k<=400)(h0:s.b.x≠s.a.x)(w:World)(hw:An w) :
  Calls Tryz.prog 288 #[As s,S (R x)] w (Bf (R (BC s x)) w):=by
 have s1:=GU x s.a.x (a:=k) (b:=k) ⟨hx,hs.a.x,hk,hk,by omega⟩;have s2:=GU s.b.x s.a.x (a:=k) (b:=k) ⟨hs.b.x,hs.a.x,hk,hk,by omega⟩;have dv:=AhY (x-s.a.x) (s.b.x-s.a.x) (by grind) (a:=k+k+1) (b:=k+k+1) ⟨hx.sub hs.a.x,hs.b.x.sub hs.a.x,by omega,by omega,by omega⟩;have s3:=GU s.b.y s.a.y (a:=k) (b:=k) ⟨hs.b.y,hs.a.y,hk,hk,by omega⟩;have mu:=Qd ((x-s.a.x)/(s.b.x-s.a.x)) (s.b.y-s.a.y) (a:=k+k+1+(k+k+1)) (b:=k+k+1) ⟨(hx.sub hs.a.x).div (by omega) (hs.b.x.sub hs.a.x),hs.b.y.sub hs.a.y,by omega,by omega,by omega⟩;have ad:=fZ s.a.y ((x-s.a.x)/(s.b.x-s.a.x)*(s.b.y-s.a.y)) (a:=k) (b:=k+k+1+(k+k+1)+(k+k+1)) ⟨hs.a.y,((hx.sub hs.a.x).div (by omega) (hs.b.x.sub hs.a.x)).mul (hs.b.y.sub hs.a.y),by omega,by omega,by omega⟩;have e:BC s x=s.a.y+(x-s.a.x)/(s.b.x-s.a.x)*(s.b.y-s.a.y):=rfl;rw [←e]at ad;obtain⟨r,hr⟩:=Am8 (BC s x);rw [←hr]at ad ⊢;unfold As;unfold WF at dv;clear hs hx e hr;go_enter Tryz.func288,Tryz.ntmps288
 go_upto_region 1 with fail
 have hb:=AmB w (.cells #[S (R s.a.x),S (R s.a.y),S (R s.b.x),S (R s.b.y)] 155);have hE:=(Aa.refl w).alloc (.cells #[S (R s.a.x),S (R s.a.y),S (R s.b.x),S (R s.b.y)] 155);obtain⟨W,hW⟩:=Am8 (w.alloc (.cells #[S (R s.a.x),S (R s.a.y),S (R s.b.x),S (R s.b.y)] 155));rw [←hW]at hb hE ⊢;clear hW;obtain⟨ba,Aq⟩:=Am8 w.heap.size;rw [←Aq]at hb ⊢;clear Aq
 have SO:∀w',Aa W w'→(w'.cell? ⟨ba,0,none⟩=some (S (R s.a.x))/\w'.cell? ⟨ba,1,none⟩=some (S (R s.a.y))/\w'.cell? ⟨ba,2,none⟩=some (S (R s.b.x))/\w'.cell? ⟨ba,3,none⟩=some (S (R s.b.y))):=fun w' h=>⟨h.cellS (Ab hb rfl),h.cellS (Ab hb rfl),h.cellS (Ab hb rfl),h.cellS (Ab hb rfl)⟩
 have C7:=hw.ext hE;have X:Aa W W:=Aa.refl W;clear hb
 go_region_held3 (fun w'=>w'.cell? ⟨ba,0,none⟩=some (S (R s.a.x))/\w'.cell? ⟨ba,1,none⟩=some (S (R s.a.y))/\w'.cell? ⟨ba,2,none⟩=some (S (R s.b.x))/\w'.cell? ⟨ba,3,none⟩=some (S (R s.b.y)))
  (first|with_reducible exact SO _ X|with_reducible exact SO _ X.drew)
  (first|((with_reducible refine(s1 _ (C7.ext (by first|exact X|exact X.drew))).mono ?_);rintro e w1 ⟨rfl,hx1⟩;replace X:Aa W w1:=(by first|exact X.trans hx1|exact X.drew.trans hx1))|((with_reducible refine(s2 _ (C7.ext (by first|exact X|exact X.drew))).mono ?_);rintro e w1 ⟨rfl,hx1⟩;replace X:Aa W w1:=(by first|exact X.trans hx1|exact X.drew.trans hx1))|((with_reducible refine(dv _ (C7.ext (by first|exact X|exact X.drew))).mono ?_);rintro e w1 ⟨rfl,hx1⟩;replace X:Aa W w1:=(by first|exact X.trans hx1|exact X.drew.trans hx1)))
 go_upto_region 2 with fail
 go_region_held3 (fun w'=>w'.cell? ⟨ba,0,none⟩=some (S (R s.a.x))/\w'.cell? ⟨ba,1,none⟩=some (S (R s.a.y))/\w'.cell? ⟨ba,2,none⟩=some (S (R s.b.x))/\w'.cell? ⟨ba,3,none⟩=some (S (R s.b.y)))
  (first|with_reducible exact SO _ X|with_reducible exact SO _ X.drew)
  (first|((with_reducible refine(s3 _ (C7.ext (by first|exact X|exact X.drew))).mono ?_);rintro e w1 ⟨rfl,hx1⟩;replace X:Aa W w1:=(by first|exact X.trans hx1|exact X.drew.trans hx1))|((with_reducible refine(mu _ (C7.ext (by first|exact X|exact X.drew))).mono ?_);rintro e w1 ⟨rfl,hx1⟩;replace X:Aa W w1:=(by first|exact X.trans hx1|exact X.drew.trans hx1))|((with_reducible refine(ad _ (C7.ext (by first|exact X|exact X.drew))).mono ?_);rintro e w1 ⟨rfl,hx1⟩;replace X:Aa W w1:=(by first|exact X.trans hx1|exact X.drew.trans hx1)))
 go_wp2;go_ret;exact⟨rfl,hE.trans X⟩
theorem AiI(l:List Sg):(BP l).length=l.length*4:=by
 induction l with
 | nil=>rfl
 | cons e l ih=>unfold BP at *;simp only [List.flatMap_cons,List.length_append,ih,List.length_cons,List.length_nil];omega
theorem jw:∀(l:List Sg) (j:Nat) (h:j<l.length),(BP l)[j*4]?=some (S (R l[j].a.x))/\(BP l)[j*4+1]?=some (S (R l[j].a.y))/\(BP l)[j*4+2]?=some (S (R l[j].b.x))/\(BP l)[j*4+3]?=some (S (R l[j].b.y))
 | e::l,0,_=>⟨rfl,rfl,rfl,rfl⟩
 | e::l,j+1,h=>by
  have ih:=jw l j (by simpa using h);have e0:BP (e::l)=S (R e.a.x)::S (R e.a.y)::S (R e.b.x)::S (R e.b.y)::BP l:=rfl;rw [e0];have e1:(j+1)*4=j*4+1+1+1+1:=(by omega);rw [e1]
  simpa using ih
theorem MS{w:World}{A:Option Addr}{l:List Sg}(hr:Ae w A (BP l)){j:Nat}(h:j<l.length):∃b o,A=some ⟨b,o,none⟩/\w.cell? ⟨b,o+j*4,none⟩=some (S (R l[j].a.x))/\w.cell? ⟨b,o+j*4+1,none⟩=some (S (R l[j].a.y))/\w.cell? ⟨b,o+j*4+2,none⟩=some (S (R l[j].b.x))/\w.cell? ⟨b,o+j*4+3,none⟩=some (S (R l[j].b.y)):=by
 have hl:=AiI l;obtain⟨b,o,e,hcs⟩:=hr.ad (by omega);obtain⟨f1,f2,f3,f4⟩:=jw l j h;have g1:=hcs (j*4) (by omega);have g2:=hcs (j*4+1) (by omega);have g3:=hcs (j*4+2) (by omega);have g4:=hcs (j*4+3) (by omega);rw [AmH (by omega),AmG]at f1 f2 f3 f4;rw [f1]at g1;rw [f2,←Nat.add_assoc]at g2;rw [f3,←Nat.add_assoc]at g3;rw [f4,←Nat.add_assoc]at g4;exact⟨b,o,e,g1,g2,g3,g4⟩
def Fl(p:Pt)(l:List Sg):Rat:=l.foldl (fun s e=>s+Al p e.a e.b) 0
def LN:List Sg→Rat
 | []=>0
 | e::l=>Fl e.a (e::l)
theorem yl(p:Pt)(l:List Sg)(e:Sg):Fl p (l ++ [e])=Fl p l+Al p e.a e.b:=by simp [Fl]
theorem mA(p:Pt)(l:List Sg){j:Nat}(h:j<l.length):Fl p (l.take (j+1))=Fl p (l.take j)+Al p l[j].a l[j].b:=by
 rw [AmF h,yl]
theorem ym(l:List Sg)(h:0<l.length):LN l=Fl l[0].a l:=by
 cases l with
 | nil=>simp at h
 | cons e l=>rfl
theorem yn(l:List Sg)(A:Option Addr)(c:Nat){k K:Nat}(hl:∀e∈l,Eh k e)(hk:0<k)(hk2:k<=400)(hK:0<K)(hK2:K<=2000)(h0:0<l.length)
  (hS:∀j,j<=l.length→Sz K (Fl l[0].a (l.take j))) (hA:∀j (h:j<l.length),Sz (K-100) (Al l[0].a l[j].a l[j].b)) (hc:l.length<=c) (hcm:c<=9223372036854775807) (hK3:100<K) (w:World) (hw:An w) (hr:Ae w A (BP l)) :
  Calls Tryz.prog 234 #[.slice A l.length c] w (Bf (R (LN l)) w):=by
 obtain⟨b,o,rfl,q1,q2,-,-⟩:=MS hr h0;rw [ym l h0];obtain⟨r,hr0⟩:=Am8 (Fl l[0].a l);rw [←hr0];obtain⟨p,hp⟩:=Am8 (l[0].a);have M5:Ar k p:=(by rw [hp];exact(hl _ (AmD h0)).a);rw [←hp]at hr0 hS hA q1 q2;have HR:=Am9 hr0;clear hr0 hp;rw [Nat.zero_mul,Nat.add_zero]at q1 q2;go_enter Tryz.func234,Tryz.ntmps234
 go_upto_region 3 with fail
 go_loopw [3,8] (fun s i wr=>∃j:Nat,i=.int .i64 (j:Nat)/\s=S (R (Fl p (l.take j)))/\j<=l.length/\Aa w wr) (fun _ i _=>l.length-(intOf i).toNat)
 case atStart=>exact⟨0,rfl,by rw [List.take_zero];show _=S (R 0);rw [Kh],by omega,Aa.refl _⟩
 case round=>
  obtain⟨j,rfl,rfl,hj,Ac⟩:=hrel;by_cases hlt:j<l.length
  ·obtain⟨b',o',K3,g1,g2,g3,g4⟩:=MS (hr.ext Ac) hlt;simp only [AmG,Addr.mk.injEq,and_true]at K3;obtain⟨rfl,rfl⟩:=K3;have p1:=Ac.cellS q1;have p2:=Ac.cellS q2;have ez:=hl _ (AmD hlt);have ar:=gq p l[j].a l[j].b M5 ez.a ez.b hk hk2;have ad:=fZ (Fl p (l.take j)) (Al p l[j].a l[j].b) (a:=K) (b:=K-100) ⟨hS j hj,hA j hlt,hK,by omega,by omega⟩;rw [←mA p l hlt]at ad;obtain⟨e,he⟩:=Am8 (l[j]);rw [←he]at g1 g2 g3 g4 ar ad;have hj0:(0:Int)<=(j:Int):=(by omega);have hl0:(0:Int)<(l.length:Int):=(by omega);have AW:(j:Int)<(l.length:Int):=(by omega);clear ez he;obtain⟨s,hs⟩:=Am8 (Fl p (l.take j));obtain⟨s',hs'⟩:=Am8 (Fl p (l.take (j+1)));rw [←hs,←hs']at ad;rw [←hs];have s8:=Am9 hs';clear hs hs' hS hA hl q1 q2;unfold Ak at ar
   go_upto_region 5 with fail
   have hb:=AmB wr (.cells #[S (R e.a.x),S (R e.a.y),S (R e.b.x),S (R e.b.y)] 155);have hE:=(Aa.refl wr).alloc (.cells #[S (R e.a.x),S (R e.a.y),S (R e.b.x),S (R e.b.y)] 155);unfold S at hb hE;generalize (wr.alloc (.cells #[.string ⟨(R e.a.x).toArray⟩,.string ⟨(R e.a.y).toArray⟩,.string ⟨(R e.b.x).toArray⟩,.string ⟨(R e.b.y).toArray⟩] 155))=W at *;obtain⟨be,CX⟩:=Am8 wr.heap.size;rw [←CX]at hb ⊢;clear CX
   have SO:∀w',Aa W w'→(w'.cell? ⟨b,o,none⟩=some (S (R p.x))/\w'.cell? ⟨b,o+1,none⟩=some (S (R p.y))/\w'.cell? ⟨be,0,none⟩=some (S (R e.a.x))/\w'.cell? ⟨be,1,none⟩=some (S (R e.a.y))/\w'.cell? ⟨be,2,none⟩=some (S (R e.b.x))/\w'.cell? ⟨be,3,none⟩=some (S (R e.b.y))):=fun w' h=>⟨h.cellS (hE.cellS p1),h.cellS (hE.cellS p2),h.cellS (Ab hb rfl),h.cellS (Ab hb rfl),h.cellS (Ab hb rfl),h.cellS (Ab hb rfl)⟩
   have C7:=(hw.ext Ac).ext hE;have hx0:=Ac.trans hE;have X:Aa W W:=Aa.refl W;clear hb p1 p2 g1 g2 g3 g4
   go_region_held3 (fun w'=>w'.cell? ⟨b,o,none⟩=some (S (R p.x))/\w'.cell? ⟨b,o+1,none⟩=some (S (R p.y))/\w'.cell? ⟨be,0,none⟩=some (S (R e.a.x))/\w'.cell? ⟨be,1,none⟩=some (S (R e.a.y))/\w'.cell? ⟨be,2,none⟩=some (S (R e.b.x))/\w'.cell? ⟨be,3,none⟩=some (S (R e.b.y)))
    (first|with_reducible exact SO _ X|with_reducible exact SO _ X.drew)
    (first|((with_reducible refine(ar _ (C7.ext (by first|exact X|exact X.drew))).mono ?_);rintro e w1 ⟨rfl,hx1⟩;replace X:Aa W w1:=(by first|exact X.trans hx1|exact X.drew.trans hx1))|((with_reducible refine(ad _ (C7.ext (by first|exact X|exact X.drew))).mono ?_);rintro e w1 ⟨rfl,hx1⟩;replace X:Aa W w1:=(by first|exact X.trans hx1|exact X.drew.trans hx1)))
   go_wp2;go_roundw
   case rel=>exact⟨j+1,by go_num,by rw [s8.out],hlt,hx0.trans X⟩
   case measure=>simp [intOf];omega
  ·have hjn:j=l.length:=(by omega);have e:Fl p (l.take j)=r:=(by rw [HR.out,hjn,List.take_length]);rw [e];have hle:(l.length:Int)<=(j:Int):=(by omega);go_wp2;go_ret;exact⟨rfl,Ac⟩
theorem Dq.look{E:List (Pt×Value×Nat)}{R0:List (Pt×List Pt)}{B:Nat}{W:World}{b2:Nat}(h:Dq B W b2 E R0)(p:Pt){e:Pt×List Pt}(hf:R0.find? (fun e=>Ap p e.1)=some e) :
  ∃A c,EX Ap (.slice none 0 0) p E=.slice A e.2.length c/\Ae W A (flat (Ao e.2))/\e.2.length<=c/\c<=9223372036854775807:=by
 have CY:=YQ h.len (fun i h1 h2=>(h.row i h1 h2).1) p;obtain⟨h3,j,hj',h4,h5⟩:=List.find?_eq_some_iff_getElem.1 hf
 have hfj:R0.findIdx? (fun e=>Ap p e.1)=some j:=by rw [List.findIdx?_eq_some_iff_getElem];exact⟨hj',by rw [h4];exact h3,fun i hi=>by have:=h5 i hi;simpa using this⟩
 rw [hfj,List.findIdx?_eq_some_iff_getElem]at CY;obtain⟨hj,h1,h2⟩:=CY
 have e1:E.find? (fun e=>Ap p e.1)=some E[j]:=by rw [List.find?_eq_some_iff_getElem];exact⟨h1,j,hj,rfl,fun i hi=>by have:=h2 i hi;simpa using this⟩
 have ho:=(h.row j hj hj').2.2;rw [h4]at ho;obtain⟨A,c,hv,hr,g1,g2⟩:=Ae.of_own' (by omega) ho;refine⟨A,c,?_,hr,g1,g2⟩;unfold EX;rw [e1];exact hv
theorem Ag5{j n:Nat}(h:j<n):∃m:Nat,m<n/\m=(j+n-1)%n/\Int.tmod ((j:Int)+n-1) n=(m:Int):=by
 refine⟨(j+n-1)%n,Nat.mod_lt _ (by omega),rfl,?_⟩;have e:(j:Int)+n-1=((j+n-1:Nat):Int):=(by omega);rw [e];exact(Int.ofNat_tmod _ _).symm
theorem Ag4{B:Nat}{w:World}{r b1 b2:Nat}{L:List (Sg×Int)}{E:List (Pt×Value×Nat)}{R0:List (Pt×List Pt)}(h:Bq B w r b1 b2 L E R0)(s:Sg){e:Pt×List Pt}(hf:R0.find? (fun e=>Ap s.b e.1)=some e){j m:Nat}(hj:j<e.2.length)(hi:Gu e.2 s.a=(j:Int))(hm:m<e.2.length)(Sr:m=(j+e.2.length-1)%e.2.length)(hn:e.2.length<100000) :
  Calls Tryz.prog 232 #[.pointer (some ⟨r,0,none⟩),As s] w (Ce (As ⟨s.b,e.2[m]⟩) w):=by
 obtain⟨A,c,hv,AP,hc1,hc2⟩:=h.ar.look s.b hf;obtain⟨m',hm',hme,htm⟩:=Ag5 hj;rw [←Sr]at hme;subst hme;clear hm' Sr;obtain⟨p,hp⟩:=Am8 (e.2[m']);rw [←hp];have ix:=fun W (hE:Aa w W)=>yY e.2 s.a A c W (AP.ext hE) hc1 hc2;rw [hi]at ix;have hE:=((Aa.refl w).alloc (.cells #[S (R s.a.x),S (R s.a.y),S (R s.b.x),S (R s.b.y)] 155)).alloc (.cells #[S [],S [],S [],S []] 155);have hb1:=(Below.heap_alloc (w.alloc (.cells #[S (R s.a.x),S (R s.a.y),S (R s.b.x),S (R s.b.y)] 155)) (.cells #[S [],S [],S [],S []] 155) w.heap.size (by simp)).trans (AmB w (.cells #[S (R s.a.x),S (R s.a.y),S (R s.b.x),S (R s.b.y)] 155));have hb2:=AmB (w.alloc (.cells #[S (R s.a.x),S (R s.a.y),S (R s.b.x),S (R s.b.y)] 155)) (.cells #[S [],S [],S [],S []] 155);rw [AmJ]at hb2;obtain⟨b',o',hA,g1,g2⟩:=Cu AP hm;have hlt:=World.block_lt_of_cell? w _ g1;simp only at hlt;replace g1:=hE.cellS g1;replace g2:=hE.cellS g2;have hN:=h.ext hE;rw [←hp]at g1 g2;obtain⟨n,IP⟩:=Am8 e.2.length;rw [←IP]at hj htm hv hn hc1 ix hm;clear hp hf IP AP;unfold As;go_enter Tryz.func232,Tryz.ntmps232
 go_upto_region 1 with fail
 rw [show (⟨#[]⟩:ByteArray)=⟨([]:Bs).toArray⟩from rfl];generalize (w.alloc (.cells #[S (R s.a.x),S (R s.a.y),S (R s.b.x),S (R s.b.y)] 155)).alloc (.cells #[S [],S [],S [],S []] 155)=V at *;obtain⟨bb,AZ⟩:=Am8 w.heap.size;have hle:w.heap.size<=bb+1:=(by omega);rw [←AZ]at hb1 hb2 hlt ⊢;have bG:¬(b'=bb+1):=(by omega);have EU:¬(bb+1=b'):=(by omega);clear AZ;have q2:∀q:Af V,q.w.cell? ⟨r,1,none⟩=some (.map (some b2)):=Af.cell (Ab hN.cell rfl);have q3:∀q:Af V,q.w.cell? ⟨bb,2,none⟩=some (S (R s.b.x)):=Af.cell (Ab hb1 rfl);have q4:∀q:Af V,q.w.cell? ⟨bb,3,none⟩=some (S (R s.b.y)):=Af.cell (Ab hb1 rfl)
 have q5:∀q:Af V,(Instr.lookup 132 (.map (some b2)) (Ak s.b) false).run Tryz.prog q.w=.ok (.slice A n c) q.w:=fun q=>by rw [Qi PL s.b E (W:=q.w) ((q.h.block b2 hN.ar.lt).trans hN.ar.blk),hv]
 unfold Ak at q5 ix;refine Fe (by kernel_rfl) (by kernel_rfl) ?_
 repeat (go_big_quiet_step (fail))
 refine wpQuiet_nil ?_;rintro _ ⟨q,rfl⟩;obtain⟨W1,hx1⟩:=q;have k1:=hx1.cellS (Ab (o:=0) hb1 rfl);have k2:=hx1.cellS (Ab (o:=1) hb1 rfl);have dQ:=ix W1 (hE.trans hx1);rw [hA]at dQ hv;simp only;clear ix;(go_wp2_with fail);(with_reducible refine dQ.mono ?_);rintro e w2 ⟨rfl,hx2⟩;replace hx2:=hx1.trans hx2;have AS:=(hx2.block _ (AmA hb1)).trans hb1;have Bt:=(hx2.block _ (AmA hb2)).trans hb2;have f1:=hx2.cellS g1;have f2:=hx2.cellS g2;have e1:=Ab (o:=2) AS rfl;have e2:=Ab (o:=3) AS rfl;have y0:=AV (o:=0) Bt;have y1:=AV (o:=1) Bt;have y2:=AV (o:=2) Bt;have y3:=AV (o:=3) Bt;have z0:=Ab (o:=0) Bt rfl;have z1:=Ab (o:=1) Bt rfl;have z2:=Ab (o:=2) Bt rfl;have z3:=Ab (o:=3) Bt rfl;clear k1 k2 q2 q3 q4 q5 hN h g1 g2 dQ;have Gp:(n:Int)≠0:=(by omega);have P1:¬n=0:=(by omega);have a1:IntKind.i64.wrap ((j:Int)+n)=(j:Int)+n:=AmI _ (by omega);have a2:IntKind.i64.wrap ((j:Int)+n-1)=(j:Int)+n-1:=AmI _ (by omega);have a3:IntKind.i64.wrap (m':Int)=(m':Int):=AmI _ (by omega);have a4:(0:Int)<=(m':Int):=(by omega);have a5:(m':Int)<(n:Int):=by omega
 go_upto_region 3 with fail
 go_region_held3 (fun w'=>w'.cell? ⟨bb,2,none⟩=some (S (R s.b.x))/\w'.cell? ⟨bb,3,none⟩=some (S (R s.b.y))/\w'.cell? ⟨b',o'+m'*2,none⟩=some (S (R p.x))/\w'.cell? ⟨b',o'+m'*2+1,none⟩=some (S (R p.y)))
  (first|go_keep|(simp [World.cell?_setCell,bG,EU];go_keep)) (fail)
 have hq:=OE (S (R s.b.x)) (S (R s.b.y)) (S (R p.x)) (S (R p.y)) Bt;have q0:=(Aa.refl _).drew.cellS (Ab (o:=0) hq rfl);have q1:=(Aa.refl _).drew.cellS (Ab (o:=1) hq rfl);have q2:=(Aa.refl _).drew.cellS (Ab (o:=2) hq rfl);have q3:=(Aa.refl _).drew.cellS (Ab (o:=3) hq rfl);clear hq;go_wp2;refine bodyPost_ret (v:=.agg #[S (R s.b.x),S (R s.b.y),S (R p.x),S (R p.y)]) (by simp [results,Tryz.results232,go_sem,q0,q1,q2,q3]) rfl ?_;have EP:=hE.trans hx2;exact⟨rfl,((((EP.setCell (p:=⟨bb+1,0,none⟩) hle _).setCell (p:=⟨bb+1,1,none⟩) hle _).setCell (p:=⟨bb+1,2,none⟩) hle _).setCell (p:=⟨bb+1,3,none⟩) hle _).drew⟩
section
open Go.ChangeMaps (setBlock)
section
variable {α : Type} (enc : α → Value)
structure C0(W:World)(r b:Nat)(E:List (α×Value×Nat))(seen:List Nat):Prop where
 it:W.heap[r]?=some (.mapIter (some b) E.length seen.toArray E.length)
 nd:seen.Nodup
 lt:∀i∈seen,i<E.length
theorem C0.range{W:World}{b:Nat}{E:List (α×Value×Nat)}{t k e:TypeId}(ht:Tryz.prog.underlying t=some (.map k e))(hb:W.heap[b]?=some (.map (Ax enc E).toArray E.length)) :
  (Instr.range t (.map (some b))).run Tryz.prog W=.ok (.pointer (some ⟨W.heap.size,0,none⟩)) (W.alloc (.mapIter (some b) E.length #[] E.length))/\C0 (W.alloc (.mapIter (some b) E.length #[] E.length)) W.heap.size b E []:=
 ⟨run_range_map W t k e b _ _ ht hb,AmB _ _,List.nodup_nil,by simp⟩
theorem C0.keep{W W':World}{r b:Nat}{E:List (α×Value×Nat)}{seen:List Nat}(h:C0 W r b E seen)(hk:W'.heap[r]?=W.heap[r]?):C0 W' r b E seen:=⟨hk.trans h.it,h.nd,h.lt⟩
theorem AbI{E:List (α×Value×Nat)}(hst:∀i (h:i<E.length),E[i].2.2=i):(Ax enc E).map (·.born)=List.range E.length:=by
 apply List.ext_getElem
 ·simp [Ax]
 ·intro i h1 h2;simp [Ax]at h1 ⊢;exact hst i h1
theorem C0.next{W:World}{r b:Nat}{E:List (α×Value×Nat)}{seen:List Nat}(h:C0 W r b E seen)(hb:W.heap[b]?=some (.map (Ax enc E).toArray E.length))(hst:∀i (h:i<E.length),E[i].2.2=i)(hne:r≠b)(ty:TypeId) :
  (seen.length=E.length/\(Instr.next (.pointer (some ⟨r,0,none⟩)) false ty).run Tryz.prog W=.ok (.tuple #[.bool false]) W)∨
  ∃i,∃hi:i<E.length,i∉seen/\∃W',C0 W' r b E (seen ++ [i])/\W.grownBy W' (some r)/\W'.heap.size=W.heap.size/\
   (Instr.next (.pointer (some ⟨r,0,none⟩)) false ty).run Tryz.prog W=.ok (.tuple #[.bool true,enc E[i].1,E[i].2.1]) W'/\
   (∀V,V.heap[r]?=W'.heap[r]?→V.heap[b]?=W'.heap[b]?→(Instr.entry (.pointer (some ⟨r,0,none⟩))).run Tryz.prog V=.ok (.tuple #[enc E[i].1,E[i].2.1]) V):=by
 have BV:=AbI enc hst
 have hold:∀x∈(Ax enc E).toArray.toList,x.born<E.length:=by
  intro x hx;have:x.born∈(Ax enc E).map (·.born):=List.mem_map_of_mem hx;rw [BV]at this
  simpa using this
 have Ci:((Ax enc E).toArray.toList.map (·.born)).Nodup:=by show ((Ax enc E).map (·.born)).Nodup;rw [BV];exact List.nodup_range
 rcases run_next_at (P:=Tryz.prog) W ty r b E.length E.length seen.toArray (Ax enc E).toArray E.length h.it hb hold (AmC _)with⟨h0,hrun⟩|⟨x,hx,w1,hw1,hrun⟩
 ·left
  refine⟨?_,hrun⟩;have hall:=all_seen _ _ h0
  have Aez:List.range E.length ⊆ seen:=by
   intro i hi;rw [←BV]at hi;obtain⟨x,hx,rfl⟩:=List.mem_map.1 hi;have:=hall x hx
   simpa using this
  have h1:E.length<=seen.length:=by
   have:=(List.nodup_range (n:=E.length)).length_le_of_subset Aez
   simpa using this
  have h2:seen.length<=E.length:=by
   have hs:seen ⊆ List.range E.length:=fun i hi=>(by simpa using h.lt i hi);have:=h.nd.length_le_of_subset hs
   simpa using this
  omega
 ·right
  obtain⟨PC,Ic⟩:=mem_left hx;obtain⟨i,hi,MD⟩:=List.getElem_of_mem PC;have hi':i<E.length:=(by simpa [Ax]using hi);have P9:x=⟨enc E[i].1,E[i].2.1,E[i].2.2⟩:=(by rw [←MD];simp [Ax]);have hb0:x.born=i:=(by rw [P9];exact hst i hi');have hkey:x.key=enc E[i].1:=(by rw [P9]);have hval:x.val=E[i].2.1:=(by rw [P9]);have Gq:i∉seen:=by rw [hb0]at Ic;simpa using Ic
  have hr1:w1.heap[r]?=W.heap[r]?:=by rcases hw1 with rfl|rfl<;>rfl
  have hb1:w1.heap[b]?=W.heap[b]?:=by rcases hw1 with rfl|rfl<;>rfl
  have hG:W.grownBy (setBlock w1 r (.mapIter (some b) E.length (seen.toArray.push x.born) E.length)) (some r):=by
   rcases hw1 with rfl|rfl
   ·exact Kv h.it
   ·exact⟨rfl,rfl,rfl,by simp [setBlock],fun k _ hk=>To (fun e=>hk (by rw [e]))⟩
  have hit:=Ls (o:=.mapIter (some b) E.length (seen.toArray.push x.born) E.length) (hr1.trans h.it);refine⟨i,hi',Gq,_,⟨?_,?_,?_⟩,hG,?_,?_,?_⟩
  ·rw [hit,hb0];simp
  ·rw [List.nodup_append];refine⟨h.nd,by simp,?_⟩;intro a ha c hc;simp only [AmO]at hc;subst hc;intro e;rw [e]at ha;exact Gq ha
  ·intro k hk
   rcases List.mem_append.1 hk with hk|hk
   ·exact h.lt k hk
   ·simp only [AmO]at hk;omega
  ·rcases hw1 with rfl|rfl<;>simp [setBlock]
  ·rw [hrun,hkey,hval]
  ·intro V hVr UP;rw [←hkey,←hval];exact run_entry_at V r b E.length seen.toArray (Ax enc E).toArray E.length x (hVr.trans hit) (UP.trans ((To (Ne.symm hne)).trans (hb1.trans hb))) PC Ci
end
end
theorem mj{s:Sg}{x:Rat}{k:Nat}(hs:Eh k s)(hx:Sz k x):Sz (7*k+5) (BC s x):=
 (hs.a.y.add (((hx.sub hs.a.x).div (by omega) (hs.b.x.sub hs.a.x)).mul (hs.b.y.sub hs.a.y))).mono (by omega)
def Hl(p:Pt)(st:Option (Sg×Rat))(s:Sg):Option (Sg×Rat):=
 if 0<=AO s.a.x p.x then st else if AO s.b.x p.x<0 then st else if 0<=AO (BC s p.x) p.y then st else
 match st with
 | none=>some (s,BC s p.x)
 | some (b,h)=>
  if AO (BC s p.x) h=0 then (if 0<AD (Al s.b s.a b.a)then some (s,BC s p.x)else st)
  else if 0<AO (BC s p.x) h then some (s,BC s p.x)else st
def aS:Option (Sg×Rat)→Value
 | none=>S []
 | some (_,h)=>S (R h)
def Ys:Option (Sg×Rat)→Array Value
 | none=>#[S [],S [],S [],S []]
 | some (s,_)=>#[S (R s.a.x),S (R s.a.y),S (R s.b.x),S (R s.b.y)]
def Uk(st:Option (Sg×Rat)):Value:=.agg (Ys st)
def Dc(p:Pt)(l:List Sg):Option (Sg×Rat):=l.foldl (Hl p) none
theorem mG(p:Pt)(l:List Sg)(s:Sg):Dc p (l ++ [s])=Hl p (Dc p l) s:=by simp [Dc]
theorem Ey{α:Type}{W:World}{r b:Nat}{E:List (α×Value×Nat)}{seen:List Nat}(h:C0 W r b E seen):(W.iterSeen r).size=seen.length:=by
 unfold World.iterSeen;rw [h.it];simp
structure Qr(w wr:World)(b1 bb r:Nat)(L:List (Sg×Int))(p:Pt)(seen:List Nat)(st:Option (Sg×Rat)):Prop where
 ext:Aa w wr
 box:wr.heap[bb]?=some (.cells #[S (R p.x),S (R p.y)] 92)
 best:wr.heap[bb+1]?=some (.cells (Ys st) 155)
 iter:C0 wr r b1 (stamp L) seen
def Ug(p:Pt)(st:Option (Sg×Rat))(s:Sg):Option (Sg×Rat):=
 match st with
 | none=>some (s,BC s p.x)
 | some (b,h)=>if AO (BC s p.x) h=0 then (if 0 < AD (Al s.b s.a b.a)then some (s,BC s p.x)else some (b,h))else if 0 < AO (BC s p.x) h then some (s,BC s p.x)else some (b,h)
theorem zf(p:Pt)(st:Option (Sg×Rat))(s:Sg):Hl p st s=if 0<=AO s.a.x p.x then st else if AO s.b.x p.x<0 then st else if 0<=AO (BC s p.x) p.y then st else Ug p st s:=by
 cases st<;>rfl
theorem Yt(st:Option (Sg×Rat)):∃c0 c1 c2 c3:Bs,Ys st=#[S c0,S c1,S c2,S c3]:=by
 cases st with
 | none=>exact⟨_,_,_,_,rfl⟩
 | some x=>exact⟨_,_,_,_,rfl⟩
theorem iM(L:List (Sg×Int)):∀i (h:i<(stamp L).length),(stamp L)[i].2.2=i:=by
 intro i h;simp [stamp]
theorem WR(L:List (Sg×Int)){i:Nat}(h:i<(stamp L).length):(stamp L)[i].1=(L[i]'(by rw [Dn]at h;exact h)).1:=by simp [stamp]
theorem iO(L:List (Sg×Int)){i:Nat}(h:i<(stamp L).length):(stamp L)[i].2.1=.int .i64 (L[i]'(by rw [Dn]at h;exact h)).2:=by simp [stamp]
theorem jd{β:Type}(L:List β):(List.range L.length).filterMap (fun i=>L[i]?)=L:=by
 have h:∀n,n<=L.length→(List.range n).filterMap (fun i=>L[i]?)=L.take n:=by
  intro n
  induction n with
  | zero=>intro _;simp
  | succ n ih=>intro hn;rw [List.range_succ,List.filterMap_append,ih (by omega),AmF (by omega)];simp [AmH (show n<L.length by omega)]
 rw [h _ (AmC _),List.take_length]
theorem jy(L:List (Sg×Int)){seen:List Nat}(Ci:seen.Nodup)(hlt:∀i∈seen,i<(stamp L).length)(hlen:seen.length=(stamp L).length):(seen.filterMap (fun i=>L[i]?.map (·.1))).Perm (L.map (·.1)):=by
 rw [Dn]at hlt hlen
 have hmem:∀i,i<L.length→i∈seen:=by
  intro i hi;refine Classical.byContradiction fun hn=>?_;have h1:(i::seen).Nodup:=List.nodup_cons.2 ⟨hn,Ci⟩
  have h2:(i::seen) ⊆ List.range L.length:=by
   intro j hj
   rcases List.mem_cons.1 hj with rfl|hj
   ·simpa using hi
   ·simpa using hlt j hj
  have:=h1.length_le_of_subset h2;simp at this;omega
 have hp:seen.Perm (List.range L.length):=by
  rw [List.perm_iff_count];intro i;rw [Ci.count,(List.nodup_range).count];by_cases hi:i<L.length
  ·rw [if_pos (hmem i hi),if_pos (by simpa using hi)]
  ·rw [if_neg (fun h=>hi (hlt i h)),if_neg (by simpa using hi)]
 refine(hp.filterMap _).trans ?_
 have e:(List.range L.length).filterMap (fun i=>L[i]?.map (·.1))=L.map (·.1):=by
  have e1:(List.range L.length).filterMap (fun i=>L[i]?.map (·.1))=((List.range L.length).filterMap (fun i=>L[i]?)).map (·.1):=(by rw [List.map_filterMap]);rw [e1]
  congr 1
  exact jd L
 rw [e]
theorem Qr.put{w w':World}{b1 bb:Nat}{L:List (Sg×Int)}{p:Pt}{seen:List Nat}{st:Option (Sg×Rat)}(hB:Qr w w' b1 bb (bb+2) L p seen st)(hle:w.heap.size<=bb)(s:Sg)(y:Rat) :
  Qr w ((((w'.setCell ⟨bb+1,0,none⟩ (S (R s.a.x))).setCell ⟨bb+1,1,none⟩ (S (R s.a.y))).setCell ⟨bb+1,2,none⟩ (S (R s.b.x))).setCell ⟨bb+1,3,none⟩ (S (R s.b.y))) b1 bb (bb+2) L p seen (some (s,y)):=by
 obtain⟨c0,c1,c2,c3,hc⟩:=Yt st;have hb:=hB.best;rw [hc]at hb
 have far:∀(X:World) (o:Nat) (v:Value) (q:Nat),q≠bb+1→(X.setCell ⟨bb+1,o,none⟩ v).heap[q]?=X.heap[q]?:=by intro X o v q hq;simp only [World.setCell,Array.getElem?_modify];rw [if_neg (by omega)]
 refine⟨(((hB.ext.setCell (p:=⟨bb+1,0,none⟩) (by simp;omega) _).setCell (p:=⟨bb+1,1,none⟩) (by simp;omega) _).setCell (p:=⟨bb+1,2,none⟩) (by simp;omega) _).setCell (p:=⟨bb+1,3,none⟩) (by simp;omega) _,?_,OE _ _ _ _ hb,hB.iter.keep ?_⟩
 ·rw [far _ _ _ _ (by omega),far _ _ _ _ (by omega),far _ _ _ _ (by omega),far _ _ _ _ (by omega)];exact hB.box
 ·rw [far _ _ _ _ (by omega),far _ _ _ _ (by omega),far _ _ _ _ (by omega),far _ _ _ _ (by omega)]
theorem zh{B:Nat}{w:World}{rn b1 b2:Nat}{L:List (Sg×Int)}{E:List (Pt×Value×Nat)}{R0:List (Pt×List Pt)}(h:Bq B w rn b1 b2 L E R0)(p:Pt){k:Nat}(hL:∀e∈L,Eh k e.1)(hp:Ar k p)(hk:0<k)(hk2:k<=200)(hw:An w) :
  Calls Tryz.prog 235 #[.pointer (some ⟨rn,0,none⟩),Ak p] w fun e w'=>∃l:List Sg,l.Perm (L.map (·.1))/\e=.returned (.tuple #[Uk (Dc p l),.bool (Dc p l).isSome])/\Aa w w':=by
 have hE:=((Aa.refl w).alloc (.cells #[S (R p.x),S (R p.y)] 92)).alloc (.cells #[S [],S [],S [],S []] 155);have hb1:=(Below.heap_alloc (w.alloc (.cells #[S (R p.x),S (R p.y)] 92)) (.cells #[S [],S [],S [],S []] 155) w.heap.size (by simp)).trans (AmB w (.cells #[S (R p.x),S (R p.y)] 92));have hb2:=AmB (w.alloc (.cells #[S (R p.x),S (R p.y)] 92)) (.cells #[S [],S [],S [],S []] 155);rw [AmJ]at hb2;have hN:=h.ext hE;unfold Ak;go_enter Tryz.func235,Tryz.ntmps235
 go_upto_region 2 with fail
 rw [show (⟨#[]⟩:ByteArray)=⟨([]:Bs).toArray⟩from rfl];have hsz:((w.alloc (.cells #[S (R p.x),S (R p.y)] 92)).alloc (.cells #[S [],S [],S [],S []] 155)).heap.size=w.heap.size+2:=(by simp);generalize (w.alloc (.cells #[S (R p.x),S (R p.y)] 92)).alloc (.cells #[S [],S [],S [],S []] 155)=V at *;obtain⟨bb,AZ⟩:=Am8 w.heap.size;have hle:w.heap.size<=bb:=(by omega);have Et:bb<=w.heap.size:=(by omega);rw [←AZ]at hb1 hb2 hsz ⊢;clear AZ;have n1:=Ab (o:=0) hN.cell rfl;have hrg:=C0.range (enc:=As) (E:=stamp L) (t:=131) Tryz.underlying131 (W:=V) (b:=b1) (by rw [Dn];exact hN.left);obtain⟨hr1,hr2⟩:=hrg;rw [hsz]at hr1 hr2;have hEI:=hE.alloc (.mapIter (some b1) (stamp L).length #[] (stamp L).length);have RF:=(Below.heap_alloc V (.mapIter (some b1) (stamp L).length #[] (stamp L).length) bb (by omega)).trans hb1;have ZK:=(Below.heap_alloc V (.mapIter (some b1) (stamp L).length #[] (stamp L).length) (bb+1) (by omega)).trans hb2;clear hb1 hb2
 go_upto_region 3 with fail
 generalize V.alloc (.mapIter (some b1) (stamp L).length #[] (stamp L).length)=V2 at *
 go_loopw [5,6] (fun f hi wr=>∃(seen:List Nat) (st:Option (Sg×Rat)),f=.bool st.isSome/\hi=aS st/\Qr w wr b1 bb (bb+2) L p seen st/\st=Dc p (seen.filterMap (fun i=>L[i]?.map (·.1)))/\(∀x,st=some x→Eh k x.1/\x.2=BC x.1 p.x)) (fun _ _ wr=>L.length-(wr.iterSeen (bb+2)).size)
 case atStart=>exact⟨[],none,rfl,rfl,⟨hEI,RF,ZK,hr2⟩,rfl,by simp⟩
 case round=>
  obtain⟨seen,st,rfl,rfl,hB,hst,IV⟩:=hrel;have hb0:=(hB.ext.block b1 (AmA h.left)).trans h.left;rw [←Dn]at hb0;have Gn:=AmA h.left;obtain⟨c0,c1,c2,c3,hc⟩:=Yt st;have Hv:=hB.best;rw [hc]at Hv
  rcases C0.next As hB.iter hb0 (iM L) (by omega) 0 with⟨hlen,hrun⟩|⟨i,hi,Gq,W1,FC,hG1,hs1,hrun,hen⟩
  ·have y0:=AV (o:=0) Hv;have y1:=AV (o:=1) Hv;have y2:=AV (o:=2) Hv;have y3:=AV (o:=3) Hv;have z0:=Ab (o:=0) Hv rfl;have z1:=Ab (o:=1) Hv rfl;have z2:=Ab (o:=2) Hv rfl;have z3:=Ab (o:=3) Hv rfl;have hq:=OE (S c0) (S c1) (S c2) (S c3) Hv;have q0:=Ab (o:=0) hq rfl;have q1:=Ab (o:=1) hq rfl;have q2:=Ab (o:=2) hq rfl;have q3:=Ab (o:=3) hq rfl;have hP:=jy L hB.iter.nd hB.iter.lt hlen;have hX:=hB.ext;rw [hst]at hc;have hV:Uk (Dc p (seen.filterMap (fun i=>L[i]?.map (·.1))))=.agg #[S c0,S c1,S c2,S c3]:=(by unfold Uk;rw [hc]);obtain⟨fb,hfb⟩:=Am8 st.isSome;have aD:=hfb;rw [hst]at aD;rw [←hfb];clear hq Hv hB hc hfb IV hst;go_wp2;refine bodyPost_ret (v:=.tuple #[.agg #[S c0,S c1,S c2,S c3],.bool fb]) (by simp [results,Tryz.results235,go_sem,q0,q1,q2,q3,aD])  rfl ?_;exact⟨_,hP,by rw [hV,aD],(((hX.setCell (p:=⟨bb+1,0,none⟩) (by simp;omega) _).setCell (p:=⟨bb+1,1,none⟩) (by simp;omega) _).setCell (p:=⟨bb+1,2,none⟩) (by simp;omega) _).setCell (p:=⟨bb+1,3,none⟩) (by simp;omega) _⟩
  ·have KI:i<L.length:=(by rw [Dn]at hi;exact hi);rw [WR,iO]at hrun hen;have hsk:Eh k (L[i]).1:=hL _ (AmD KI)
   have hstep:Dc p ((seen ++ [i]).filterMap (fun i=>L[i]?.map (·.1)))=Hl p st (L[i]).1:=by rw [List.filterMap_append,hst];simp only [List.filterMap_cons,List.filterMap_nil,AmH KI,Option.map_some];rw [mG]
   have hlen':seen.length<L.length:=by
    have h2:(i::seen) ⊆ List.range L.length:=by
     intro j hj
     rcases List.mem_cons.1 hj with rfl|hj
     ·simpa using KI
     ·have:=hB.iter.lt j hj;rw [Dn]at this;simpa using this
    have:=(List.nodup_cons.2 ⟨Gq,hB.iter.nd⟩).length_le_of_subset h2;simp at this;omega
   have Di:=Ey hB.iter;have X1:Aa w W1:=Nx hB.ext hG1 (by omega);have mP:=(hG1.block bb (AmA hB.box) (by simp)).trans hB.box;have mH:=(hG1.block (bb+1) (AmA hB.best) (by simp)).trans hB.best;have Gl:=hen W1 rfl rfl;obtain⟨s,hs⟩:=Am8 ((L[i]).1);obtain⟨z,hz⟩:=Am8 ((L[i]).2);rw [←hs,←hz]at Gl hrun;rw [←hs]at hsk hstep;have Em:=AmB W1 (.cells #[S (R s.a.x),S (R s.a.y),S (R s.b.x),S (R s.b.y)] 155);have E3:=(Aa.refl W1).alloc (.cells #[S (R s.a.x),S (R s.a.y),S (R s.b.x),S (R s.b.y)] 155)
   have KEEP:∀w',Aa (W1.alloc (.cells #[S (R s.a.x),S (R s.a.y),S (R s.b.x),S (R s.b.y)] 155)) w'→Qr w w' b1 bb (bb+2) L p (seen ++ [i]) st:=fun w' hx=>
    have hy:=E3.trans hx
    ⟨X1.trans hy,(hy.block _ (AmA mP)).trans mP,(hy.block _ (AmA mH)).trans mH,FC.keep (hy.block _ (AmA FC.it))⟩
   clear hen hs hz Hv hb0 hG1 hr1 hr2 hB hN;unfold As at Gl hrun
   go_upto_region 5 with fail
   unfold S at Em E3 KEEP;rw [hs1]at Em;generalize (W1.alloc (.cells #[.string ⟨(R s.a.x).toArray⟩,.string ⟨(R s.a.y).toArray⟩,.string ⟨(R s.b.x).toArray⟩,.string ⟨(R s.b.y).toArray⟩] 155))=V3 at *;obtain⟨bs,FH⟩:=Am8 wr.heap.size;rw [←FH]at Em ⊢;clear hrun Gl FH hs1 hst;have okV:=hw.ext (X1.trans E3);have B0:=(KEEP V3 (Aa.refl _)).box
   have F:∀w',Aa V3 w'→(w'.cell? ⟨bb,0,none⟩=some (S (R p.x))/\w'.cell? ⟨bb,1,none⟩=some (S (R p.y))/\w'.cell? ⟨bs,0,none⟩=some (S (R s.a.x))/\w'.cell? ⟨bs,1,none⟩=some (S (R s.a.y))/\w'.cell? ⟨bs,2,none⟩=some (S (R s.b.x))/\w'.cell? ⟨bs,3,none⟩=some (S (R s.b.y))):=fun w' h=>⟨h.cellS (Ab B0 rfl),h.cellS (Ab B0 rfl),h.cellS (Ab Em rfl),h.cellS (Ab Em rfl),h.cellS (Ab Em rfl),h.cellS (Ab Em rfl)⟩
   clear B0 Em;have cA:=Jc s.a.x p.x (a:=k) (b:=k) ⟨hsk.a.x,hp.x,hk,hk,by omega⟩;have cB:=Jc s.b.x p.x (a:=k) (b:=k) ⟨hsk.b.x,hp.x,hk,hk,by omega⟩
   have Cg:Hl p st s=if 0<=AO s.a.x p.x then st else if AO s.b.x p.x<0 then st else if 0<=AO (BC s p.x) p.y then st else Ug p st s:=zf p st s
   obtain⟨xa,AA⟩:=Am8 (AO s.a.x p.x);obtain⟨xb,hxb⟩:=Am8 (AO s.b.x p.x);rw [←AA]at cA Cg;rw [←hxb]at cB Cg;obtain⟨f1,f2,f3,f4,f5,f6⟩:=F V3 (Aa.refl _);(go_wp2_with fail);(with_reducible refine(cA _ okV).mono ?_);rintro e w1 ⟨rfl,hx1⟩;clear f1 f2 f3 f4 f5 f6 cA;obtain⟨f1,f2,f3,f4,f5,f6⟩:=F w1 hx1;by_cases a1:0<=xa
   ·have d1:decide (0<=xa)=true:=decide_eq_true a1;have hb1:Hl p st s=st:=(by rw [Cg,if_pos a1]);clear Cg cB F;go_wp2;go_roundw
    case rel=>exact⟨seen ++ [i],st,rfl,rfl,KEEP _ hx1,by rw [hstep];exact(hb1).symm,IV⟩
    case measure=>rw [Di,Ey (KEEP _ hx1).iter,List.length_append,List.length_singleton];omega
   have d1:decide (0<=xa)=false:=decide_eq_false a1;rw [if_neg a1]at Cg;(go_wp2_with fail);(with_reducible refine(cB _ (okV.ext hx1)).mono ?_);rintro e w2 ⟨rfl,hx2⟩;replace hx2:=hx1.trans hx2;clear f1 f2 f3 f4 f5 f6 cB hx1;obtain⟨f1,f2,f3,f4,f5,f6⟩:=F w2 hx2;by_cases a2:xb<0
   ·have d2:decide (xb<0)=true:=decide_eq_true a2;have hb1:Hl p st s=st:=(by rw [Cg,if_pos a2]);clear Cg F;go_wp2;go_roundw
    case rel=>exact⟨seen ++ [i],st,rfl,rfl,KEEP _ hx2,by rw [hstep];exact(hb1).symm,IV⟩
    case measure=>rw [Di,Ey (KEEP _ hx2).iter,List.length_append,List.length_singleton];omega
   have d2:decide (xb<0)=false:=decide_eq_false a2;rw [if_neg a2]at Cg
   have h0:s.b.x≠s.a.x:=by have q1:=Uo s.a.x p.x;have q2:=Uo s.b.x p.x;rw [←AA]at q1;rw [←hxb]at q2;have q3:s.a.x<p.x:=q1.1 (by omega);have q4:¬s.b.x<p.x:=fun h=>a2 (q2.2 h);intro e;rw [e]at q4;exact q4 q3
   have ch:=Ad0 s p.x hsk hp.x hk (by omega) h0;unfold As at ch;have dH:=mj hsk hp.x;obtain⟨y,hy⟩:=Am8 (BC s p.x);rw [←hy]at ch dH Cg;have cC:=Jc y p.y (a:=7*k+5) (b:=k) ⟨dH,hp.y,by omega,hk,by omega⟩;obtain⟨xc,MC⟩:=Am8 (AO y p.y);rw [←MC]at cC Cg;have HY:=Am9 hy;clear AA hxb MC h0 hy;(go_wp2_with fail);(with_reducible refine(ch _ (okV.ext hx2)).mono ?_);rintro e w3 ⟨rfl,hx3⟩;replace hx3:=hx2.trans hx3;clear f1 f2 f3 f4 f5 f6 ch hx2;obtain⟨f1,f2,f3,f4,f5,f6⟩:=F w3 hx3;(go_wp2_with fail);(with_reducible refine(cC _ (okV.ext hx3)).mono ?_);rintro e w4 ⟨rfl,Ai⟩;replace Ai:=hx3.trans Ai;clear f1 f2 f3 f4 f5 f6 cC hx3;obtain⟨f1,f2,f3,f4,f5,f6⟩:=F w4 Ai;by_cases a3:0<=xc
   ·have d3:decide (0<=xc)=true:=decide_eq_true a3;have hb1:Hl p st s=st:=(by rw [Cg,if_pos a3]);clear Cg F;go_wp2;go_roundw
    case rel=>exact⟨seen ++ [i],st,rfl,rfl,KEEP _ Ai,by rw [hstep];exact hb1.symm,IV⟩
    case measure=>rw [Di,Ey (KEEP _ Ai).iter,List.length_append,List.length_singleton];omega
   have d3:decide (0<=xc)=false:=decide_eq_false a3;rw [if_neg a3]at Cg;have K4:=KEEP w4 Ai
   cases st with
   | none=>
    have KV:Ug p none s=some (s,y):=(by rw [HY.out];rfl);rw [KV]at Cg;have y0:=AV (o:=0) K4.best;have y1:=AV (o:=1) K4.best;have y2:=AV (o:=2) K4.best;have y3:=AV (o:=3) K4.best;have z0:=Ab (o:=0) K4.best rfl;have z1:=Ab (o:=1) K4.best rfl;have z2:=Ab (o:=2) K4.best rfl;have z3:=Ab (o:=3) K4.best rfl;have K5:=K4.put hle s y;unfold aS;clear K4 F KEEP KV;go_wp2;go_roundw
    case rel=>exact⟨seen ++ [i],some (s,y),rfl,rfl,K5,by rw [hstep];exact Cg.symm,by rintro x hx;simp only [AmG]at hx;rw [←hx];exact⟨hsk,HY.out⟩⟩
    case measure=>rw [Di,Ey K5.iter,List.length_append,List.length_singleton];omega
   | some bh=>
    obtain⟨b,hh⟩:=bh;obtain⟨ZS,aR⟩:=IV _ rfl;simp only at ZS aR;have vF:Sz (7*k+5) hh:=(by rw [aR];exact mj ZS hp.x);have cD:=Jc y hh (a:=7*k+5) (b:=7*k+5) ⟨dH,vF,by omega,by omega,by omega⟩
    have KV:Ug p (some (b,hh)) s=if AO y hh=0 then (if 0<AD (Al s.b s.a b.a)then some (s,y)else some (b,hh))else if 0<AO y hh then some (s,y)else some (b,hh):=by rw [HY.out];rfl
    rw [KV]at Cg;obtain⟨xd,KZ⟩:=Am8 (AO y hh);rw [←KZ]at cD Cg;clear KZ KV aR vF hc;clear K4;unfold aS;(go_wp2_with fail);(with_reducible refine(cD _ (okV.ext Ai)).mono ?_);rintro e w5 ⟨rfl,Ad⟩;replace Ad:=Ai.trans Ad;clear f1 f2 f3 f4 f5 f6 cD Ai;obtain⟨f1,f2,f3,f4,f5,f6⟩:=F w5 Ad;have K5:=KEEP w5 Ad;by_cases a4:xd=0
    ·subst a4;rw [if_pos rfl]at Cg;have cE:=Ln s.b s.a b.a hsk.b hsk.a ZS.a hk (by omega);unfold Ak at cE;obtain⟨xe,P9⟩:=Am8 (AD (Al s.b s.a b.a));rw [←P9]at cE Cg;clear P9;have z0:w5.cell? ⟨bb+1,0,none⟩=some (S (R b.a.x)):=Ab (o:=0) K5.best rfl;have z1:w5.cell? ⟨bb+1,1,none⟩=some (S (R b.a.y)):=Ab (o:=1) K5.best rfl;clear K5;(go_wp2_with fail);(with_reducible refine(cE _ (okV.ext Ad)).mono ?_);rintro e w6 ⟨rfl,AH⟩;replace AH:=Ad.trans AH;clear f1 f2 f3 f4 f5 f6 cE Ad z0 z1;obtain⟨f1,f2,f3,f4,f5,f6⟩:=F w6 AH;have K6:=KEEP w6 AH;by_cases a5:0<xe
     ·have d5:decide (0<xe)=true:=decide_eq_true a5;rw [if_pos a5]at Cg;have y0:=AV (o:=0) K6.best;have y1:=AV (o:=1) K6.best;have y2:=AV (o:=2) K6.best;have y3:=AV (o:=3) K6.best;have z0:=Ab (o:=0) K6.best rfl;have z1:=Ab (o:=1) K6.best rfl;have z2:=Ab (o:=2) K6.best rfl;have z3:=Ab (o:=3) K6.best rfl;have K9:=K6.put hle s y;clear K6 F KEEP;go_wp2;go_roundw
      case rel=>exact⟨seen ++ [i],some (s,y),rfl,rfl,K9,by rw [hstep];exact Cg.symm,by rintro x hx;simp only [AmG]at hx;rw [←hx];exact⟨hsk,HY.out⟩⟩
      case measure=>rw [Di,Ey K9.iter,List.length_append,List.length_singleton];omega
     ·have d5:decide (0<xe)=false:=decide_eq_false a5;rw [if_neg a5]at Cg;go_wp2;go_roundw
      case rel=>exact⟨seen ++ [i],some (b,hh),rfl,rfl,K6,by rw [hstep];exact Cg.symm,IV⟩
      case measure=>rw [Di,Ey K6.iter,List.length_append,List.length_singleton];omega
    ·have d4:decide (xd=0)=false:=decide_eq_false a4;have d4':(xd == 0)=false:=(by simpa using a4);rw [if_neg a4]at Cg;by_cases a5:0<xd
     ·have d5:decide (0<xd)=true:=decide_eq_true a5;rw [if_pos a5]at Cg;have y0:=AV (o:=0) K5.best;have y1:=AV (o:=1) K5.best;have y2:=AV (o:=2) K5.best;have y3:=AV (o:=3) K5.best;have z0:=Ab (o:=0) K5.best rfl;have z1:=Ab (o:=1) K5.best rfl;have z2:=Ab (o:=2) K5.best rfl;have z3:=Ab (o:=3) K5.best rfl;have K9:=K5.put hle s y;clear K5 F KEEP;go_wp2;go_roundw
      case rel=>exact⟨seen ++ [i],some (s,y),rfl,rfl,K9,by rw [hstep];exact Cg.symm,by rintro x hx;simp only [AmG]at hx;rw [←hx];exact⟨hsk,HY.out⟩⟩
      case measure=>rw [Di,Ey K9.iter,List.length_append,List.length_singleton];omega
     ·have d5:decide (0<xd)=false:=decide_eq_false a5;rw [if_neg a5]at Cg;go_wp2;go_roundw
      case rel=>exact⟨seen ++ [i],some (b,hh),rfl,rfl,K5,by rw [hstep];exact Cg.symm,IV⟩
      case measure=>rw [Di,Ey K5.iter,List.length_append,List.length_singleton];omega
end Go.Proofs.YtjalkoacphhgdaaGreatDoor
