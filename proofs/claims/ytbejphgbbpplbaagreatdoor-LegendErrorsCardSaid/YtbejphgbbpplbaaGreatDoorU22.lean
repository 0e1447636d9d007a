/- U22: ShLay ShM12 ShM13 ShM14 ShM15 ShM16 ShM18 ShM19 ShM20. -/
import Derived.Test.YtbejphgbbpplbaaGreatDoorU19
import Derived.Shelf.SlSortCmp.InsertionK
set_option maxRecDepth 100000
set_option maxHeartbeats 8000000
namespace Go.Proofs.YtbejphgbbpplbaaGreatDoor
open Go.RowKit Kl Go.Sort
theorem MQ{w a b:World}{r:Nat}(h:Aa w a)(hg:a.grownBy b (some r))(hr:w.heap.size<=r):Aa w b:=
 ⟨hg.os.trans h.os,hg.tape.trans h.tape,hg.output.trans h.output,Asl h.size hg.size,fun k hk=>(hg.block k (Asj hk h.size) (by simp;omega)).trans (h.block k hk)⟩
section
variable {α : Type} [Inhabited α]
theorem Oz(enc:α→List Value)(k:Nat)(w:World)(blk off m:Nat)(dk:Array α)(os:Array Obj):w.grownBy (sortWorldK enc k w blk off m dk os) (some blk):=by
 refine⟨rfl,rfl,rfl,?_,fun i hi hne=>?_⟩
 ·exact size_sortWorldK_c enc k w blk off m dk os
 ·have hb:i≠blk:=fun e=>hne (by rw [e]);show ((w.heap.modify blk _)++os)[i]?=w.heap[i]?;rw [Array.getElem?_append_left (by simpa using hi),Array.getElem?_modify,if_neg (fun e=>hb e.symm)]
theorem XY{g:Nat}{cb:Array Value}{enc:α→List Value}{k:Nat}{cf:α→α→Int}{blk off size:Nat}{w:World}
  (h:∀W,w.grownBy W (some blk)→∀x y,Calls Tryz.prog g (#[.agg (enc x).toArray,.agg (enc y).toArray]++cb) W (Av (cf x y) W)):CmpLays Tryz.prog g cb enc k cf blk off size w:=by
 intro m os dk _ x y;refine(Calls.drawn (h _ (Oz enc k w blk off m dk os) x y) (fun e w' h=>⟨_,h.1⟩)).mono ?_;rintro e w' ⟨⟨he,hx⟩,hd⟩;exact⟨he,hx.grow hd⟩
theorem Aoh(enc:α→List Value)(k:Nat)(w:World)(blk off m:Nat)(dk:Array α)(os:Array Obj){c:Array Value}{e:TypeId}{fr:Nat×Nat}(h:w.heap[blk]?=some (.cells c e fr)) :
  (sortWorldK enc k w blk off m dk os).heap[blk]?=some (.cells (putCells id off (flatK enc k dk) c) e fr):=by
 have hlt:=ArX h;show ((w.heap.modify blk (onCells (putCells id off (flatK enc k dk))))++os)[blk]?=_;rw [Array.getElem?_append_left (by simpa using hlt),Array.getElem?_modify,if_pos rfl,h]
 rfl
end
theorem cZ{α:Type}{enc:α→List Value}{k:Nat}(hk:∀x,(enc x).length=k):∀(l:List α),(l.flatMap enc).length=l.length*k
 | []=>by simp
 | x::l=>by rw [List.flatMap_cons,List.length_append,hk,cZ hk l,List.length_cons,Nat.add_mul,Nat.one_mul,Nat.add_comm]
section
variable {α : Type} [Inhabited α] {enc : α → List Value} {k : Nat}
theorem Wc(hk:∀x,(enc x).length=k)(k0:0<k):∀(l:List α) (t:Nat),t<l.length*k→(l.flatMap enc)[t]?=some ((enc l[t/k]!)[t%k]!)
 | [],t,h=>by simp at h
 | x::l,t,h=>by
  rw [List.flatMap_cons];by_cases ht:t<k
  ·rw [List.getElem?_append_left (by rw [hk];exact ht),Nat.div_eq_of_lt ht,Nat.mod_eq_of_lt ht,Asf (by rw [hk];exact ht)];simp [hk,ht]
  ·have e1:t/k=(t-k)/k+1:=by rw [Nat.div_eq_sub_div k0 (by omega)]
   have e2:t%k=(t-k)%k:=by rw [Nat.mod_eq_sub_mod (by omega)]
   have hl:t-k<l.length*k:=by rw [List.length_cons,Nat.add_mul,Nat.one_mul]at h;omega
   rw [List.getElem?_append_right (by rw [hk];omega),hk,Wc hk k0 l (t-k) hl,e1,e2];simp
theorem xE(hk:∀x,(enc x).length=k)(k0:0<k)(d:Array α):(flatK enc k d).toList=d.toList.flatMap enc:=by
 apply List.ext_getElem?;intro t;by_cases ht:t<d.size*k
 ·rw [Wc hk k0 _ _ (by simpa using ht)];have h1:t<(flatK enc k d).toList.length:=(by simpa using ht);have h2:=get_flatK enc k d t ht;rw [Asf h1]
  have h3:(flatK enc k d)[t]! = (flatK enc k d).toList[t]:=by rw [getElem!_pos _ t (by simpa using ht)];simp
  rw [←h3,h2]
  congr 1
  have h4:d[t/k]! = d.toList[t/k]!:=by have hlt:t/k<d.size:=Nat.div_lt_of_lt_mul (by rw [Nat.mul_comm];exact ht);rw [getElem!_pos d _ hlt,getElem!_pos d.toList _ (by simpa using hlt)];simp
  rw [h4]
 ·rw [List.getElem?_eq_none (by simp;omega),List.getElem?_eq_none (by rw [cZ hk];simp;omega)]
theorem XF{w:World}{base:Nat}{e:TypeId}{v:Value}{d:Array α}(hk:∀x,(enc x).length=k)(k0:0<k)(h:w.ownsRow base e k v d.size (d.toList.flatMap enc))(hd:0<d.size) :
  ∃g cap,v=.slice (some ⟨g,0,none⟩) d.size cap/\base<=g/\g<w.heap.size/\HoldsK enc k w g 0 d/\v.ownBlock=some g:=by
 rcases h.2 with⟨_,h0⟩|⟨g,cap,cur,rfl,hb,hg,hn,hm,hs,ht⟩
 ·omega
 ·refine⟨g,cap,rfl,hb,ArX hg,?_,rfl⟩;intro j hj;rw [size_flatK]at hj;have N1:j<d.toList.length*k:=(by simpa using hj);have h1:=Wc hk k0 d.toList j N1;rw [←xE hk k0]at h1
  have h2:(flatK enc k d)[j]! = (enc d.toList[j/k]!)[j%k]!:=by rw [getElem!_pos _ j (by simpa using hj)];rw [Asf (by simpa using hj),Ase]at h1;rw [←h1];simp
  have h3:cur.toList[j]?=some ((flatK enc k d)[j]!):=by have h4:=Wc hk k0 d.toList j N1;rw [←ht,List.getElem?_take_of_lt (by rw [Nat.mul_comm]at hj ⊢;omega)]at h4;rw [h4,h2]
  refine⟨?_,?_⟩
  ·rw [Nat.zero_add];refine Ab hg ?_;rw [←Array.getElem?_toList];exact h3
  ·rw [Nat.zero_add];exact AB hg
theorem Rq{w:World}{base:Nat}{e:TypeId}{g cap:Nat}{d d':Array α}(hk:∀x,(enc x).length=k)(k0:0<k)(h:w.ownsRow base e k (.slice (some ⟨g,0,none⟩) d.size cap) d.size (d.toList.flatMap enc))(hd:d'.size=d.size)(m:Nat)(os:Array Obj) :
  (sortWorldK enc k w g 0 m d' os).ownsRow base e k (.slice (some ⟨g,0,none⟩) d.size cap) d.size (d'.toList.flatMap enc):=by
 rcases h.2 with⟨h',_⟩|⟨g',cap',cur,hv,hb,hg,hn,hm,hs,ht⟩
 ·cases h'
 ·simp only [Value.slice.injEq,Ase,Addr.mk.injEq,and_true,true_and]at hv;obtain⟨rfl,rfl⟩:=hv;have hF:(flatK enc k d').size=d.size*k:=(by rw [size_flatK,hd]);have hle:d.size*k<=cur.size:=(by rw [hs];exact Nat.mul_le_mul_right k hn);refine⟨?_,.inr ⟨g,cap,_,rfl,hb,Aoh enc k w g 0 m d' os hg,hn,hm,?_,?_⟩⟩
  ·rw [cZ hk];simp [hd]
  ·unfold putCells;simpa using hs
  ·rw [←xE hk k0];apply List.ext_getElem?;intro t;by_cases FZ:t<d.size*k
   ·rw [List.getElem?_take_of_lt FZ,Array.getElem?_toList];unfold putCells;rw [Array.getElem?_mapIdx,Array.getElem?_eq_getElem (by omega)];simp only [Option.map_some,Nat.zero_le,true_and,Nat.zero_add,Nat.sub_zero];rw [if_pos (by omega),Array.getElem?_toList,Array.getElem?_eq_getElem (by omega)];rw [getElem!_pos _ t (by omega)]
    rfl
   ·rw [List.getElem?_eq_none (by rw [List.length_take];omega),List.getElem?_eq_none (by simp [hd];omega)]
end
def Ga(s t:Sg):Int:=if AX s.a t.a≠0 then AX s.a t.a else AX s.b t.b
theorem AeT(s t:Sg){k:Nat}(hs:Gk k s)(ht:Gk k t)(hk:0<k)(hk2:k<=1)(w:World)(hw:Al w) :
  Calls Tryz.prog 109 #[AA s,AA t] w (Av (Ga s t) w):=by
 have c1:=IO s.a t.a hs.a ht.a hk hk2;have c2:=IO s.b t.b hs.b ht.b hk hk2;have hE:=((Aa.refl w).alloc (.cells #[S (R s.a.x),S (R s.a.y),S (R s.b.x),S (R s.b.y)] 155)).alloc (.cells #[S (R t.a.x),S (R t.a.y),S (R t.b.x),S (R t.b.y)] 155);obtain⟨x,hx0⟩:=ArV (AX s.a t.a);obtain⟨y,Es⟩:=ArV (AX s.b t.b)
 have hr:Ga s t=if x≠0 then x else y:=by rw [hx0,Es];rfl
 rw [hr];rw [←hx0]at c1;rw [←Es]at c2
 have hA:(w.alloc (.cells #[S (R s.a.x),S (R s.a.y),S (R s.b.x),S (R s.b.y)] 155)).alloc (.cells #[S (R t.a.x),S (R t.a.y),S (R t.b.x),S (R t.b.y)] 155) |>.heap[w.heap.size]?=some (.cells #[S (R s.a.x),S (R s.a.y),S (R s.b.x),S (R s.b.y)] 155):=(Below.heap_alloc _ _ _ (by simp)).trans (ArY w _)
 have hB:=ArY (w.alloc (.cells #[S (R s.a.x),S (R s.a.y),S (R s.b.x),S (R s.b.y)] 155)) (.cells #[S (R t.a.x),S (R t.a.y),S (R t.b.x),S (R t.b.y)] 155);rw [Ash]at hB;obtain⟨r,Gz⟩:=ArV (if x≠0 then x else y:Int);rw [←Gz]
 have NN:∀(b o:Nat) (w:World),w.cell? ⟨b,o,none⟩=some (.int .i64 x)→w.cell? ⟨b,o+1,none⟩=some (.int .i64 y)→Calls Tryz.prog 98 #[.slice (some ⟨b,o,none⟩) 2 2] w (Av r w):=by intro b o w h1 h2;rw [Gz];exact Y2 x y b o w h1 h2
 unfold Af at c1 c2;unfold AA;clear hs ht hr hx0 Es Gz;go_enter Tryz.func109,Tryz.ntmps109
 go_upto_region 1 with fail
 generalize (w.alloc (.cells #[S (R s.a.x),S (R s.a.y),S (R s.b.x),S (R s.b.y)] 155)).alloc (.cells #[S (R t.a.x),S (R t.a.y),S (R t.b.x),S (R t.b.y)] 155)=V at *;have hs:=hE.size;obtain⟨ba,Aw⟩:=ArV w.heap.size;rw [←Aw]at hA hB ⊢;clear Aw hs
 have SO:∀w',Aa V w'→(w'.cell? ⟨ba,0,none⟩=some (S (R s.a.x))/\w'.cell? ⟨ba,1,none⟩=some (S (R s.a.y))/\w'.cell? ⟨ba,2,none⟩=some (S (R s.b.x))/\w'.cell? ⟨ba,3,none⟩=some (S (R s.b.y))/\w'.cell? ⟨ba+1,0,none⟩=some (S (R t.a.x))/\w'.cell? ⟨ba+1,1,none⟩=some (S (R t.a.y))/\w'.cell? ⟨ba+1,2,none⟩=some (S (R t.b.x))/\w'.cell? ⟨ba+1,3,none⟩=some (S (R t.b.y))):=fun w' h=>⟨h.cellS (Ab hA rfl),h.cellS (Ab hA rfl),h.cellS (Ab hA rfl),h.cellS (Ab hA rfl),h.cellS (Ab hB rfl),h.cellS (Ab hB rfl),h.cellS (Ab hB rfl),h.cellS (Ab hB rfl)⟩
 have X0:Aa V V.drew:=(Aa.refl V).drew;have hV:=hw.ext hE;clear hA hB
 go_region_held3 (fun w'=>w'.cell? ⟨ba,0,none⟩=some (S (R s.a.x))/\w'.cell? ⟨ba,1,none⟩=some (S (R s.a.y))/\w'.cell? ⟨ba,2,none⟩=some (S (R s.b.x))/\w'.cell? ⟨ba,3,none⟩=some (S (R s.b.y))/\w'.cell? ⟨ba+1,0,none⟩=some (S (R t.a.x))/\w'.cell? ⟨ba+1,1,none⟩=some (S (R t.a.y))/\w'.cell? ⟨ba+1,2,none⟩=some (S (R t.b.x))/\w'.cell? ⟨ba+1,3,none⟩=some (S (R t.b.y)))
  (first|with_reducible exact SO _ X0|with_reducible exact SO _ X5|with_reducible exact SO _ X6|with_reducible exact SO _ X7|with_reducible exact SO _ (X6.alloc _))
  (first|((with_reducible refine(c1 _ (hV.ext X0)).mono ?_);rintro e w5 ⟨rfl,Ax⟩;have X5:Aa V w5:=X0.trans Ax)|((with_reducible refine(c2 _ (hV.ext X5)).mono ?_);rintro e w6 ⟨rfl,BF⟩;have X6:Aa V w6:=X5.trans BF;have Dj:=ArY w6 (.cells #[.int .i64 x,.int .i64 y] 3);have g0:=Ab (o:=0) Dj rfl;have g1:=Ab (o:=1) Dj rfl;clear Dj)|((with_reducible refine(NN w6.heap.size 0 _ g0 g1).mono ?_);rintro e w7 ⟨rfl,AQ⟩;have X7:Aa V w7:=(X6.alloc _).trans AQ))
 go_wp2;go_ret;exact⟨rfl,hE.trans X7⟩
theorem VP(p q:Rat):AH p q<0↔p<q:=by unfold AH;grind
theorem bD(p q:Rat):AH p q=0↔p=q:=by unfold AH;grind
theorem Aks(a b:Pt):AX a b=0↔a.x=b.x/\a.y=b.y:=by
 unfold AX;have h1:=bD a.x b.x;have h2:=bD a.y b.y
 split<;>grind
theorem Ri(a b:Pt):AX a b<0↔a.x<b.x∨(a.x=b.x/\a.y<b.y):=by
 unfold AX;have h1:=bD a.x b.x;have h2:=VP a.x b.x;have h3:=VP a.y b.y
 split<;>grind
theorem Rj(s t:Sg):Ga s t<0↔s.a.x<t.a.x∨(s.a.x=t.a.x/\(s.a.y<t.a.y∨(s.a.y=t.a.y/\(s.b.x<t.b.x∨(s.b.x=t.b.x/\s.b.y<t.b.y))))):=by
 unfold Ga;have h1:=Aks s.a t.a;have h2:=Ri s.a t.a;have h3:=Ri s.b t.b
 split<;>grind
def S6(s:Sg):Prop:=Gk 1 s
theorem AaK:S6 ⟨⟨0,0⟩,⟨0,0⟩⟩:=by
 have h:Sz 1 (0:Rat):=(by constructor<;>decide +kernel);exact⟨⟨h,h⟩,⟨h,h⟩⟩
abbrev Way:={s:Sg // S6 s}
instance:Inhabited Way:=⟨⟨_,AaK⟩⟩
def Ik(s t:Way):Int:=Ga s.1 t.1
theorem AbB(s t:Way):ltOf Ik s t=true↔s.1.a.x<t.1.a.x∨(s.1.a.x=t.1.a.x/\(s.1.a.y<t.1.a.y∨(s.1.a.y=t.1.a.y/\(s.1.b.x<t.1.b.x∨(s.1.b.x=t.1.b.x/\s.1.b.y<t.1.b.y))))):=by
 unfold ltOf Ik;rw [decide_eq_true_iff];exact Rj _ _
theorem oW(s t:Way):ltOf Ik s t=false↔¬(s.1.a.x<t.1.a.x∨(s.1.a.x=t.1.a.x/\(s.1.a.y<t.1.a.y∨(s.1.a.y=t.1.a.y/\(s.1.b.x<t.1.b.x∨(s.1.b.x=t.1.b.x/\s.1.b.y<t.1.b.y)))))):=by
 rw [←AbB];simp
theorem AbC:SWO (ltOf Ik) where
 irrefl x:=by rw [oW];grind
 trans x y z h1 h2:=by rw [AbB]at *;grind
 ntrans x y z h1 h2:=by rw [oW]at *;grind
theorem Apr(x y:Way)(h1:ltOf Ik x y=false)(h2:ltOf Ik y x=false):x=y:=by
 rw [oW]at h1 h2;obtain⟨⟨⟨a,b⟩,⟨c,d⟩⟩,hx⟩:=x;obtain⟨⟨⟨a',b'⟩,⟨c',d'⟩⟩,hy⟩:=y;simp only [Subtype.mk.injEq,Sg.mk.injEq,Pt.mk.injEq]at *
 grind
def GF(s:Way):List Value:=[S (R s.1.a.x),S (R s.1.a.y),S (R s.1.b.x),S (R s.1.b.y)]
theorem VW(s:Way):(GF s).length=4:=rfl
theorem AfM(s:Way):∀v∈GF s,v.oneCell'=true:=by
 intro v hv;simp only [GF,List.mem_cons,Asm,or_false]at hv
 rcases hv with rfl|rfl|rfl|rfl<;>rfl
theorem Apq{w0 w:World}(hw:Al w0)(hx:Aa w0 w){blk:Nat}(hb:w0.heap.size<=blk)(off size:Nat):CmpLays Tryz.prog 109 #[] GF 4 Ik blk off size w:=by
 refine XY fun W hg x y=>?_;have h:=AeT x.1 y.1 x.2 y.2 (by omega) (by omega) W (hw.ext (MQ hx hg hb));exact h
end Go.Proofs.YtbejphgbbpplbaaGreatDoor
namespace Go.Proofs.YtbejphgbbpplbaaGreatDoor
open Go.RowKit Kl
def BE(s:Sg)(x:Rat):Rat:=s.a.y+(x-s.a.x)/(s.b.x-s.a.x)*(s.b.y-s.a.y)
theorem AhX(s:Sg)(x:Rat){k:Nat}(hs:Gk k s)(hx:Sz k x)(hk:0<k)(hk2:k<=1)(h0:s.b.x≠s.a.x)(w:World)(hw:Al w) :
  Calls Tryz.prog 288 #[AA s,S (R x)] w (BK (R (BE s x)) w):=by
 have s1:=EK x s.a.x (a:=k) (b:=k) ⟨hx,hs.a.x,hk,hk,by omega⟩;have s2:=EK s.b.x s.a.x (a:=k) (b:=k) ⟨hs.b.x,hs.a.x,hk,hk,by omega⟩;have dv:=AmK (x-s.a.x) (s.b.x-s.a.x) (by grind) (a:=k+k+1) (b:=k+k+1) ⟨hx.sub hs.a.x,hs.b.x.sub hs.a.x,by omega,by omega,by omega⟩;have s3:=EK s.b.y s.a.y (a:=k) (b:=k) ⟨hs.b.y,hs.a.y,hk,hk,by omega⟩;have mu:=Mh ((x-s.a.x)/(s.b.x-s.a.x)) (s.b.y-s.a.y) (a:=k+k+1+(k+k+1)) (b:=k+k+1) ⟨(hx.sub hs.a.x).div (by omega) (hs.b.x.sub hs.a.x),hs.b.y.sub hs.a.y,by omega,by omega,by omega⟩;have ad:=YB s.a.y ((x-s.a.x)/(s.b.x-s.a.x)*(s.b.y-s.a.y)) (a:=k) (b:=k+k+1+(k+k+1)+(k+k+1)) ⟨hs.a.y,((hx.sub hs.a.x).div (by omega) (hs.b.x.sub hs.a.x)).mul (hs.b.y.sub hs.a.y),by omega,by omega,by omega⟩;have e:BE s x=s.a.y+(x-s.a.x)/(s.b.x-s.a.x)*(s.b.y-s.a.y):=rfl;rw [←e]at ad;obtain⟨r,hr⟩:=ArV (BE s x);rw [←hr]at ad ⊢;unfold AA;unfold YD at dv;clear hs hx e hr;go_enter Tryz.func288,Tryz.ntmps288
 go_upto_region 1 with fail
 have hb:=ArY w (.cells #[S (R s.a.x),S (R s.a.y),S (R s.b.x),S (R s.b.y)] 155);have hE:=(Aa.refl w).alloc (.cells #[S (R s.a.x),S (R s.a.y),S (R s.b.x),S (R s.b.y)] 155);obtain⟨W,hW⟩:=ArV (w.alloc (.cells #[S (R s.a.x),S (R s.a.y),S (R s.b.x),S (R s.b.y)] 155));rw [←hW]at hb hE ⊢;clear hW;obtain⟨ba,Aw⟩:=ArV w.heap.size;rw [←Aw]at hb ⊢;clear Aw
 have SO:∀w',Aa W w'→(w'.cell? ⟨ba,0,none⟩=some (S (R s.a.x))/\w'.cell? ⟨ba,1,none⟩=some (S (R s.a.y))/\w'.cell? ⟨ba,2,none⟩=some (S (R s.b.x))/\w'.cell? ⟨ba,3,none⟩=some (S (R s.b.y))):=fun w' h=>⟨h.cellS (Ab hb rfl),h.cellS (Ab hb rfl),h.cellS (Ab hb rfl),h.cellS (Ab hb rfl)⟩
 have Cu:=hw.ext hE;have X:Aa W W:=Aa.refl W;clear hb
 go_region_held3 (fun w'=>w'.cell? ⟨ba,0,none⟩=some (S (R s.a.x))/\w'.cell? ⟨ba,1,none⟩=some (S (R s.a.y))/\w'.cell? ⟨ba,2,none⟩=some (S (R s.b.x))/\w'.cell? ⟨ba,3,none⟩=some (S (R s.b.y)))
  (first|with_reducible exact SO _ X|with_reducible exact SO _ X.drew)
  (first|((with_reducible refine(s1 _ (Cu.ext (by first|exact X|exact X.drew))).mono ?_);rintro e w1 ⟨rfl,hx1⟩;replace X:Aa W w1:=(by first|exact X.trans hx1|exact X.drew.trans hx1))|((with_reducible refine(s2 _ (Cu.ext (by first|exact X|exact X.drew))).mono ?_);rintro e w1 ⟨rfl,hx1⟩;replace X:Aa W w1:=(by first|exact X.trans hx1|exact X.drew.trans hx1))|((with_reducible refine(dv _ (Cu.ext (by first|exact X|exact X.drew))).mono ?_);rintro e w1 ⟨rfl,hx1⟩;replace X:Aa W w1:=(by first|exact X.trans hx1|exact X.drew.trans hx1)))
 go_upto_region 2 with fail
 go_region_held3 (fun w'=>w'.cell? ⟨ba,0,none⟩=some (S (R s.a.x))/\w'.cell? ⟨ba,1,none⟩=some (S (R s.a.y))/\w'.cell? ⟨ba,2,none⟩=some (S (R s.b.x))/\w'.cell? ⟨ba,3,none⟩=some (S (R s.b.y)))
  (first|with_reducible exact SO _ X|with_reducible exact SO _ X.drew)
  (first|((with_reducible refine(s3 _ (Cu.ext (by first|exact X|exact X.drew))).mono ?_);rintro e w1 ⟨rfl,hx1⟩;replace X:Aa W w1:=(by first|exact X.trans hx1|exact X.drew.trans hx1))|((with_reducible refine(mu _ (Cu.ext (by first|exact X|exact X.drew))).mono ?_);rintro e w1 ⟨rfl,hx1⟩;replace X:Aa W w1:=(by first|exact X.trans hx1|exact X.drew.trans hx1))|((with_reducible refine(ad _ (Cu.ext (by first|exact X|exact X.drew))).mono ?_);rintro e w1 ⟨rfl,hx1⟩;replace X:Aa W w1:=(by first|exact X.trans hx1|exact X.drew.trans hx1)))
 go_wp2;go_ret;exact⟨rfl,hE.trans X⟩
theorem AnB(l:List Sg):(Ck l).length=l.length*4:=by
 induction l with
 | nil=>rfl
 | cons e l ih=>unfold Ck at *;simp only [List.flatMap_cons,List.length_append,ih,List.length_cons,List.length_nil];omega
theorem Aa6:∀(l:List Sg) (j:Nat) (h:j<l.length),(Ck l)[j*4]?=some (S (R l[j].a.x))/\(Ck l)[j*4+1]?=some (S (R l[j].a.y))/\(Ck l)[j*4+2]?=some (S (R l[j].b.x))/\(Ck l)[j*4+3]?=some (S (R l[j].b.y))
 | e::l,0,_=>⟨rfl,rfl,rfl,rfl⟩
 | e::l,j+1,h=>by
  have ih:=Aa6 l j (by simpa using h);have e0:Ck (e::l)=S (R e.a.x)::S (R e.a.y)::S (R e.b.x)::S (R e.b.y)::Ck l:=rfl;rw [e0];have e1:(j+1)*4=j*4+1+1+1+1:=(by omega);rw [e1]
  simpa using ih
theorem NV{w:World}{A:Option Addr}{l:List Sg}(hr:Ae w A (Ck l)){j:Nat}(h:j<l.length):∃b o,A=some ⟨b,o,none⟩/\w.cell? ⟨b,o+j*4,none⟩=some (S (R l[j].a.x))/\w.cell? ⟨b,o+j*4+1,none⟩=some (S (R l[j].a.y))/\w.cell? ⟨b,o+j*4+2,none⟩=some (S (R l[j].b.x))/\w.cell? ⟨b,o+j*4+3,none⟩=some (S (R l[j].b.y)):=by
 have hl:=AnB l;obtain⟨b,o,e,hcs⟩:=hr.ad (by omega);obtain⟨f1,f2,f3,f4⟩:=Aa6 l j h;have g1:=hcs (j*4) (by omega);have g2:=hcs (j*4+1) (by omega);have g3:=hcs (j*4+2) (by omega);have g4:=hcs (j*4+3) (by omega);rw [Asf (by omega),Ase]at f1 f2 f3 f4;rw [f1]at g1;rw [f2,←Nat.add_assoc]at g2;rw [f3,←Nat.add_assoc]at g3;rw [f4,←Nat.add_assoc]at g4;exact⟨b,o,e,g1,g2,g3,g4⟩
def FP(p:Pt)(l:List Sg):Rat:=l.foldl (fun s e=>s+Ai p e.a e.b) 0
def MI:List Sg→Rat
 | []=>0
 | e::l=>FP e.a (e::l)
theorem AdM(p:Pt)(l:List Sg)(e:Sg):FP p (l ++ [e])=FP p l+Ai p e.a e.b:=by simp [FP]
theorem sX(p:Pt)(l:List Sg){j:Nat}(h:j<l.length):FP p (l.take (j+1))=FP p (l.take j)+Ai p l[j].a l[j].b:=by
 rw [Asd h,AdM]
theorem AdN(l:List Sg)(h:0<l.length):MI l=FP l[0].a l:=by
 cases l with
 | nil=>simp at h
 | cons e l=>rfl
theorem AdO(l:List Sg)(A:Option Addr)(c:Nat){k K:Nat}(hl:∀e∈l,Gk k e)(hk:0<k)(hk2:k<=1)(hK:0<K)(hK2:K<=9)(h0:0<l.length)
  (hS:∀j,j<=l.length→Sz K (FP l[0].a (l.take j))) (hA:∀j (h:j<l.length),Sz (K) (Ai l[0].a l[j].a l[j].b)) (hc:l.length<=c) (hcm:c<=9223372036854775807) (hK3:0<K) (w:World) (hw:Al w) (hr:Ae w A (Ck l)) :
  Calls Tryz.prog 234 #[.slice A l.length c] w (BK (R (MI l)) w):=by
 obtain⟨b,o,rfl,q1,q2,-,-⟩:=NV hr h0;rw [AdN l h0];obtain⟨r,hr0⟩:=ArV (FP l[0].a l);rw [←hr0];obtain⟨p,hp⟩:=ArV (l[0].a);have N5:Aq k p:=(by rw [hp];exact(hl _ (Asa h0)).a);rw [←hp]at hr0 hS hA q1 q2;have HR:=ArW hr0;clear hr0 hp;rw [Nat.zero_mul,Nat.add_zero]at q1 q2;go_enter Tryz.func234,Tryz.ntmps234
 go_upto_region 3 with fail
 go_loopw [3,8] (fun s i wr=>∃j:Nat,i=.int .i64 (j:Nat)/\s=S (R (FP p (l.take j)))/\j<=l.length/\Aa w wr) (fun _ i _=>l.length-(intOf i).toNat)
 case atStart=>exact⟨0,rfl,by rw [List.take_zero];show _=S (R 0);rw [Ka],by omega,Aa.refl _⟩
 case round=>
  obtain⟨j,rfl,rfl,hj,Ad⟩:=hrel;by_cases hlt:j<l.length
  ·obtain⟨b',o',Gr,g1,g2,g3,g4⟩:=NV (hr.ext Ad) hlt;simp only [Ase,Addr.mk.injEq,and_true]at Gr;obtain⟨rfl,rfl⟩:=Gr;have p1:=Ad.cellS q1;have p2:=Ad.cellS q2;have ez:=hl _ (Asa hlt);have ar:=yo p l[j].a l[j].b N5 ez.a ez.b hk hk2;have ad:=YB (FP p (l.take j)) (Ai p l[j].a l[j].b) (a:=K) (b:=K) ⟨hS j hj,hA j hlt,hK,by omega,by omega⟩;rw [←sX p l hlt]at ad;obtain⟨e,he⟩:=ArV (l[j]);rw [←he]at g1 g2 g3 g4 ar ad;have hj0:(0:Int)<=(j:Int):=(by omega);have hl0:(0:Int)<(l.length:Int):=(by omega);have A7:(j:Int)<(l.length:Int):=(by omega);clear ez he;obtain⟨s,hs⟩:=ArV (FP p (l.take j));obtain⟨s',hs'⟩:=ArV (FP p (l.take (j+1)));rw [←hs,←hs']at ad;rw [←hs];have HS':=ArW hs';clear hs hs' hS hA hl q1 q2;unfold Af at ar
   go_upto_region 5 with fail
   have hb:=ArY wr (.cells #[S (R e.a.x),S (R e.a.y),S (R e.b.x),S (R e.b.y)] 155);have hE:=(Aa.refl wr).alloc (.cells #[S (R e.a.x),S (R e.a.y),S (R e.b.x),S (R e.b.y)] 155);unfold S at hb hE;generalize (wr.alloc (.cells #[.string ⟨(R e.a.x).toArray⟩,.string ⟨(R e.a.y).toArray⟩,.string ⟨(R e.b.x).toArray⟩,.string ⟨(R e.b.y).toArray⟩] 155))=W at *;obtain⟨be,Dy⟩:=ArV wr.heap.size;rw [←Dy]at hb ⊢;clear Dy
   have SO:∀w',Aa W w'→(w'.cell? ⟨b,o,none⟩=some (S (R p.x))/\w'.cell? ⟨b,o+1,none⟩=some (S (R p.y))/\w'.cell? ⟨be,0,none⟩=some (S (R e.a.x))/\w'.cell? ⟨be,1,none⟩=some (S (R e.a.y))/\w'.cell? ⟨be,2,none⟩=some (S (R e.b.x))/\w'.cell? ⟨be,3,none⟩=some (S (R e.b.y))):=fun w' h=>⟨h.cellS (hE.cellS p1),h.cellS (hE.cellS p2),h.cellS (Ab hb rfl),h.cellS (Ab hb rfl),h.cellS (Ab hb rfl),h.cellS (Ab hb rfl)⟩
   have Cu:=(hw.ext Ad).ext hE;have hx0:=Ad.trans hE;have X:Aa W W:=Aa.refl W;clear hb p1 p2 g1 g2 g3 g4
   go_region_held3 (fun w'=>w'.cell? ⟨b,o,none⟩=some (S (R p.x))/\w'.cell? ⟨b,o+1,none⟩=some (S (R p.y))/\w'.cell? ⟨be,0,none⟩=some (S (R e.a.x))/\w'.cell? ⟨be,1,none⟩=some (S (R e.a.y))/\w'.cell? ⟨be,2,none⟩=some (S (R e.b.x))/\w'.cell? ⟨be,3,none⟩=some (S (R e.b.y)))
    (first|with_reducible exact SO _ X|with_reducible exact SO _ X.drew)
    (first|((with_reducible refine(ar _ (Cu.ext (by first|exact X|exact X.drew))).mono ?_);rintro e w1 ⟨rfl,hx1⟩;replace X:Aa W w1:=(by first|exact X.trans hx1|exact X.drew.trans hx1))|((with_reducible refine(ad _ (Cu.ext (by first|exact X|exact X.drew))).mono ?_);rintro e w1 ⟨rfl,hx1⟩;replace X:Aa W w1:=(by first|exact X.trans hx1|exact X.drew.trans hx1)))
   go_wp2;go_roundw
   case rel=>exact⟨j+1,by go_num,by rw [HS'.out],hlt,hx0.trans X⟩
   case measure=>simp [intOf];omega
  ·have hjn:j=l.length:=(by omega);have e:FP p (l.take j)=r:=(by rw [HR.out,hjn,List.take_length]);rw [e];have hle:(l.length:Int)<=(j:Int):=(by omega);go_wp2;go_ret;exact⟨rfl,Ad⟩
theorem DW.look{E:List (Pt×Value×Nat)}{R0:List (Pt×List Pt)}{B:Nat}{W:World}{b2:Nat}(h:DW B W b2 E R0)(p:Pt){e:Pt×List Pt}(hf:R0.find? (fun e=>An p e.1)=some e) :
  ∃A c,F5 An (.slice none 0 0) p E=.slice A e.2.length c/\Ae W A (flat (Ak e.2))/\e.2.length<=c/\c<=9223372036854775807:=by
 have Dz:=cX h.len (fun i h1 h2=>(h.row i h1 h2).1) p;obtain⟨h3,j,hj',h4,h5⟩:=List.find?_eq_some_iff_getElem.1 hf
 have hfj:R0.findIdx? (fun e=>An p e.1)=some j:=by rw [List.findIdx?_eq_some_iff_getElem];exact⟨hj',by rw [h4];exact h3,fun i hi=>by have:=h5 i hi;simpa using this⟩
 rw [hfj,List.findIdx?_eq_some_iff_getElem]at Dz;obtain⟨hj,h1,h2⟩:=Dz
 have e1:E.find? (fun e=>An p e.1)=some E[j]:=by rw [List.find?_eq_some_iff_getElem];exact⟨h1,j,hj,rfl,fun i hi=>by have:=h2 i hi;simpa using this⟩
 have ho:=(h.row j hj hj').2.2;rw [h4]at ho;obtain⟨A,c,hv,hr,g1,g2⟩:=Ae.of_own' (by omega) ho;refine⟨A,c,?_,hr,g1,g2⟩;unfold F5;rw [e1];exact hv
theorem Aln{j n:Nat}(h:j<n):∃m:Nat,m<n/\m=(j+n-1)%n/\Int.tmod ((j:Int)+n-1) n=(m:Int):=by
 refine⟨(j+n-1)%n,Nat.mod_lt _ (by omega),rfl,?_⟩;have e:(j:Int)+n-1=((j+n-1:Nat):Int):=(by omega);rw [e];exact(Int.ofNat_tmod _ _).symm
theorem Alm{B:Nat}{w:World}{r b1 b2:Nat}{L:List (Sg×Int)}{E:List (Pt×Value×Nat)}{R0:List (Pt×List Pt)}(h:B5 B w r b1 b2 L E R0)(s:Sg){e:Pt×List Pt}(hf:R0.find? (fun e=>An s.b e.1)=some e){j m:Nat}(hj:j<e.2.length)(hi:Fh e.2 s.a=(j:Int))(hm:m<e.2.length)(Ud:m=(j+e.2.length-1)%e.2.length)(hn:e.2.length<100000) :
  Calls Tryz.prog 232 #[.pointer (some ⟨r,0,none⟩),AA s] w (Cy (AA ⟨s.b,e.2[m]⟩) w):=by
 obtain⟨A,c,hv,Bh,hc1,hc2⟩:=h.ar.look s.b hf;obtain⟨m',hm',hme,htm⟩:=Aln hj;rw [←Ud]at hme;subst hme;clear hm' Ud;obtain⟨p,hp⟩:=ArV (e.2[m']);rw [←hp];have ix:=fun W (hE:Aa w W)=>q8 e.2 s.a A c W (Bh.ext hE) hc1 hc2;rw [hi]at ix;have hE:=((Aa.refl w).alloc (.cells #[S (R s.a.x),S (R s.a.y),S (R s.b.x),S (R s.b.y)] 155)).alloc (.cells #[S [],S [],S [],S []] 155);have hb1:=(Below.heap_alloc (w.alloc (.cells #[S (R s.a.x),S (R s.a.y),S (R s.b.x),S (R s.b.y)] 155)) (.cells #[S [],S [],S [],S []] 155) w.heap.size (by simp)).trans (ArY w (.cells #[S (R s.a.x),S (R s.a.y),S (R s.b.x),S (R s.b.y)] 155));have hb2:=ArY (w.alloc (.cells #[S (R s.a.x),S (R s.a.y),S (R s.b.x),S (R s.b.y)] 155)) (.cells #[S [],S [],S [],S []] 155);rw [Ash]at hb2;obtain⟨b',o',hA,g1,g2⟩:=Ca Bh hm;have hlt:=World.block_lt_of_cell? w _ g1;simp only at hlt;replace g1:=hE.cellS g1;replace g2:=hE.cellS g2;have hN:=h.ext hE;rw [←hp]at g1 g2;obtain⟨n,GV⟩:=ArV e.2.length;rw [←GV]at hj htm hv hn hc1 ix hm;clear hp hf GV Bh;unfold AA;go_enter Tryz.func232,Tryz.ntmps232
 go_upto_region 1 with fail
 rw [show (⟨#[]⟩:ByteArray)=⟨([]:Bs).toArray⟩from rfl];generalize (w.alloc (.cells #[S (R s.a.x),S (R s.a.y),S (R s.b.x),S (R s.b.y)] 155)).alloc (.cells #[S [],S [],S [],S []] 155)=V at *;obtain⟨bb,Bq⟩:=ArV w.heap.size;have hle:w.heap.size<=bb+1:=(by omega);rw [←Bq]at hb1 hb2 hlt ⊢;have jD:¬(b'=bb+1):=(by omega);have GT:¬(bb+1=b'):=(by omega);clear Bq;have q2:∀q:Ac V,q.w.cell? ⟨r,1,none⟩=some (.map (some b2)):=Ac.cell (Ab hN.cell rfl);have q3:∀q:Ac V,q.w.cell? ⟨bb,2,none⟩=some (S (R s.b.x)):=Ac.cell (Ab hb1 rfl);have q4:∀q:Ac V,q.w.cell? ⟨bb,3,none⟩=some (S (R s.b.y)):=Ac.cell (Ab hb1 rfl)
 have q5:∀q:Ac V,(Instr.lookup 132 (.map (some b2)) (Af s.b) false).run Tryz.prog q.w=.ok (.slice A n c) q.w:=fun q=>by rw [R9 Rh s.b E (W:=q.w) ((q.h.block b2 hN.ar.lt).trans hN.ar.blk),hv]
 unfold Af at q5 ix;refine Bp (by kernel_rfl) (by kernel_rfl) ?_
 repeat (go_big_quiet_step (fail))
 refine wpQuiet_nil ?_;rintro _ ⟨q,rfl⟩;obtain⟨W1,hx1⟩:=q;have k1:=hx1.cellS (Ab (o:=0) hb1 rfl);have k2:=hx1.cellS (Ab (o:=1) hb1 rfl);have kW:=ix W1 (hE.trans hx1);rw [hA]at kW hv;simp only;clear ix;(go_wp2_with fail);(with_reducible refine kW.mono ?_);rintro e w2 ⟨rfl,hx2⟩;replace hx2:=hx1.trans hx2;have Bg:=(hx2.block _ (ArX hb1)).trans hb1;have Bo:=(hx2.block _ (ArX hb2)).trans hb2;have f1:=hx2.cellS g1;have f2:=hx2.cellS g2;have e1:=Ab (o:=2) Bg rfl;have e2:=Ab (o:=3) Bg rfl;have y0:=AB (o:=0) Bo;have y1:=AB (o:=1) Bo;have y2:=AB (o:=2) Bo;have y3:=AB (o:=3) Bo;have z0:=Ab (o:=0) Bo rfl;have z1:=Ab (o:=1) Bo rfl;have z2:=Ab (o:=2) Bo rfl;have z3:=Ab (o:=3) Bo rfl;clear k1 k2 q2 q3 q4 q5 hN h g1 g2 kW;have Ef:(n:Int)≠0:=(by omega);have OW:¬n=0:=(by omega);have a1:IntKind.i64.wrap ((j:Int)+n)=(j:Int)+n:=Asg _ (by omega);have a2:IntKind.i64.wrap ((j:Int)+n-1)=(j:Int)+n-1:=Asg _ (by omega);have a3:IntKind.i64.wrap (m':Int)=(m':Int):=Asg _ (by omega);have a4:(0:Int)<=(m':Int):=(by omega);have a5:(m':Int)<(n:Int):=by omega
 go_upto_region 3 with fail
 go_region_held3 (fun w'=>w'.cell? ⟨bb,2,none⟩=some (S (R s.b.x))/\w'.cell? ⟨bb,3,none⟩=some (S (R s.b.y))/\w'.cell? ⟨b',o'+m'*2,none⟩=some (S (R p.x))/\w'.cell? ⟨b',o'+m'*2+1,none⟩=some (S (R p.y)))
  (first|go_keep|(simp [World.cell?_setCell,jD,GT];go_keep)) (fail)
 have hq:=PY (S (R s.b.x)) (S (R s.b.y)) (S (R p.x)) (S (R p.y)) Bo;have q0:=(Aa.refl _).drew.cellS (Ab (o:=0) hq rfl);have q1:=(Aa.refl _).drew.cellS (Ab (o:=1) hq rfl);have q2:=(Aa.refl _).drew.cellS (Ab (o:=2) hq rfl);have q3:=(Aa.refl _).drew.cellS (Ab (o:=3) hq rfl);clear hq;go_wp2;refine bodyPost_ret (v:=.agg #[S (R s.b.x),S (R s.b.y),S (R p.x),S (R p.y)]) (by simp [results,Tryz.results232,go_sem,q0,q1,q2,q3]) rfl ?_;have Em:=hE.trans hx2;exact⟨rfl,((((Em.setCell (p:=⟨bb+1,0,none⟩) hle _).setCell (p:=⟨bb+1,1,none⟩) hle _).setCell (p:=⟨bb+1,2,none⟩) hle _).setCell (p:=⟨bb+1,3,none⟩) hle _).drew⟩
section
open Go.ChangeMaps (setBlock)
section
variable {α : Type} (enc : α → Value)
structure CX(W:World)(r b:Nat)(E:List (α×Value×Nat))(seen:List Nat):Prop where
 it:W.heap[r]?=some (.mapIter (some b) E.length seen.toArray E.length)
 nd:seen.Nodup
 lt:∀i∈seen,i<E.length
theorem CX.range{W:World}{b:Nat}{E:List (α×Value×Nat)}{t k e:TypeId}(ht:Tryz.prog.underlying t=some (.map k e))(hb:W.heap[b]?=some (.map (AG enc E).toArray E.length)) :
  (Instr.range t (.map (some b))).run Tryz.prog W=.ok (.pointer (some ⟨W.heap.size,0,none⟩)) (W.alloc (.mapIter (some b) E.length #[] E.length))/\CX (W.alloc (.mapIter (some b) E.length #[] E.length)) W.heap.size b E []:=
 ⟨run_range_map W t k e b _ _ ht hb,ArY _ _,List.nodup_nil,by simp⟩
theorem CX.keep{W W':World}{r b:Nat}{E:List (α×Value×Nat)}{seen:List Nat}(h:CX W r b E seen)(hk:W'.heap[r]?=W.heap[r]?):CX W' r b E seen:=⟨hk.trans h.it,h.nd,h.lt⟩
theorem Age{E:List (α×Value×Nat)}(hst:∀i (h:i<E.length),E[i].2.2=i):(AG enc E).map (·.born)=List.range E.length:=by
 apply List.ext_getElem
 ·simp [AG]
 ·intro i h1 h2;simp [AG]at h1 ⊢;exact hst i h1
theorem CX.next{W:World}{r b:Nat}{E:List (α×Value×Nat)}{seen:List Nat}(h:CX W r b E seen)(hb:W.heap[b]?=some (.map (AG enc E).toArray E.length))(hst:∀i (h:i<E.length),E[i].2.2=i)(hne:r≠b)(ty:TypeId) :
  (seen.length=E.length/\(Instr.next (.pointer (some ⟨r,0,none⟩)) false ty).run Tryz.prog W=.ok (.tuple #[.bool false]) W)∨
  ∃i,∃hi:i<E.length,i∉seen/\∃W',CX W' r b E (seen ++ [i])/\W.grownBy W' (some r)/\W'.heap.size=W.heap.size/\
   (Instr.next (.pointer (some ⟨r,0,none⟩)) false ty).run Tryz.prog W=.ok (.tuple #[.bool true,enc E[i].1,E[i].2.1]) W'/\
   (∀V,V.heap[r]?=W'.heap[r]?→V.heap[b]?=W'.heap[b]?→(Instr.entry (.pointer (some ⟨r,0,none⟩))).run Tryz.prog V=.ok (.tuple #[enc E[i].1,E[i].2.1]) V):=by
 have Cm:=Age enc hst
 have hold:∀x∈(AG enc E).toArray.toList,x.born<E.length:=by
  intro x hx;have:x.born∈(AG enc E).map (·.born):=List.mem_map_of_mem hx;rw [Cm]at this
  simpa using this
 have Cr:((AG enc E).toArray.toList.map (·.born)).Nodup:=by show ((AG enc E).map (·.born)).Nodup;rw [Cm];exact List.nodup_range
 rcases run_next_at (P:=Tryz.prog) W ty r b E.length E.length seen.toArray (AG enc E).toArray E.length h.it hb hold (ArZ _)with⟨h0,hrun⟩|⟨x,hx,w1,hw1,hrun⟩
 ·left
  refine⟨?_,hrun⟩;have hall:=all_seen _ _ h0
  have Ajd:List.range E.length ⊆ seen:=by
   intro i hi;rw [←Cm]at hi;obtain⟨x,hx,rfl⟩:=List.mem_map.1 hi;have:=hall x hx
   simpa using this
  have h1:E.length<=seen.length:=by
   have:=(List.nodup_range (n:=E.length)).length_le_of_subset Ajd
   simpa using this
  have h2:seen.length<=E.length:=by
   have hs:seen ⊆ List.range E.length:=fun i hi=>(by simpa using h.lt i hi);have:=h.nd.length_le_of_subset hs
   simpa using this
  omega
 ·right
  obtain⟨qc,Uy⟩:=mem_left hx;obtain⟨i,hi,NB⟩:=List.getElem_of_mem qc;have hi':i<E.length:=(by simpa [AG]using hi);have QV:x=⟨enc E[i].1,E[i].2.1,E[i].2.2⟩:=(by rw [←NB];simp [AG]);have hb0:x.born=i:=(by rw [QV];exact hst i hi');have hkey:x.key=enc E[i].1:=(by rw [QV]);have hval:x.val=E[i].2.1:=(by rw [QV]);have Ep:i∉seen:=by rw [hb0]at Uy;simpa using Uy
  have hr1:w1.heap[r]?=W.heap[r]?:=by rcases hw1 with rfl|rfl<;>rfl
  have hb1:w1.heap[b]?=W.heap[b]?:=by rcases hw1 with rfl|rfl<;>rfl
  have hG:W.grownBy (setBlock w1 r (.mapIter (some b) E.length (seen.toArray.push x.born) E.length)) (some r):=by
   rcases hw1 with rfl|rfl
   ·exact Ln h.it
   ·exact⟨rfl,rfl,rfl,by simp [setBlock],fun k _ hk=>UN (fun e=>hk (by rw [e]))⟩
  have hit:=Mm (o:=.mapIter (some b) E.length (seen.toArray.push x.born) E.length) (hr1.trans h.it);refine⟨i,hi',Ep,_,⟨?_,?_,?_⟩,hG,?_,?_,?_⟩
  ·rw [hit,hb0];simp
  ·rw [List.nodup_append];refine⟨h.nd,by simp,?_⟩;intro a ha c hc;simp only [Asn]at hc;subst hc;intro e;rw [e]at ha;exact Ep ha
  ·intro k hk
   rcases List.mem_append.1 hk with hk|hk
   ·exact h.lt k hk
   ·simp only [Asn]at hk;omega
  ·rcases hw1 with rfl|rfl<;>simp [setBlock]
  ·rw [hrun,hkey,hval]
  ·intro V hVr WG;rw [←hkey,←hval];exact run_entry_at V r b E.length seen.toArray (AG enc E).toArray E.length x (hVr.trans hit) (WG.trans ((UN (Ne.symm hne)).trans (hb1.trans hb))) qc Cr
end
end
theorem MD.mul_eq{q:Rat}(h:MD q):∃a:Int,a.natAbs<=9/\(a:Rat)=2*q:=by
 obtain⟨a,h1,rfl⟩:=h;exact⟨a,h1,by grind⟩
theorem AoE{q:Rat}{n d:Int}(hd:d≠0)(h:q*(d:Rat)=(n:Rat))(hn:n.natAbs<1000)(GN:d.natAbs<1000):Sz 3 q:=by
 have hd0:(d:Rat)≠0:=(by intro e;exact hd (Rat.intCast_inj.1 (by rw [e];rfl)));have e:q=(n:Rat)/(d:Rat):=(by rw [←h];exact(Rat.mul_div_cancel hd0).symm);by_cases hp:0<d
 ·have:q=mkRat n d.toNat:=by rw [e,Rat.mkRat_eq_div,show ((d.toNat:Nat):Rat)=((d.toNat:Int):Rat)from rfl,Int.toNat_of_nonneg (by omega)]
  rw [this];exact Sz.mkRat (by omega) (by omega) (by omega)
 ·have:q=mkRat (-n) (-d).toNat:=by
   rw [e,Rat.mkRat_eq_div,show (((-d).toNat:Nat):Rat)=(((-d).toNat:Int):Rat)from rfl,Int.toNat_of_nonneg (by omega),Rat.intCast_neg,Rat.intCast_neg]
   grind
  rw [this];exact Sz.mkRat (by omega) (by omega) (by omega)
theorem Abn{s:Sg}{x:Rat}(hs:G8 s)(hx:MD x):Sz 3 (BE s x):=by
 obtain⟨ax,h1,e1⟩:=hs.a.x.mul_eq;obtain⟨ay,h2,e2⟩:=hs.a.y.mul_eq;obtain⟨bx,h3,e3⟩:=hs.b.x.mul_eq;obtain⟨b,h4,e4⟩:=hs.b.y.mul_eq;obtain⟨u,h5,e5⟩:=hx.mul_eq;by_cases h0:s.b.x=s.a.x
 ·have:BE s x=s.a.y:=(by unfold BE;rw [h0,Rat.sub_self,Rat.div_def,Rat.inv_zero,Rat.mul_zero,Rat.zero_mul,Rat.add_zero]);rw [this];exact(hs.a.y.sz (K:=3) (by omega))
 ·have hd:bx-ax≠0:=by intro e;have:bx=ax:=(by omega);rw [this]at e3;exact h0 (by grind)
  have Ef:s.b.x-s.a.x≠0:=(by grind);refine AoE (n:=ay*(bx-ax)+(u-ax)*(b-ay)) (d:=2*(bx-ax)) (by omega) ?_ ?_ (by omega)
  ·unfold BE;simp only [Rat.intCast_add,Rat.intCast_mul,Rat.intCast_sub,e1,e2,e3,e4,e5]
   have:(x-s.a.x)/(s.b.x-s.a.x)*(s.b.y-s.a.y)*(s.b.x-s.a.x)=(x-s.a.x)*(s.b.y-s.a.y):=by
    rw [Rat.div_def];have:=Rat.inv_mul_cancel _ Ef
    grind
   grind
  ·have g1:=Yn (x:=ay) (y:=bx-ax) (m:=9) (n:=18) (by omega) (by omega);have g2:=Yn (x:=u-ax) (y:=b-ay) (m:=18) (n:=18) (by omega) (by omega);omega
def Iy(p:Pt)(st:Option (Sg×Rat))(s:Sg):Option (Sg×Rat):=
 if 0<=AH s.a.x p.x then st else if AH s.b.x p.x<0 then st else if 0<=AH (BE s p.x) p.y then st else
 match st with
 | none=>some (s,BE s p.x)
 | some (b,h)=>
  if AH (BE s p.x) h=0 then (if 0<AI (Ai s.b s.a b.a)then some (s,BE s p.x)else st)
  else if 0<AH (BE s p.x) h then some (s,BE s p.x)else st
def iN:Option (Sg×Rat)→Value
 | none=>S []
 | some (_,h)=>S (R h)
def aN:Option (Sg×Rat)→Array Value
 | none=>#[S [],S [],S [],S []]
 | some (s,_)=>#[S (R s.a.x),S (R s.a.y),S (R s.b.x),S (R s.b.y)]
def VM(st:Option (Sg×Rat)):Value:=.agg (aN st)
def D7(p:Pt)(l:List Sg):Option (Sg×Rat):=l.foldl (Iy p) none
theorem tD(p:Pt)(l:List Sg)(s:Sg):D7 p (l ++ [s])=Iy p (D7 p l) s:=by simp [D7]
theorem Fi{α:Type}{W:World}{r b:Nat}{E:List (α×Value×Nat)}{seen:List Nat}(h:CX W r b E seen):(W.iterSeen r).size=seen.length:=by
 unfold World.iterSeen;rw [h.it];simp
structure RP(w wr:World)(b1 bb r:Nat)(L:List (Sg×Int))(p:Pt)(seen:List Nat)(st:Option (Sg×Rat)):Prop where
 ext:Aa w wr
 box:wr.heap[bb]?=some (.cells #[S (R p.x),S (R p.y)] 94)
 best:wr.heap[bb+1]?=some (.cells (aN st) 155)
 iter:CX wr r b1 (stamp L) seen
def VK(p:Pt)(st:Option (Sg×Rat))(s:Sg):Option (Sg×Rat):=
 match st with
 | none=>some (s,BE s p.x)
 | some (b,h)=>if AH (BE s p.x) h=0 then (if 0 < AI (Ai s.b s.a b.a)then some (s,BE s p.x)else some (b,h))else if 0 < AH (BE s p.x) h then some (s,BE s p.x)else some (b,h)
theorem Aef(p:Pt)(st:Option (Sg×Rat))(s:Sg):Iy p st s=if 0<=AH s.a.x p.x then st else if AH s.b.x p.x<0 then st else if 0<=AH (BE s p.x) p.y then st else VK p st s:=by
 cases st<;>rfl
theorem aO(st:Option (Sg×Rat)):∃c0 c1 c2 c3:Bs,aN st=#[S c0,S c1,S c2,S c3]:=by
 cases st with
 | none=>exact⟨_,_,_,_,rfl⟩
 | some x=>exact⟨_,_,_,_,rfl⟩
theorem oG(L:List (Sg×Int)):∀i (h:i<(stamp L).length),(stamp L)[i].2.2=i:=by
 intro i h;simp [stamp]
theorem YU(L:List (Sg×Int)){i:Nat}(h:i<(stamp L).length):(stamp L)[i].1=(L[i]'(by rw [DL]at h;exact h)).1:=by simp [stamp]
theorem oI(L:List (Sg×Int)){i:Nat}(h:i<(stamp L).length):(stamp L)[i].2.1=.int .i64 (L[i]'(by rw [DL]at h;exact h)).2:=by simp [stamp]
theorem Aam{β:Type}(L:List β):(List.range L.length).filterMap (fun i=>L[i]?)=L:=by
 have h:∀n,n<=L.length→(List.range n).filterMap (fun i=>L[i]?)=L.take n:=by
  intro n
  induction n with
  | zero=>intro _;simp
  | succ n ih=>intro hn;rw [List.range_succ,List.filterMap_append,ih (by omega),Asd (by omega)];simp [Asf (show n<L.length by omega)]
 rw [h _ (ArZ _),List.take_length]
theorem Aa8(L:List (Sg×Int)){seen:List Nat}(Cr:seen.Nodup)(hlt:∀i∈seen,i<(stamp L).length)(hlen:seen.length=(stamp L).length):(seen.filterMap (fun i=>L[i]?.map (·.1))).Perm (L.map (·.1)):=by
 rw [DL]at hlt hlen
 have hmem:∀i,i<L.length→i∈seen:=by
  intro i hi;refine Classical.byContradiction fun hn=>?_;have h1:(i::seen).Nodup:=List.nodup_cons.2 ⟨hn,Cr⟩
  have h2:(i::seen) ⊆ List.range L.length:=by
   intro j hj
   rcases List.mem_cons.1 hj with rfl|hj
   ·simpa using hi
   ·simpa using hlt j hj
  have:=h1.length_le_of_subset h2;simp at this;omega
 have hp:seen.Perm (List.range L.length):=by
  rw [List.perm_iff_count];intro i;rw [Cr.count,(List.nodup_range).count];by_cases hi:i<L.length
  ·rw [if_pos (hmem i hi),if_pos (by simpa using hi)]
  ·rw [if_neg (fun h=>hi (hlt i h)),if_neg (by simpa using hi)]
 refine(hp.filterMap _).trans ?_
 have e:(List.range L.length).filterMap (fun i=>L[i]?.map (·.1))=L.map (·.1):=by
  have e1:(List.range L.length).filterMap (fun i=>L[i]?.map (·.1))=((List.range L.length).filterMap (fun i=>L[i]?)).map (·.1):=(by rw [List.map_filterMap]);rw [e1]
  congr 1
  exact Aam L
 rw [e]
theorem RP.put{w w':World}{b1 bb:Nat}{L:List (Sg×Int)}{p:Pt}{seen:List Nat}{st:Option (Sg×Rat)}(hB:RP w w' b1 bb (bb+2) L p seen st)(hle:w.heap.size<=bb)(s:Sg)(y:Rat) :
  RP w ((((w'.setCell ⟨bb+1,0,none⟩ (S (R s.a.x))).setCell ⟨bb+1,1,none⟩ (S (R s.a.y))).setCell ⟨bb+1,2,none⟩ (S (R s.b.x))).setCell ⟨bb+1,3,none⟩ (S (R s.b.y))) b1 bb (bb+2) L p seen (some (s,y)):=by
 obtain⟨c0,c1,c2,c3,hc⟩:=aO st;have hb:=hB.best;rw [hc]at hb
 have far:∀(X:World) (o:Nat) (v:Value) (q:Nat),q≠bb+1→(X.setCell ⟨bb+1,o,none⟩ v).heap[q]?=X.heap[q]?:=by intro X o v q hq;simp only [World.setCell,Array.getElem?_modify];rw [if_neg (by omega)]
 refine⟨(((hB.ext.setCell (p:=⟨bb+1,0,none⟩) (by simp;omega) _).setCell (p:=⟨bb+1,1,none⟩) (by simp;omega) _).setCell (p:=⟨bb+1,2,none⟩) (by simp;omega) _).setCell (p:=⟨bb+1,3,none⟩) (by simp;omega) _,?_,PY _ _ _ _ hb,hB.iter.keep ?_⟩
 ·rw [far _ _ _ _ (by omega),far _ _ _ _ (by omega),far _ _ _ _ (by omega),far _ _ _ _ (by omega)];exact hB.box
 ·rw [far _ _ _ _ (by omega),far _ _ _ _ (by omega),far _ _ _ _ (by omega),far _ _ _ _ (by omega)]
theorem Aeg{B:Nat}{w:World}{rn b1 b2:Nat}{L:List (Sg×Int)}{E:List (Pt×Value×Nat)}{R0:List (Pt×List Pt)}(h:B5 B w rn b1 b2 L E R0)(p:Pt)(hL:∀e∈L,G8 e.1)(Eg:DX p)(hw:Al w) :
  Calls Tryz.prog 235 #[.pointer (some ⟨rn,0,none⟩),Af p] w fun e w'=>∃l:List Sg,l.Perm (L.map (·.1))/\e=.returned (.tuple #[VM (D7 p l),.bool (D7 p l).isSome])/\Aa w w':=by
 have hE:=((Aa.refl w).alloc (.cells #[S (R p.x),S (R p.y)] 94)).alloc (.cells #[S [],S [],S [],S []] 155);have hb1:=(Below.heap_alloc (w.alloc (.cells #[S (R p.x),S (R p.y)] 94)) (.cells #[S [],S [],S [],S []] 155) w.heap.size (by simp)).trans (ArY w (.cells #[S (R p.x),S (R p.y)] 94));have hb2:=ArY (w.alloc (.cells #[S (R p.x),S (R p.y)] 94)) (.cells #[S [],S [],S [],S []] 155);rw [Ash]at hb2;have hN:=h.ext hE;have hp:Aq 1 p:=Eg.sz (by omega);obtain⟨k,BX⟩:=ArV (1);rw [←BX]at hp;have hk:0<k:=(by omega);have CP:k<=1:=(by omega);have HK:=ArW BX;clear BX;unfold Af;go_enter Tryz.func235,Tryz.ntmps235
 go_upto_region 2 with fail
 rw [show (⟨#[]⟩:ByteArray)=⟨([]:Bs).toArray⟩from rfl];have hsz:((w.alloc (.cells #[S (R p.x),S (R p.y)] 94)).alloc (.cells #[S [],S [],S [],S []] 155)).heap.size=w.heap.size+2:=(by simp);generalize (w.alloc (.cells #[S (R p.x),S (R p.y)] 94)).alloc (.cells #[S [],S [],S [],S []] 155)=V at *;obtain⟨bb,Bq⟩:=ArV w.heap.size;have hle:w.heap.size<=bb:=(by omega);have OT:bb<=w.heap.size:=(by omega);rw [←Bq]at hb1 hb2 hsz ⊢;clear Bq;have n1:=Ab (o:=0) hN.cell rfl;have hrg:=CX.range (enc:=AA) (E:=stamp L) (t:=131) Tryz.underlying131 (W:=V) (b:=b1) (by rw [DL];exact hN.left);obtain⟨hr1,hr2⟩:=hrg;rw [hsz]at hr1 hr2;have hEI:=hE.alloc (.mapIter (some b1) (stamp L).length #[] (stamp L).length);have Ah9:=(Below.heap_alloc V (.mapIter (some b1) (stamp L).length #[] (stamp L).length) bb (by omega)).trans hb1;have fN:=(Below.heap_alloc V (.mapIter (some b1) (stamp L).length #[] (stamp L).length) (bb+1) (by omega)).trans hb2;clear hb1 hb2
 go_upto_region 3 with fail
 generalize V.alloc (.mapIter (some b1) (stamp L).length #[] (stamp L).length)=V2 at *
 go_loopw [5,6] (fun f hi wr=>∃(seen:List Nat) (st:Option (Sg×Rat)),f=.bool st.isSome/\hi=iN st/\RP w wr b1 bb (bb+2) L p seen st/\st=D7 p (seen.filterMap (fun i=>L[i]?.map (·.1)))/\(∀x,st=some x→G8 x.1/\x.2=BE x.1 p.x)) (fun _ _ wr=>L.length-(wr.iterSeen (bb+2)).size)
 case atStart=>exact⟨[],none,rfl,rfl,⟨hEI,Ah9,fN,hr2⟩,rfl,by simp⟩
 case round=>
  obtain⟨seen,st,rfl,rfl,hB,hst,If⟩:=hrel;have hb0:=(hB.ext.block b1 (ArX h.left)).trans h.left;rw [←DL]at hb0;have J1:=ArX h.left;obtain⟨c0,c1,c2,c3,hc⟩:=aO st;have I9:=hB.best;rw [hc]at I9
  rcases CX.next AA hB.iter hb0 (oG L) (by omega) 0 with⟨hlen,hrun⟩|⟨i,hi,Ep,W1,Gp,hG1,hs1,hrun,hen⟩
  ·have y0:=AB (o:=0) I9;have y1:=AB (o:=1) I9;have y2:=AB (o:=2) I9;have y3:=AB (o:=3) I9;have z0:=Ab (o:=0) I9 rfl;have z1:=Ab (o:=1) I9 rfl;have z2:=Ab (o:=2) I9 rfl;have z3:=Ab (o:=3) I9 rfl;have hq:=PY (S c0) (S c1) (S c2) (S c3) I9;have q0:=Ab (o:=0) hq rfl;have q1:=Ab (o:=1) hq rfl;have q2:=Ab (o:=2) hq rfl;have q3:=Ab (o:=3) hq rfl;have hP:=Aa8 L hB.iter.nd hB.iter.lt hlen;have hX:=hB.ext;rw [hst]at hc;have hV:VM (D7 p (seen.filterMap (fun i=>L[i]?.map (·.1))))=.agg #[S c0,S c1,S c2,S c3]:=(by unfold VM;rw [hc]);obtain⟨fb,hfb⟩:=ArV st.isSome;have hZ:=hfb;rw [hst]at hZ;rw [←hfb];clear hq I9 hB hc hfb If hst;go_wp2;refine bodyPost_ret (v:=.tuple #[.agg #[S c0,S c1,S c2,S c3],.bool fb]) (by simp [results,Tryz.results235,go_sem,q0,q1,q2,q3,hZ])  rfl ?_;exact⟨_,hP,by rw [hV,hZ],(((hX.setCell (p:=⟨bb+1,0,none⟩) (by simp;omega) _).setCell (p:=⟨bb+1,1,none⟩) (by simp;omega) _).setCell (p:=⟨bb+1,2,none⟩) (by simp;omega) _).setCell (p:=⟨bb+1,3,none⟩) (by simp;omega) _⟩
  ·have LC:i<L.length:=(by rw [DL]at hi;exact hi);rw [YU,oI]at hrun hen;have Er:G8 (L[i]).1:=hL _ (Asa LC)
   have hstep:D7 p ((seen ++ [i]).filterMap (fun i=>L[i]?.map (·.1)))=Iy p st (L[i]).1:=by rw [List.filterMap_append,hst];simp only [List.filterMap_cons,List.filterMap_nil,Asf LC,Option.map_some];rw [tD]
   have hlen':seen.length<L.length:=by
    have h2:(i::seen) ⊆ List.range L.length:=by
     intro j hj
     rcases List.mem_cons.1 hj with rfl|hj
     ·simpa using LC
     ·have:=hB.iter.lt j hj;rw [DL]at this;simpa using this
    have:=(List.nodup_cons.2 ⟨Ep,hB.iter.nd⟩).length_le_of_subset h2;simp at this;omega
   have CB:=Fi hB.iter;have X1:Aa w W1:=MQ hB.ext hG1 (by omega);have tI:=(hG1.block bb (ArX hB.box) (by simp)).trans hB.box;have tG:=(hG1.block (bb+1) (ArX hB.best) (by simp)).trans hB.best;have GP:=hen W1 rfl rfl;obtain⟨s,hs⟩:=ArV ((L[i]).1);obtain⟨z,hz⟩:=ArV ((L[i]).2);rw [←hs,←hz]at GP hrun;rw [←hs]at Er hstep;have hsk:Gk k s:=Er.sz hk;have Fa:=ArY W1 (.cells #[S (R s.a.x),S (R s.a.y),S (R s.b.x),S (R s.b.y)] 155);have E3:=(Aa.refl W1).alloc (.cells #[S (R s.a.x),S (R s.a.y),S (R s.b.x),S (R s.b.y)] 155)
   have KEEP:∀w',Aa (W1.alloc (.cells #[S (R s.a.x),S (R s.a.y),S (R s.b.x),S (R s.b.y)] 155)) w'→RP w w' b1 bb (bb+2) L p (seen ++ [i]) st:=fun w' hx=>
    have hy:=E3.trans hx
    ⟨X1.trans hy,(hy.block _ (ArX tI)).trans tI,(hy.block _ (ArX tG)).trans tG,Gp.keep (hy.block _ (ArX Gp.it))⟩
   clear hen hs hz I9 hb0 hG1 hr1 hr2 hB hN;unfold AA at GP hrun
   go_upto_region 5 with fail
   unfold S at Fa E3 KEEP;rw [hs1]at Fa;generalize (W1.alloc (.cells #[.string ⟨(R s.a.x).toArray⟩,.string ⟨(R s.a.y).toArray⟩,.string ⟨(R s.b.x).toArray⟩,.string ⟨(R s.b.y).toArray⟩] 155))=V3 at *;obtain⟨bs,Fc⟩:=ArV wr.heap.size;rw [←Fc]at Fa ⊢;clear hrun GP Fc hs1 hst;have okV:=hw.ext (X1.trans E3);have B0:=(KEEP V3 (Aa.refl _)).box
   have F:∀w',Aa V3 w'→(w'.cell? ⟨bb,0,none⟩=some (S (R p.x))/\w'.cell? ⟨bb,1,none⟩=some (S (R p.y))/\w'.cell? ⟨bs,0,none⟩=some (S (R s.a.x))/\w'.cell? ⟨bs,1,none⟩=some (S (R s.a.y))/\w'.cell? ⟨bs,2,none⟩=some (S (R s.b.x))/\w'.cell? ⟨bs,3,none⟩=some (S (R s.b.y))):=fun w' h=>⟨h.cellS (Ab B0 rfl),h.cellS (Ab B0 rfl),h.cellS (Ab Fa rfl),h.cellS (Ab Fa rfl),h.cellS (Ab Fa rfl),h.cellS (Ab Fa rfl)⟩
   clear B0 Fa;have cA:=FB s.a.x p.x (a:=k) (b:=k) ⟨hsk.a.x,hp.x,hk,hk,by omega⟩;have cB:=FB s.b.x p.x (a:=k) (b:=k) ⟨hsk.b.x,hp.x,hk,hk,by omega⟩
   have C4:Iy p st s=if 0<=AH s.a.x p.x then st else if AH s.b.x p.x<0 then st else if 0<=AH (BE s p.x) p.y then st else VK p st s:=Aef p st s
   obtain⟨xa,Fg⟩:=ArV (AH s.a.x p.x);obtain⟨xb,hxb⟩:=ArV (AH s.b.x p.x);rw [←Fg]at cA C4;rw [←hxb]at cB C4;obtain⟨f1,f2,f3,f4,f5,f6⟩:=F V3 (Aa.refl _);(go_wp2_with fail);(with_reducible refine(cA _ okV).mono ?_);rintro e w1 ⟨rfl,hx1⟩;clear f1 f2 f3 f4 f5 f6 cA;obtain⟨f1,f2,f3,f4,f5,f6⟩:=F w1 hx1;by_cases a1:0<=xa
   ·have d1:decide (0<=xa)=true:=decide_eq_true a1;have hb1:Iy p st s=st:=(by rw [C4,if_pos a1]);clear C4 cB F;go_wp2;go_roundw
    case rel=>exact⟨seen ++ [i],st,rfl,rfl,KEEP _ hx1,by rw [hstep];exact(hb1).symm,If⟩
    case measure=>rw [CB,Fi (KEEP _ hx1).iter,List.length_append,List.length_singleton];omega
   have d1:decide (0<=xa)=false:=decide_eq_false a1;rw [if_neg a1]at C4;(go_wp2_with fail);(with_reducible refine(cB _ (okV.ext hx1)).mono ?_);rintro e w2 ⟨rfl,hx2⟩;replace hx2:=hx1.trans hx2;clear f1 f2 f3 f4 f5 f6 cB hx1;obtain⟨f1,f2,f3,f4,f5,f6⟩:=F w2 hx2;by_cases a2:xb<0
   ·have d2:decide (xb<0)=true:=decide_eq_true a2;have hb1:Iy p st s=st:=(by rw [C4,if_pos a2]);clear C4 F;go_wp2;go_roundw
    case rel=>exact⟨seen ++ [i],st,rfl,rfl,KEEP _ hx2,by rw [hstep];exact(hb1).symm,If⟩
    case measure=>rw [CB,Fi (KEEP _ hx2).iter,List.length_append,List.length_singleton];omega
   have d2:decide (xb<0)=false:=decide_eq_false a2;rw [if_neg a2]at C4
   have h0:s.b.x≠s.a.x:=by have q1:=VP s.a.x p.x;have q2:=VP s.b.x p.x;rw [←Fg]at q1;rw [←hxb]at q2;have q3:s.a.x<p.x:=q1.1 (by omega);have q4:¬s.b.x<p.x:=fun h=>a2 (q2.2 h);intro e;rw [e]at q4;exact q4 q3
   have ch:=AhX s p.x hsk hp.x hk (by omega) h0;unfold AA at ch;have kQ:=Abn Er Eg.x;obtain⟨y,hy⟩:=ArV (BE s p.x);rw [←hy]at ch kQ C4;have cC:=FB y p.y (a:=3) (b:=k) ⟨kQ,hp.y,by omega,hk,by omega⟩;obtain⟨xc,Ux⟩:=ArV (AH y p.y);rw [←Ux]at cC C4;have HY:=ArW hy;clear Fg hxb Ux h0 hy;(go_wp2_with fail);(with_reducible refine(ch _ (okV.ext hx2)).mono ?_);rintro e w3 ⟨rfl,hx3⟩;replace hx3:=hx2.trans hx3;clear f1 f2 f3 f4 f5 f6 ch hx2;obtain⟨f1,f2,f3,f4,f5,f6⟩:=F w3 hx3;(go_wp2_with fail);(with_reducible refine(cC _ (okV.ext hx3)).mono ?_);rintro e w4 ⟨rfl,Aj⟩;replace Aj:=hx3.trans Aj;clear f1 f2 f3 f4 f5 f6 cC hx3;obtain⟨f1,f2,f3,f4,f5,f6⟩:=F w4 Aj;by_cases a3:0<=xc
   ·have d3:decide (0<=xc)=true:=decide_eq_true a3;have hb1:Iy p st s=st:=(by rw [C4,if_pos a3]);clear C4 F;go_wp2;go_roundw
    case rel=>exact⟨seen ++ [i],st,rfl,rfl,KEEP _ Aj,by rw [hstep];exact hb1.symm,If⟩
    case measure=>rw [CB,Fi (KEEP _ Aj).iter,List.length_append,List.length_singleton];omega
   have d3:decide (0<=xc)=false:=decide_eq_false a3;rw [if_neg a3]at C4;have K4:=KEEP w4 Aj
   cases st with
   | none=>
    have LN:VK p none s=some (s,y):=(by rw [HY.out];rfl);rw [LN]at C4;have y0:=AB (o:=0) K4.best;have y1:=AB (o:=1) K4.best;have y2:=AB (o:=2) K4.best;have y3:=AB (o:=3) K4.best;have z0:=Ab (o:=0) K4.best rfl;have z1:=Ab (o:=1) K4.best rfl;have z2:=Ab (o:=2) K4.best rfl;have z3:=Ab (o:=3) K4.best rfl;have K5:=K4.put hle s y;unfold iN;clear K4 F KEEP LN;go_wp2;go_roundw
    case rel=>exact⟨seen ++ [i],some (s,y),rfl,rfl,K5,by rw [hstep];exact C4.symm,by rintro x hx;simp only [Ase]at hx;rw [←hx];exact⟨Er,HY.out⟩⟩
    case measure=>rw [CB,Fi K5.iter,List.length_append,List.length_singleton];omega
   | some bh=>
    obtain⟨b,hh⟩:=bh;obtain⟨Q6,iM⟩:=If _ rfl;simp only at Q6 iM;have iu:Sz (3) hh:=(by rw [iM];exact Abn Q6 Eg.x);have cD:=FB y hh (a:=3) (b:=3) ⟨kQ,iu,by omega,by omega,by omega⟩
    have LN:VK p (some (b,hh)) s=if AH y hh=0 then (if 0<AI (Ai s.b s.a b.a)then some (s,y)else some (b,hh))else if 0<AH y hh then some (s,y)else some (b,hh):=by rw [HY.out];rfl
    rw [LN]at C4;obtain⟨xd,pz⟩:=ArV (AH y hh);rw [←pz]at cD C4;clear pz LN iM iu hc;clear K4;unfold iN;(go_wp2_with fail);(with_reducible refine(cD _ (okV.ext Aj)).mono ?_);rintro e w5 ⟨rfl,Ax⟩;replace Ax:=Aj.trans Ax;clear f1 f2 f3 f4 f5 f6 cD Aj;obtain⟨f1,f2,f3,f4,f5,f6⟩:=F w5 Ax;have K5:=KEEP w5 Ax;by_cases a4:xd=0
    ·subst a4;rw [if_pos rfl]at C4;have cE:=Mg s.b s.a b.a hsk.b hsk.a (Q6.sz hk).a hk (by omega);unfold Af at cE;obtain⟨xe,QV⟩:=ArV (AI (Ai s.b s.a b.a));rw [←QV]at cE C4;clear QV;have z0:w5.cell? ⟨bb+1,0,none⟩=some (S (R b.a.x)):=Ab (o:=0) K5.best rfl;have z1:w5.cell? ⟨bb+1,1,none⟩=some (S (R b.a.y)):=Ab (o:=1) K5.best rfl;clear K5;(go_wp2_with fail);(with_reducible refine(cE _ (okV.ext Ax)).mono ?_);rintro e w6 ⟨rfl,BF⟩;replace BF:=Ax.trans BF;clear f1 f2 f3 f4 f5 f6 cE Ax z0 z1;obtain⟨f1,f2,f3,f4,f5,f6⟩:=F w6 BF;have K6:=KEEP w6 BF;by_cases a5:0<xe
     ·have d5:decide (0<xe)=true:=decide_eq_true a5;rw [if_pos a5]at C4;have y0:=AB (o:=0) K6.best;have y1:=AB (o:=1) K6.best;have y2:=AB (o:=2) K6.best;have y3:=AB (o:=3) K6.best;have z0:=Ab (o:=0) K6.best rfl;have z1:=Ab (o:=1) K6.best rfl;have z2:=Ab (o:=2) K6.best rfl;have z3:=Ab (o:=3) K6.best rfl;have K9:=K6.put hle s y;clear K6 F KEEP;go_wp2;go_roundw
      case rel=>exact⟨seen ++ [i],some (s,y),rfl,rfl,K9,by rw [hstep];exact C4.symm,by rintro x hx;simp only [Ase]at hx;rw [←hx];exact⟨Er,HY.out⟩⟩
      case measure=>rw [CB,Fi K9.iter,List.length_append,List.length_singleton];omega
     ·have d5:decide (0<xe)=false:=decide_eq_false a5;rw [if_neg a5]at C4;go_wp2;go_roundw
      case rel=>exact⟨seen ++ [i],some (b,hh),rfl,rfl,K6,by rw [hstep];exact C4.symm,If⟩
      case measure=>rw [CB,Fi K6.iter,List.length_append,List.length_singleton];omega
    ·have d4:decide (xd=0)=false:=decide_eq_false a4;have d4':(xd == 0)=false:=(by simpa using a4);rw [if_neg a4]at C4;by_cases a5:0<xd
     ·have d5:decide (0<xd)=true:=decide_eq_true a5;rw [if_pos a5]at C4;have y0:=AB (o:=0) K5.best;have y1:=AB (o:=1) K5.best;have y2:=AB (o:=2) K5.best;have y3:=AB (o:=3) K5.best;have z0:=Ab (o:=0) K5.best rfl;have z1:=Ab (o:=1) K5.best rfl;have z2:=Ab (o:=2) K5.best rfl;have z3:=Ab (o:=3) K5.best rfl;have K9:=K5.put hle s y;clear K5 F KEEP;go_wp2;go_roundw
      case rel=>exact⟨seen ++ [i],some (s,y),rfl,rfl,K9,by rw [hstep];exact C4.symm,by rintro x hx;simp only [Ase]at hx;rw [←hx];exact⟨Er,HY.out⟩⟩
      case measure=>rw [CB,Fi K9.iter,List.length_append,List.length_singleton];omega
     ·have d5:decide (0<xd)=false:=decide_eq_false a5;rw [if_neg a5]at C4;go_wp2;go_roundw
      case rel=>exact⟨seen ++ [i],some (b,hh),rfl,rfl,K5,by rw [hstep];exact C4.symm,If⟩
      case measure=>rw [CB,Fi K5.iter,List.length_append,List.length_singleton];omega
end Go.Proofs.YtbejphgbbpplbaaGreatDoor
