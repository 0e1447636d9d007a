/- X29: Lay M12 M13 M14 M15 M16 M18 M19 M20. -/
import Derived.Test.YtjalkoacphhgdaaGreatDoorX27
import Derived.Shelf.SlSortCmp.InsertionK
set_option maxRecDepth 100000
set_option maxHeartbeats 8000000
namespace Go.Proofs.YtjalkoacphhgdaaGreatDoor
open Go.RowKit Kl Go.Sort
theorem MB{w a b:World}{r:Nat}(h:Aa w a)(hg:a.grownBy b (some r))(hr:w.heap.size<=r):Aa w b:=
 ⟨hg.os.trans h.os,hg.tape.trans h.tape,hg.output.trans h.output,AqU h.size hg.size,fun k hk=>(hg.block k (AqT hk h.size) (by simp;omega)).trans (h.block k hk)⟩
section
variable {α : Type} [Inhabited α]
theorem Oa(enc:α→List Value)(k:Nat)(w:World)(blk off m:Nat)(dk:Array α)(os:Array Obj):w.grownBy (sortWorldK enc k w blk off m dk os) (some blk):=by
 refine⟨rfl,rfl,rfl,?_,fun i hi hne=>?_⟩
 ·exact size_sortWorldK_c enc k w blk off m dk os
 ·have hb:i≠blk:=fun e=>hne (by rw [e]);show ((w.heap.modify blk _)++os)[i]?=w.heap[i]?;rw [Array.getElem?_append_left (by simpa using hi),Array.getElem?_modify,if_neg (fun e=>hb e.symm)]
theorem Xt{g:Nat}{cb:Array Value}{enc:α→List Value}{k:Nat}{cf:α→α→Int}{blk off size:Nat}{w:World}
  (h:∀W,w.grownBy W (some blk)→∀x y,Calls Tryz.prog g (#[.agg (enc x).toArray,.agg (enc y).toArray]++cb) W (Ax (cf x y) W)):CmpLays Tryz.prog g cb enc k cf blk off size w:=by
 intro m os dk _ x y;refine(Calls.drawn (h _ (Oa enc k w blk off m dk os) x y) (fun e w' h=>⟨_,h.1⟩)).mono ?_;rintro e w' ⟨⟨he,hx⟩,hd⟩;exact⟨he,hx.grow hd⟩
theorem Anl(enc:α→List Value)(k:Nat)(w:World)(blk off m:Nat)(dk:Array α)(os:Array Obj){c:Array Value}{e:TypeId}{fr:Nat×Nat}(h:w.heap[blk]?=some (.cells c e fr)) :
  (sortWorldK enc k w blk off m dk os).heap[blk]?=some (.cells (putCells id off (flatK enc k dk) c) e fr):=by
 have hlt:=AqI h;show ((w.heap.modify blk (onCells (putCells id off (flatK enc k dk))))++os)[blk]?=_;rw [Array.getElem?_append_left (by simpa using hlt),Array.getElem?_modify,if_pos rfl,h]
 rfl
end
theorem aU{α:Type}{enc:α→List Value}{k:Nat}(hk:∀x,(enc x).length=k):∀(l:List α),(l.flatMap enc).length=l.length*k
 | []=>by simp
 | x::l=>by rw [List.flatMap_cons,List.length_append,hk,aU hk l,List.length_cons,Nat.add_mul,Nat.one_mul,Nat.add_comm]
section
variable {α : Type} [Inhabited α] {enc : α → List Value} {k : Nat}
theorem Vx(hk:∀x,(enc x).length=k)(k0:0<k):∀(l:List α) (t:Nat),t<l.length*k→(l.flatMap enc)[t]?=some ((enc l[t/k]!)[t%k]!)
 | [],t,h=>by simp at h
 | x::l,t,h=>by
  rw [List.flatMap_cons];by_cases ht:t<k
  ·rw [List.getElem?_append_left (by rw [hk];exact ht),Nat.div_eq_of_lt ht,Nat.mod_eq_of_lt ht,AqP (by rw [hk];exact ht)];simp [hk,ht]
  ·have e1:t/k=(t-k)/k+1:=by rw [Nat.div_eq_sub_div k0 (by omega)]
   have e2:t%k=(t-k)%k:=by rw [Nat.mod_eq_sub_mod (by omega)]
   have hl:t-k<l.length*k:=by rw [List.length_cons,Nat.add_mul,Nat.one_mul]at h;omega
   rw [List.getElem?_append_right (by rw [hk];omega),hk,Vx hk k0 l (t-k) hl,e1,e2];simp
theorem vS(hk:∀x,(enc x).length=k)(k0:0<k)(d:Array α):(flatK enc k d).toList=d.toList.flatMap enc:=by
 apply List.ext_getElem?;intro t;by_cases ht:t<d.size*k
 ·rw [Vx hk k0 _ _ (by simpa using ht)];have h1:t<(flatK enc k d).toList.length:=(by simpa using ht);have h2:=get_flatK enc k d t ht;rw [AqP h1]
  have h3:(flatK enc k d)[t]! = (flatK enc k d).toList[t]:=by rw [getElem!_pos _ t (by simpa using ht)];simp
  rw [←h3,h2]
  congr 1
  have h4:d[t/k]! = d.toList[t/k]!:=by have hlt:t/k<d.size:=Nat.div_lt_of_lt_mul (by rw [Nat.mul_comm];exact ht);rw [getElem!_pos d _ hlt,getElem!_pos d.toList _ (by simpa using hlt)];simp
  rw [h4]
 ·rw [List.getElem?_eq_none (by simp;omega),List.getElem?_eq_none (by rw [aU hk];simp;omega)]
theorem WV{w:World}{base:Nat}{e:TypeId}{v:Value}{d:Array α}(hk:∀x,(enc x).length=k)(k0:0<k)(h:w.ownsRow base e k v d.size (d.toList.flatMap enc))(hd:0<d.size) :
  ∃g cap,v=.slice (some ⟨g,0,none⟩) d.size cap/\base<=g/\g<w.heap.size/\HoldsK enc k w g 0 d/\v.ownBlock=some g:=by
 rcases h.2 with⟨_,h0⟩|⟨g,cap,cur,rfl,hb,hg,hn,hm,hs,ht⟩
 ·omega
 ·refine⟨g,cap,rfl,hb,AqI hg,?_,rfl⟩;intro j hj;rw [size_flatK]at hj;have Ng:j<d.toList.length*k:=(by simpa using hj);have h1:=Vx hk k0 d.toList j Ng;rw [←vS hk k0]at h1
  have h2:(flatK enc k d)[j]! = (enc d.toList[j/k]!)[j%k]!:=by rw [getElem!_pos _ j (by simpa using hj)];rw [AqP (by simpa using hj),AqO]at h1;rw [←h1];simp
  have h3:cur.toList[j]?=some ((flatK enc k d)[j]!):=by have h4:=Vx hk k0 d.toList j Ng;rw [←ht,List.getElem?_take_of_lt (by rw [Nat.mul_comm]at hj ⊢;omega)]at h4;rw [h4,h2]
  refine⟨?_,?_⟩
  ·rw [Nat.zero_add];refine Ab hg ?_;rw [←Array.getElem?_toList];exact h3
  ·rw [Nat.zero_add];exact AK hg
theorem QD{w:World}{base:Nat}{e:TypeId}{g cap:Nat}{d d':Array α}(hk:∀x,(enc x).length=k)(k0:0<k)(h:w.ownsRow base e k (.slice (some ⟨g,0,none⟩) d.size cap) d.size (d.toList.flatMap enc))(hd:d'.size=d.size)(m:Nat)(os:Array Obj) :
  (sortWorldK enc k w g 0 m d' os).ownsRow base e k (.slice (some ⟨g,0,none⟩) d.size cap) d.size (d'.toList.flatMap enc):=by
 rcases h.2 with⟨h',_⟩|⟨g',cap',cur,hv,hb,hg,hn,hm,hs,ht⟩
 ·cases h'
 ·simp only [Value.slice.injEq,AqO,Addr.mk.injEq,and_true,true_and]at hv;obtain⟨rfl,rfl⟩:=hv;have hF:(flatK enc k d').size=d.size*k:=(by rw [size_flatK,hd]);have hle:d.size*k<=cur.size:=(by rw [hs];exact Nat.mul_le_mul_right k hn);refine⟨?_,.inr ⟨g,cap,_,rfl,hb,Anl enc k w g 0 m d' os hg,hn,hm,?_,?_⟩⟩
  ·rw [aU hk];simp [hd]
  ·unfold putCells;simpa using hs
  ·rw [←vS hk k0];apply List.ext_getElem?;intro t;by_cases Fq:t<d.size*k
   ·rw [List.getElem?_take_of_lt Fq,Array.getElem?_toList];unfold putCells;rw [Array.getElem?_mapIdx,Array.getElem?_eq_getElem (by omega)];simp only [Option.map_some,Nat.zero_le,true_and,Nat.zero_add,Nat.sub_zero];rw [if_pos (by omega),Array.getElem?_toList,Array.getElem?_eq_getElem (by omega)];rw [getElem!_pos _ t (by omega)]
    rfl
   ·rw [List.getElem?_eq_none (by rw [List.length_take];omega),List.getElem?_eq_none (by simp [hd];omega)]
end
def FO(s t:Sg):Int:=if Be s.a t.a≠0 then Be s.a t.a else Be s.b t.b
theorem AdE(s t:Sg){k:Nat}(hs:Ex k s)(ht:Ex k t)(hk:0<k)(hk2:k<=400)(w:World)(hw:Am w) :
  Calls Tryz.prog 109 #[As s,As t] w (Ax (FO s t) w):=by
 have c1:=IE s.a t.a hs.a ht.a hk hk2;have c2:=IE s.b t.b hs.b ht.b hk hk2;have hE:=((Aa.refl w).alloc (.cells #[S (R s.a.x),S (R s.a.y),S (R s.b.x),S (R s.b.y)] 155)).alloc (.cells #[S (R t.a.x),S (R t.a.y),S (R t.b.x),S (R t.b.y)] 155);obtain⟨x,hx0⟩:=AqG (Be s.a t.a);obtain⟨y,Bj⟩:=AqG (Be s.b t.b)
 have hr:FO s t=if x≠0 then x else y:=by rw [hx0,Bj];rfl
 rw [hr];rw [←hx0]at c1;rw [←Bj]at c2
 have hA:(w.alloc (.cells #[S (R s.a.x),S (R s.a.y),S (R s.b.x),S (R s.b.y)] 155)).alloc (.cells #[S (R t.a.x),S (R t.a.y),S (R t.b.x),S (R t.b.y)] 155) |>.heap[w.heap.size]?=some (.cells #[S (R s.a.x),S (R s.a.y),S (R s.b.x),S (R s.b.y)] 155):=(Below.heap_alloc _ _ _ (by simp)).trans (AqJ w _)
 have hB:=AqJ (w.alloc (.cells #[S (R s.a.x),S (R s.a.y),S (R s.b.x),S (R s.b.y)] 155)) (.cells #[S (R t.a.x),S (R t.a.y),S (R t.b.x),S (R t.b.y)] 155);rw [AqR]at hB;obtain⟨r,Gm⟩:=AqG (if x≠0 then x else y:Int);rw [←Gm]
 have N5:∀(b o:Nat) (w:World),w.cell? ⟨b,o,none⟩=some (.int .i64 x)→w.cell? ⟨b,o+1,none⟩=some (.int .i64 y)→Calls Tryz.prog 98 #[.slice (some ⟨b,o,none⟩) 2 2] w (Ax r w):=by intro b o w h1 h2;rw [Gm];exact XT x y b o w h1 h2
 unfold Ak at c1 c2;unfold As;clear hs ht hr hx0 Bj Gm;go_enter Tryz.func109,Tryz.ntmps109
 go_upto_region 1 with fail
 generalize (w.alloc (.cells #[S (R s.a.x),S (R s.a.y),S (R s.b.x),S (R s.b.y)] 155)).alloc (.cells #[S (R t.a.x),S (R t.a.y),S (R t.b.x),S (R t.b.y)] 155)=V at *;have hs:=hE.size;obtain⟨ba,Aq⟩:=AqG w.heap.size;rw [←Aq]at hA hB ⊢;clear Aq hs
 have SO:∀w',Aa V w'→(w'.cell? ⟨ba,0,none⟩=some (S (R s.a.x))/\w'.cell? ⟨ba,1,none⟩=some (S (R s.a.y))/\w'.cell? ⟨ba,2,none⟩=some (S (R s.b.x))/\w'.cell? ⟨ba,3,none⟩=some (S (R s.b.y))/\w'.cell? ⟨ba+1,0,none⟩=some (S (R t.a.x))/\w'.cell? ⟨ba+1,1,none⟩=some (S (R t.a.y))/\w'.cell? ⟨ba+1,2,none⟩=some (S (R t.b.x))/\w'.cell? ⟨ba+1,3,none⟩=some (S (R t.b.y))):=fun w' h=>⟨h.cellS (Ab hA rfl),h.cellS (Ab hA rfl),h.cellS (Ab hA rfl),h.cellS (Ab hA rfl),h.cellS (Ab hB rfl),h.cellS (Ab hB rfl),h.cellS (Ab hB rfl),h.cellS (Ab hB rfl)⟩
 have X0:Aa V V.drew:=(Aa.refl V).drew;have hV:=hw.ext hE;clear hA hB
 go_region_held3 (fun w'=>w'.cell? ⟨ba,0,none⟩=some (S (R s.a.x))/\w'.cell? ⟨ba,1,none⟩=some (S (R s.a.y))/\w'.cell? ⟨ba,2,none⟩=some (S (R s.b.x))/\w'.cell? ⟨ba,3,none⟩=some (S (R s.b.y))/\w'.cell? ⟨ba+1,0,none⟩=some (S (R t.a.x))/\w'.cell? ⟨ba+1,1,none⟩=some (S (R t.a.y))/\w'.cell? ⟨ba+1,2,none⟩=some (S (R t.b.x))/\w'.cell? ⟨ba+1,3,none⟩=some (S (R t.b.y)))
  (first|with_reducible exact SO _ X0|with_reducible exact SO _ X5|with_reducible exact SO _ X6|with_reducible exact SO _ X7|with_reducible exact SO _ (X6.alloc _))
  (first|((with_reducible refine(c1 _ (hV.ext X0)).mono ?_);rintro e w5 ⟨rfl,Ae⟩;have X5:Aa V w5:=X0.trans Ae)|((with_reducible refine(c2 _ (hV.ext X5)).mono ?_);rintro e w6 ⟨rfl,Ay⟩;have X6:Aa V w6:=X5.trans Ay;have CX:=AqJ w6 (.cells #[.int .i64 x,.int .i64 y] 3);have g0:=Ab (o:=0) CX rfl;have g1:=Ab (o:=1) CX rfl;clear CX)|((with_reducible refine(N5 w6.heap.size 0 _ g0 g1).mono ?_);rintro e w7 ⟨rfl,Aw⟩;have X7:Aa V w7:=(X6.alloc _).trans Aw))
 go_wp2;go_ret;exact⟨rfl,hE.trans X7⟩
theorem Vj(p q:Rat):AU p q<0↔p<q:=by unfold AU;grind
theorem ZS(p q:Rat):AU p q=0↔p=q:=by unfold AU;grind
theorem Ajj(a b:Pt):Be a b=0↔a.x=b.x/\a.y=b.y:=by
 unfold Be;have h1:=ZS a.x b.x;have h2:=ZS a.y b.y
 split<;>grind
theorem Q4(a b:Pt):Be a b<0↔a.x<b.x∨(a.x=b.x/\a.y<b.y):=by
 unfold Be;have h1:=ZS a.x b.x;have h2:=Vj a.x b.x;have h3:=Vj a.y b.y
 split<;>grind
theorem Q5(s t:Sg):FO s t<0↔s.a.x<t.a.x∨(s.a.x=t.a.x/\(s.a.y<t.a.y∨(s.a.y=t.a.y/\(s.b.x<t.b.x∨(s.b.x=t.b.x/\s.b.y<t.b.y))))):=by
 unfold FO;have h1:=Ajj s.a t.a;have h2:=Q4 s.a t.a;have h3:=Q4 s.b t.b
 split<;>grind
def RF(s:Sg):Prop:=Ex 200 s
theorem xx:RF ⟨⟨0,0⟩,⟨0,0⟩⟩:=by
 have h:Sz 200 (0:Rat):=(by constructor<;>decide +kernel);exact⟨⟨h,h⟩,⟨h,h⟩⟩
abbrev Way:={s:Sg // RF s}
instance:Inhabited Way:=⟨⟨_,xx⟩⟩
def Ie(s t:Way):Int:=FO s.1 t.1
theorem Aag(s t:Way):ltOf Ie s t=true↔s.1.a.x<t.1.a.x∨(s.1.a.x=t.1.a.x/\(s.1.a.y<t.1.a.y∨(s.1.a.y=t.1.a.y/\(s.1.b.x<t.1.b.x∨(s.1.b.x=t.1.b.x/\s.1.b.y<t.1.b.y))))):=by
 unfold ltOf Ie;rw [decide_eq_true_iff];exact Q5 _ _
theorem nA(s t:Way):ltOf Ie s t=false↔¬(s.1.a.x<t.1.a.x∨(s.1.a.x=t.1.a.x/\(s.1.a.y<t.1.a.y∨(s.1.a.y=t.1.a.y/\(s.1.b.x<t.1.b.x∨(s.1.b.x=t.1.b.x/\s.1.b.y<t.1.b.y)))))):=by
 rw [←Aag];simp
theorem Aah:SWO (ltOf Ie) where
 irrefl x:=by rw [nA];grind
 trans x y z h1 h2:=by rw [Aag]at *;grind
 ntrans x y z h1 h2:=by rw [nA]at *;grind
theorem Aol(x y:Way)(h1:ltOf Ie x y=false)(h2:ltOf Ie y x=false):x=y:=by
 rw [nA]at h1 h2;obtain⟨⟨⟨a,b⟩,⟨c,d⟩⟩,hx⟩:=x;obtain⟨⟨⟨a',b'⟩,⟨c',d'⟩⟩,hy⟩:=y;simp only [Subtype.mk.injEq,Sg.mk.injEq,Pt.mk.injEq]at *
 grind
def Gz(s:Way):List Value:=[S (R s.1.a.x),S (R s.1.a.y),S (R s.1.b.x),S (R s.1.b.y)]
theorem Vu(s:Way):(Gz s).length=4:=rfl
theorem AeA(s:Way):∀v∈Gz s,v.oneCell'=true:=by
 intro v hv;simp only [Gz,List.mem_cons,AqV,or_false]at hv
 rcases hv with rfl|rfl|rfl|rfl<;>rfl
theorem Aok{w0 w:World}(hw:Am w0)(hx:Aa w0 w){blk:Nat}(hb:w0.heap.size<=blk)(off size:Nat):CmpLays Tryz.prog 109 #[] Gz 4 Ie blk off size w:=by
 refine Xt fun W hg x y=>?_;have h:=AdE x.1 y.1 x.2 y.2 (by omega) (by omega) W (hw.ext (MB hx hg hb));exact h
end Go.Proofs.YtjalkoacphhgdaaGreatDoor
namespace Go.Proofs.YtjalkoacphhgdaaGreatDoor
open Go.RowKit Kl
def BG(s:Sg)(x:Rat):Rat:=s.a.y+(x-s.a.x)/(s.b.x-s.a.x)*(s.b.y-s.a.y)
theorem AgP(s:Sg)(x:Rat){k:Nat}(hs:Ex k s)(hx:Sz k x)(hk:0<k)(hk2:k<=400)(h0:s.b.x≠s.a.x)(w:World)(hw:Am w) :
  Calls Tryz.prog 288 #[As s,S (R x)] w (Bg (R (BG s x)) w):=by
 have s1:=Ia x s.a.x (a:=k) (b:=k) ⟨hx,hs.a.x,hk,hk,by omega⟩;have s2:=Ia s.b.x s.a.x (a:=k) (b:=k) ⟨hs.b.x,hs.a.x,hk,hk,by omega⟩;have dv:=AlK (x-s.a.x) (s.b.x-s.a.x) (by grind) (a:=k+k+1) (b:=k+k+1) ⟨hx.sub hs.a.x,hs.b.x.sub hs.a.x,by omega,by omega,by omega⟩;have s3:=Ia s.b.y s.a.y (a:=k) (b:=k) ⟨hs.b.y,hs.a.y,hk,hk,by omega⟩;have mu:=QM ((x-s.a.x)/(s.b.x-s.a.x)) (s.b.y-s.a.y) (a:=k+k+1+(k+k+1)) (b:=k+k+1) ⟨(hx.sub hs.a.x).div (by omega) (hs.b.x.sub hs.a.x),hs.b.y.sub hs.a.y,by omega,by omega,by omega⟩;have ad:=lL s.a.y ((x-s.a.x)/(s.b.x-s.a.x)*(s.b.y-s.a.y)) (a:=k) (b:=k+k+1+(k+k+1)+(k+k+1)) ⟨hs.a.y,((hx.sub hs.a.x).div (by omega) (hs.b.x.sub hs.a.x)).mul (hs.b.y.sub hs.a.y),by omega,by omega,by omega⟩;have e:BG s x=s.a.y+(x-s.a.x)/(s.b.x-s.a.x)*(s.b.y-s.a.y):=rfl;rw [←e]at ad;obtain⟨r,hr⟩:=AqG (BG s x);rw [←hr]at ad ⊢;unfold As;unfold Yi at dv;clear hs hx e hr;go_enter Tryz.func288,Tryz.ntmps288
 go_upto_region 1 with fail
 have hb:=AqJ w (.cells #[S (R s.a.x),S (R s.a.y),S (R s.b.x),S (R s.b.y)] 155);have hE:=(Aa.refl w).alloc (.cells #[S (R s.a.x),S (R s.a.y),S (R s.b.x),S (R s.b.y)] 155);obtain⟨W,hW⟩:=AqG (w.alloc (.cells #[S (R s.a.x),S (R s.a.y),S (R s.b.x),S (R s.b.y)] 155));rw [←hW]at hb hE ⊢;clear hW;obtain⟨ba,Aq⟩:=AqG w.heap.size;rw [←Aq]at hb ⊢;clear Aq
 have SO:∀w',Aa W w'→(w'.cell? ⟨ba,0,none⟩=some (S (R s.a.x))/\w'.cell? ⟨ba,1,none⟩=some (S (R s.a.y))/\w'.cell? ⟨ba,2,none⟩=some (S (R s.b.x))/\w'.cell? ⟨ba,3,none⟩=some (S (R s.b.y))):=fun w' h=>⟨h.cellS (Ab hb rfl),h.cellS (Ab hb rfl),h.cellS (Ab hb rfl),h.cellS (Ab hb rfl)⟩
 have CP:=hw.ext hE;have X:Aa W W:=Aa.refl W;clear hb
 go_region_held3 (fun w'=>w'.cell? ⟨ba,0,none⟩=some (S (R s.a.x))/\w'.cell? ⟨ba,1,none⟩=some (S (R s.a.y))/\w'.cell? ⟨ba,2,none⟩=some (S (R s.b.x))/\w'.cell? ⟨ba,3,none⟩=some (S (R s.b.y)))
  (first|with_reducible exact SO _ X|with_reducible exact SO _ X.drew)
  (first|((with_reducible refine(s1 _ (CP.ext (by first|exact X|exact X.drew))).mono ?_);rintro e w1 ⟨rfl,hx1⟩;replace X:Aa W w1:=(by first|exact X.trans hx1|exact X.drew.trans hx1))|((with_reducible refine(s2 _ (CP.ext (by first|exact X|exact X.drew))).mono ?_);rintro e w1 ⟨rfl,hx1⟩;replace X:Aa W w1:=(by first|exact X.trans hx1|exact X.drew.trans hx1))|((with_reducible refine(dv _ (CP.ext (by first|exact X|exact X.drew))).mono ?_);rintro e w1 ⟨rfl,hx1⟩;replace X:Aa W w1:=(by first|exact X.trans hx1|exact X.drew.trans hx1)))
 go_upto_region 2 with fail
 go_region_held3 (fun w'=>w'.cell? ⟨ba,0,none⟩=some (S (R s.a.x))/\w'.cell? ⟨ba,1,none⟩=some (S (R s.a.y))/\w'.cell? ⟨ba,2,none⟩=some (S (R s.b.x))/\w'.cell? ⟨ba,3,none⟩=some (S (R s.b.y)))
  (first|with_reducible exact SO _ X|with_reducible exact SO _ X.drew)
  (first|((with_reducible refine(s3 _ (CP.ext (by first|exact X|exact X.drew))).mono ?_);rintro e w1 ⟨rfl,hx1⟩;replace X:Aa W w1:=(by first|exact X.trans hx1|exact X.drew.trans hx1))|((with_reducible refine(mu _ (CP.ext (by first|exact X|exact X.drew))).mono ?_);rintro e w1 ⟨rfl,hx1⟩;replace X:Aa W w1:=(by first|exact X.trans hx1|exact X.drew.trans hx1))|((with_reducible refine(ad _ (CP.ext (by first|exact X|exact X.drew))).mono ?_);rintro e w1 ⟨rfl,hx1⟩;replace X:Aa W w1:=(by first|exact X.trans hx1|exact X.drew.trans hx1)))
 go_wp2;go_ret;exact⟨rfl,hE.trans X⟩
theorem AmF(l:List Sg):(BS l).length=l.length*4:=by
 induction l with
 | nil=>rfl
 | cons e l ih=>unfold BS at *;simp only [List.flatMap_cons,List.length_append,ih,List.length_cons,List.length_nil];omega
theorem xi:∀(l:List Sg) (j:Nat) (h:j<l.length),(BS l)[j*4]?=some (S (R l[j].a.x))/\(BS l)[j*4+1]?=some (S (R l[j].a.y))/\(BS l)[j*4+2]?=some (S (R l[j].b.x))/\(BS l)[j*4+3]?=some (S (R l[j].b.y))
 | e::l,0,_=>⟨rfl,rfl,rfl,rfl⟩
 | e::l,j+1,h=>by
  have ih:=xi l j (by simpa using h);have e0:BS (e::l)=S (R e.a.x)::S (R e.a.y)::S (R e.b.x)::S (R e.b.y)::BS l:=rfl;rw [e0];have e1:(j+1)*4=j*4+1+1+1+1:=(by omega);rw [e1]
  simpa using ih
theorem NC{w:World}{A:Option Addr}{l:List Sg}(hr:Ad w A (BS l)){j:Nat}(h:j<l.length):∃b o,A=some ⟨b,o,none⟩/\w.cell? ⟨b,o+j*4,none⟩=some (S (R l[j].a.x))/\w.cell? ⟨b,o+j*4+1,none⟩=some (S (R l[j].a.y))/\w.cell? ⟨b,o+j*4+2,none⟩=some (S (R l[j].b.x))/\w.cell? ⟨b,o+j*4+3,none⟩=some (S (R l[j].b.y)):=by
 have hl:=AmF l;obtain⟨b,o,e,hcs⟩:=hr.ad (by omega);obtain⟨f1,f2,f3,f4⟩:=xi l j h;have g1:=hcs (j*4) (by omega);have g2:=hcs (j*4+1) (by omega);have g3:=hcs (j*4+2) (by omega);have g4:=hcs (j*4+3) (by omega);rw [AqP (by omega),AqO]at f1 f2 f3 f4;rw [f1]at g1;rw [f2,←Nat.add_assoc]at g2;rw [f3,←Nat.add_assoc]at g3;rw [f4,←Nat.add_assoc]at g4;exact⟨b,o,e,g1,g2,g3,g4⟩
def FD(p:Pt)(l:List Sg):Rat:=l.foldl (fun s e=>s+Al p e.a e.b) 0
def My:List Sg→Rat
 | []=>0
 | e::l=>FD e.a (e::l)
theorem Acw(p:Pt)(l:List Sg)(e:Sg):FD p (l ++ [e])=FD p l+Al p e.a e.b:=by simp [FD]
theorem rB(p:Pt)(l:List Sg){j:Nat}(h:j<l.length):FD p (l.take (j+1))=FD p (l.take j)+Al p l[j].a l[j].b:=by
 rw [AqN h,Acw]
theorem Acx(l:List Sg)(h:0<l.length):My l=FD l[0].a l:=by
 cases l with
 | nil=>simp at h
 | cons e l=>rfl
theorem Acy(l:List Sg)(A:Option Addr)(c:Nat){k K:Nat}(hl:∀e∈l,Ex k e)(hk:0<k)(hk2:k<=400)(hK:0<K)(hK2:K<=2000)(h0:0<l.length)
  (hS:∀j,j<=l.length→Sz K (FD l[0].a (l.take j))) (hA:∀j (h:j<l.length),Sz (K-100) (Al l[0].a l[j].a l[j].b)) (hc:l.length<=c) (hcm:c<=9223372036854775807) (hK3:100<K) (w:World) (hw:Am w) (hr:Ad w A (BS l)) :
  Calls Tryz.prog 234 #[.slice A l.length c] w (Bg (R (My l)) w):=by
 obtain⟨b,o,rfl,q1,q2,-,-⟩:=NC hr h0;rw [Acx l h0];obtain⟨r,hr0⟩:=AqG (FD l[0].a l);rw [←hr0];obtain⟨p,hp⟩:=AqG (l[0].a);have Nl:Ar k p:=(by rw [hp];exact(hl _ (AqL h0)).a);rw [←hp]at hr0 hS hA q1 q2;have HR:=AqH hr0;clear hr0 hp;rw [Nat.zero_mul,Nat.add_zero]at q1 q2;go_enter Tryz.func234,Tryz.ntmps234
 go_upto_region 3 with fail
 go_loopw [3,8] (fun s i wr=>∃j:Nat,i=.int .i64 (j:Nat)/\s=S (R (FD p (l.take j)))/\j<=l.length/\Aa w wr) (fun _ i _=>l.length-(intOf i).toNat)
 case atStart=>exact⟨0,rfl,by rw [List.take_zero];show _=S (R 0);rw [KJ],by omega,Aa.refl _⟩
 case round=>
  obtain⟨j,rfl,rfl,hj,Ac⟩:=hrel;by_cases hlt:j<l.length
  ·obtain⟨b',o',Lk,g1,g2,g3,g4⟩:=NC (hr.ext Ac) hlt;simp only [AqO,Addr.mk.injEq,and_true]at Lk;obtain⟨rfl,rfl⟩:=Lk;have p1:=Ac.cellS q1;have p2:=Ac.cellS q2;have ez:=hl _ (AqL hlt);have ar:=sf p l[j].a l[j].b Nl ez.a ez.b hk hk2;have ad:=lL (FD p (l.take j)) (Al p l[j].a l[j].b) (a:=K) (b:=K-100) ⟨hS j hj,hA j hlt,hK,by omega,by omega⟩;rw [←rB p l hlt]at ad;obtain⟨e,he⟩:=AqG (l[j]);rw [←he]at g1 g2 g3 g4 ar ad;have hj0:(0:Int)<=(j:Int):=(by omega);have hl0:(0:Int)<(l.length:Int):=(by omega);have AV:(j:Int)<(l.length:Int):=(by omega);clear ez he;obtain⟨s,hs⟩:=AqG (FD p (l.take j));obtain⟨s',hs'⟩:=AqG (FD p (l.take (j+1)));rw [←hs,←hs']at ad;rw [←hs];have HS':=AqH hs';clear hs hs' hS hA hl q1 q2;unfold Ak at ar
   go_upto_region 5 with fail
   have hb:=AqJ wr (.cells #[S (R e.a.x),S (R e.a.y),S (R e.b.x),S (R e.b.y)] 155);have hE:=(Aa.refl wr).alloc (.cells #[S (R e.a.x),S (R e.a.y),S (R e.b.x),S (R e.b.y)] 155);unfold S at hb hE;generalize (wr.alloc (.cells #[.string ⟨(R e.a.x).toArray⟩,.string ⟨(R e.a.y).toArray⟩,.string ⟨(R e.b.x).toArray⟩,.string ⟨(R e.b.y).toArray⟩] 155))=W at *;obtain⟨be,CW⟩:=AqG wr.heap.size;rw [←CW]at hb ⊢;clear CW
   have SO:∀w',Aa W w'→(w'.cell? ⟨b,o,none⟩=some (S (R p.x))/\w'.cell? ⟨b,o+1,none⟩=some (S (R p.y))/\w'.cell? ⟨be,0,none⟩=some (S (R e.a.x))/\w'.cell? ⟨be,1,none⟩=some (S (R e.a.y))/\w'.cell? ⟨be,2,none⟩=some (S (R e.b.x))/\w'.cell? ⟨be,3,none⟩=some (S (R e.b.y))):=fun w' h=>⟨h.cellS (hE.cellS p1),h.cellS (hE.cellS p2),h.cellS (Ab hb rfl),h.cellS (Ab hb rfl),h.cellS (Ab hb rfl),h.cellS (Ab hb rfl)⟩
   have CP:=(hw.ext Ac).ext hE;have hx0:=Ac.trans hE;have X:Aa W W:=Aa.refl W;clear hb p1 p2 g1 g2 g3 g4
   go_region_held3 (fun w'=>w'.cell? ⟨b,o,none⟩=some (S (R p.x))/\w'.cell? ⟨b,o+1,none⟩=some (S (R p.y))/\w'.cell? ⟨be,0,none⟩=some (S (R e.a.x))/\w'.cell? ⟨be,1,none⟩=some (S (R e.a.y))/\w'.cell? ⟨be,2,none⟩=some (S (R e.b.x))/\w'.cell? ⟨be,3,none⟩=some (S (R e.b.y)))
    (first|with_reducible exact SO _ X|with_reducible exact SO _ X.drew)
    (first|((with_reducible refine(ar _ (CP.ext (by first|exact X|exact X.drew))).mono ?_);rintro e w1 ⟨rfl,hx1⟩;replace X:Aa W w1:=(by first|exact X.trans hx1|exact X.drew.trans hx1))|((with_reducible refine(ad _ (CP.ext (by first|exact X|exact X.drew))).mono ?_);rintro e w1 ⟨rfl,hx1⟩;replace X:Aa W w1:=(by first|exact X.trans hx1|exact X.drew.trans hx1)))
   go_wp2;go_roundw
   case rel=>exact⟨j+1,by go_num,by rw [HS'.out],hlt,hx0.trans X⟩
   case measure=>simp [intOf];omega
  ·have hjn:j=l.length:=(by omega);have e:FD p (l.take j)=r:=(by rw [HR.out,hjn,List.take_length]);rw [e];have hle:(l.length:Int)<=(j:Int):=(by omega);go_wp2;go_ret;exact⟨rfl,Ac⟩
theorem D7.look{E:List (Pt×Value×Nat)}{R0:List (Pt×List Pt)}{B:Nat}{W:World}{b2:Nat}(h:D7 B W b2 E R0)(p:Pt){e:Pt×List Pt}(hf:R0.find? (fun e=>Ap p e.1)=some e) :
  ∃A c,Fu Ap (.slice none 0 0) p E=.slice A e.2.length c/\Ad W A (flat (Ao e.2))/\e.2.length<=c/\c<=9223372036854775807:=by
 have Dk:=aS h.len (fun i h1 h2=>(h.row i h1 h2).1) p;obtain⟨h3,j,hj',h4,h5⟩:=List.find?_eq_some_iff_getElem.1 hf
 have hfj:R0.findIdx? (fun e=>Ap p e.1)=some j:=by rw [List.findIdx?_eq_some_iff_getElem];exact⟨hj',by rw [h4];exact h3,fun i hi=>by have:=h5 i hi;simpa using this⟩
 rw [hfj,List.findIdx?_eq_some_iff_getElem]at Dk;obtain⟨hj,h1,h2⟩:=Dk
 have e1:E.find? (fun e=>Ap p e.1)=some E[j]:=by rw [List.find?_eq_some_iff_getElem];exact⟨h1,j,hj,rfl,fun i hi=>by have:=h2 i hi;simpa using this⟩
 have ho:=(h.row j hj hj').2.2;rw [h4]at ho;obtain⟨A,c,hv,hr,g1,g2⟩:=Ad.of_own' (by omega) ho;refine⟨A,c,?_,hr,g1,g2⟩;unfold Fu;rw [e1];exact hv
theorem Akm{j n:Nat}(h:j<n):∃m:Nat,m<n/\m=(j+n-1)%n/\Int.tmod ((j:Int)+n-1) n=(m:Int):=by
 refine⟨(j+n-1)%n,Nat.mod_lt _ (by omega),rfl,?_⟩;have e:(j:Int)+n-1=((j+n-1:Nat):Int):=(by omega);rw [e];exact(Int.ofNat_tmod _ _).symm
theorem Akl{B:Nat}{w:World}{r b1 b2:Nat}{L:List (Sg×Int)}{E:List (Pt×Value×Nat)}{R0:List (Pt×List Pt)}(h:Bw B w r b1 b2 L E R0)(s:Sg){e:Pt×List Pt}(hf:R0.find? (fun e=>Ap s.b e.1)=some e){j m:Nat}(hj:j<e.2.length)(hi:GH e.2 s.a=(j:Int))(hm:m<e.2.length)(Tm:m=(j+e.2.length-1)%e.2.length)(hn:e.2.length<100000) :
  Calls Tryz.prog 232 #[.pointer (some ⟨r,0,none⟩),As s] w (De (As ⟨s.b,e.2[m]⟩) w):=by
 obtain⟨A,c,hv,AN,hc1,hc2⟩:=h.ar.look s.b hf;obtain⟨m',hm',hme,htm⟩:=Akm hj;rw [←Tm]at hme;subst hme;clear hm' Tm;obtain⟨p,hp⟩:=AqG (e.2[m']);rw [←hp];have ix:=fun W (hE:Aa w W)=>li e.2 s.a A c W (AN.ext hE) hc1 hc2;rw [hi]at ix;have hE:=((Aa.refl w).alloc (.cells #[S (R s.a.x),S (R s.a.y),S (R s.b.x),S (R s.b.y)] 155)).alloc (.cells #[S [],S [],S [],S []] 155);have hb1:=(Below.heap_alloc (w.alloc (.cells #[S (R s.a.x),S (R s.a.y),S (R s.b.x),S (R s.b.y)] 155)) (.cells #[S [],S [],S [],S []] 155) w.heap.size (by simp)).trans (AqJ w (.cells #[S (R s.a.x),S (R s.a.y),S (R s.b.x),S (R s.b.y)] 155));have hb2:=AqJ (w.alloc (.cells #[S (R s.a.x),S (R s.a.y),S (R s.b.x),S (R s.b.y)] 155)) (.cells #[S [],S [],S [],S []] 155);rw [AqR]at hb2;obtain⟨b',o',hA,g1,g2⟩:=C2 AN hm;have hlt:=World.block_lt_of_cell? w _ g1;simp only at hlt;replace g1:=hE.cellS g1;replace g2:=hE.cellS g2;have hN:=h.ext hE;rw [←hp]at g1 g2;obtain⟨n,Jl⟩:=AqG e.2.length;rw [←Jl]at hj htm hv hn hc1 ix hm;clear hp hf Jl AN;unfold As;go_enter Tryz.func232,Tryz.ntmps232
 go_upto_region 1 with fail
 rw [show (⟨#[]⟩:ByteArray)=⟨([]:Bs).toArray⟩from rfl];generalize (w.alloc (.cells #[S (R s.a.x),S (R s.a.y),S (R s.b.x),S (R s.b.y)] 155)).alloc (.cells #[S [],S [],S [],S []] 155)=V at *;obtain⟨bb,Br⟩:=AqG w.heap.size;have hle:w.heap.size<=bb+1:=(by omega);rw [←Br]at hb1 hb2 hlt ⊢;have fP:¬(b'=bb+1):=(by omega);have Fp:¬(bb+1=b'):=(by omega);clear Br;have q2:∀q:Af V,q.w.cell? ⟨r,1,none⟩=some (.map (some b2)):=Af.cell (Ab hN.cell rfl);have q3:∀q:Af V,q.w.cell? ⟨bb,2,none⟩=some (S (R s.b.x)):=Af.cell (Ab hb1 rfl);have q4:∀q:Af V,q.w.cell? ⟨bb,3,none⟩=some (S (R s.b.y)):=Af.cell (Ab hb1 rfl)
 have q5:∀q:Af V,(Instr.lookup 132 (.map (some b2)) (Ak s.b) false).run Tryz.prog q.w=.ok (.slice A n c) q.w:=fun q=>by rw [QQ Q0 s.b E (W:=q.w) ((q.h.block b2 hN.ar.lt).trans hN.ar.blk),hv]
 unfold Ak at q5 ix;refine F5 (by kernel_rfl) (by kernel_rfl) ?_
 repeat (go_big_quiet_step (fail))
 refine wpQuiet_nil ?_;rintro _ ⟨q,rfl⟩;obtain⟨W1,hx1⟩:=q;have k1:=hx1.cellS (Ab (o:=0) hb1 rfl);have k2:=hx1.cellS (Ab (o:=1) hb1 rfl);have jD:=ix W1 (hE.trans hx1);rw [hA]at jD hv;simp only;clear ix;(go_wp2_with fail);(with_reducible refine jD.mono ?_);rintro e w2 ⟨rfl,hx2⟩;replace hx2:=hx1.trans hx2;have AX:=(hx2.block _ (AqI hb1)).trans hb1;have By:=(hx2.block _ (AqI hb2)).trans hb2;have f1:=hx2.cellS g1;have f2:=hx2.cellS g2;have e1:=Ab (o:=2) AX rfl;have e2:=Ab (o:=3) AX rfl;have y0:=AK (o:=0) By;have y1:=AK (o:=1) By;have y2:=AK (o:=2) By;have y3:=AK (o:=3) By;have z0:=Ab (o:=0) By rfl;have z1:=Ab (o:=1) By rfl;have z2:=Ab (o:=2) By rfl;have z3:=Ab (o:=3) By rfl;clear k1 k2 q2 q3 q4 q5 hN h g1 g2 jD;have Gk:(n:Int)≠0:=(by omega);have Nj:¬n=0:=(by omega);have a1:IntKind.i64.wrap ((j:Int)+n)=(j:Int)+n:=AqQ _ (by omega);have a2:IntKind.i64.wrap ((j:Int)+n-1)=(j:Int)+n-1:=AqQ _ (by omega);have a3:IntKind.i64.wrap (m':Int)=(m':Int):=AqQ _ (by omega);have a4:(0:Int)<=(m':Int):=(by omega);have a5:(m':Int)<(n:Int):=by omega
 go_upto_region 3 with fail
 go_region_held3 (fun w'=>w'.cell? ⟨bb,2,none⟩=some (S (R s.b.x))/\w'.cell? ⟨bb,3,none⟩=some (S (R s.b.y))/\w'.cell? ⟨b',o'+m'*2,none⟩=some (S (R p.x))/\w'.cell? ⟨b',o'+m'*2+1,none⟩=some (S (R p.y)))
  (first|go_keep|(simp [World.cell?_setCell,fP,Fp];go_keep)) (fail)
 have hq:=P1 (S (R s.b.x)) (S (R s.b.y)) (S (R p.x)) (S (R p.y)) By;have q0:=(Aa.refl _).drew.cellS (Ab (o:=0) hq rfl);have q1:=(Aa.refl _).drew.cellS (Ab (o:=1) hq rfl);have q2:=(Aa.refl _).drew.cellS (Ab (o:=2) hq rfl);have q3:=(Aa.refl _).drew.cellS (Ab (o:=3) hq rfl);clear hq;go_wp2;refine bodyPost_ret (v:=.agg #[S (R s.b.x),S (R s.b.y),S (R p.x),S (R p.y)]) (by simp [results,Tryz.results232,go_sem,q0,q1,q2,q3]) rfl ?_;have Cq:=hE.trans hx2;exact⟨rfl,((((Cq.setCell (p:=⟨bb+1,0,none⟩) hle _).setCell (p:=⟨bb+1,1,none⟩) hle _).setCell (p:=⟨bb+1,2,none⟩) hle _).setCell (p:=⟨bb+1,3,none⟩) hle _).drew⟩
section
open Go.ChangeMaps (setBlock)
section
variable {α : Type} (enc : α → Value)
structure CC(W:World)(r b:Nat)(E:List (α×Value×Nat))(seen:List Nat):Prop where
 it:W.heap[r]?=some (.mapIter (some b) E.length seen.toArray E.length)
 nd:seen.Nodup
 lt:∀i∈seen,i<E.length
theorem CC.range{W:World}{b:Nat}{E:List (α×Value×Nat)}{t k e:TypeId}(ht:Tryz.prog.underlying t=some (.map k e))(hb:W.heap[b]?=some (.map (AB enc E).toArray E.length)) :
  (Instr.range t (.map (some b))).run Tryz.prog W=.ok (.pointer (some ⟨W.heap.size,0,none⟩)) (W.alloc (.mapIter (some b) E.length #[] E.length))/\CC (W.alloc (.mapIter (some b) E.length #[] E.length)) W.heap.size b E []:=
 ⟨run_range_map W t k e b _ _ ht hb,AqJ _ _,List.nodup_nil,by simp⟩
theorem CC.keep{W W':World}{r b:Nat}{E:List (α×Value×Nat)}{seen:List Nat}(h:CC W r b E seen)(hk:W'.heap[r]?=W.heap[r]?):CC W' r b E seen:=⟨hk.trans h.it,h.nd,h.lt⟩
theorem AeW{E:List (α×Value×Nat)}(hst:∀i (h:i<E.length),E[i].2.2=i):(AB enc E).map (·.born)=List.range E.length:=by
 apply List.ext_getElem
 ·simp [AB]
 ·intro i h1 h2;simp [AB]at h1 ⊢;exact hst i h1
theorem CC.next{W:World}{r b:Nat}{E:List (α×Value×Nat)}{seen:List Nat}(h:CC W r b E seen)(hb:W.heap[b]?=some (.map (AB enc E).toArray E.length))(hst:∀i (h:i<E.length),E[i].2.2=i)(hne:r≠b)(ty:TypeId) :
  (seen.length=E.length/\(Instr.next (.pointer (some ⟨r,0,none⟩)) false ty).run Tryz.prog W=.ok (.tuple #[.bool false]) W)∨
  ∃i,∃hi:i<E.length,i∉seen/\∃W',CC W' r b E (seen ++ [i])/\W.grownBy W' (some r)/\W'.heap.size=W.heap.size/\
   (Instr.next (.pointer (some ⟨r,0,none⟩)) false ty).run Tryz.prog W=.ok (.tuple #[.bool true,enc E[i].1,E[i].2.1]) W'/\
   (∀V,V.heap[r]?=W'.heap[r]?→V.heap[b]?=W'.heap[b]?→(Instr.entry (.pointer (some ⟨r,0,none⟩))).run Tryz.prog V=.ok (.tuple #[enc E[i].1,E[i].2.1]) V):=by
 have Ca:=AeW enc hst
 have hold:∀x∈(AB enc E).toArray.toList,x.born<E.length:=by
  intro x hx;have:x.born∈(AB enc E).map (·.born):=List.mem_map_of_mem hx;rw [Ca]at this
  simpa using this
 have Cc:((AB enc E).toArray.toList.map (·.born)).Nodup:=by show ((AB enc E).map (·.born)).Nodup;rw [Ca];exact List.nodup_range
 rcases run_next_at (P:=Tryz.prog) W ty r b E.length E.length seen.toArray (AB enc E).toArray E.length h.it hb hold (AqK _)with⟨h0,hrun⟩|⟨x,hx,w1,hw1,hrun⟩
 ·left
  refine⟨?_,hrun⟩;have hall:=all_seen _ _ h0
  have AhU:List.range E.length ⊆ seen:=by
   intro i hi;rw [←Ca]at hi;obtain⟨x,hx,rfl⟩:=List.mem_map.1 hi;have:=hall x hx
   simpa using this
  have h1:E.length<=seen.length:=by
   have:=(List.nodup_range (n:=E.length)).length_le_of_subset AhU
   simpa using this
  have h2:seen.length<=E.length:=by
   have hs:seen ⊆ List.range E.length:=fun i hi=>(by simpa using h.lt i hi);have:=h.nd.length_le_of_subset hs
   simpa using this
  omega
 ·right
  obtain⟨jz,I9⟩:=mem_left hx;obtain⟨i,hi,Nt⟩:=List.getElem_of_mem jz;have hi':i<E.length:=(by simpa [AB]using hi);have Qu:x=⟨enc E[i].1,E[i].2.1,E[i].2.2⟩:=(by rw [←Nt];simp [AB]);have hb0:x.born=i:=(by rw [Qu];exact hst i hi');have hkey:x.key=enc E[i].1:=(by rw [Qu]);have hval:x.val=E[i].2.1:=(by rw [Qu]);have GA:i∉seen:=by rw [hb0]at I9;simpa using I9
  have hr1:w1.heap[r]?=W.heap[r]?:=by rcases hw1 with rfl|rfl<;>rfl
  have hb1:w1.heap[b]?=W.heap[b]?:=by rcases hw1 with rfl|rfl<;>rfl
  have hG:W.grownBy (setBlock w1 r (.mapIter (some b) E.length (seen.toArray.push x.born) E.length)) (some r):=by
   rcases hw1 with rfl|rfl
   ·exact Ld h.it
   ·exact⟨rfl,rfl,rfl,by simp [setBlock],fun k _ hk=>Uo (fun e=>hk (by rw [e]))⟩
  have hit:=LX (o:=.mapIter (some b) E.length (seen.toArray.push x.born) E.length) (hr1.trans h.it);refine⟨i,hi',GA,_,⟨?_,?_,?_⟩,hG,?_,?_,?_⟩
  ·rw [hit,hb0];simp
  ·rw [List.nodup_append];refine⟨h.nd,by simp,?_⟩;intro a ha c hc;simp only [AqW]at hc;subst hc;intro e;rw [e]at ha;exact GA ha
  ·intro k hk
   rcases List.mem_append.1 hk with hk|hk
   ·exact h.lt k hk
   ·simp only [AqW]at hk;omega
  ·rcases hw1 with rfl|rfl<;>simp [setBlock]
  ·rw [hrun,hkey,hval]
  ·intro V hVr VV;rw [←hkey,←hval];exact run_entry_at V r b E.length seen.toArray (AB enc E).toArray E.length x (hVr.trans hit) (VV.trans ((Uo (Ne.symm hne)).trans (hb1.trans hb))) jz Cc
end
end
theorem yy{s:Sg}{x:Rat}{k:Nat}(hs:Ex k s)(hx:Sz k x):Sz (7*k+5) (BG s x):=
 (hs.a.y.add (((hx.sub hs.a.x).div (by omega) (hs.b.x.sub hs.a.x)).mul (hs.b.y.sub hs.a.y))).mono (by omega)
def Iq(p:Pt)(st:Option (Sg×Rat))(s:Sg):Option (Sg×Rat):=
 if 0<=AU s.a.x p.x then st else if AU s.b.x p.x<0 then st else if 0<=AU (BG s p.x) p.y then st else
 match st with
 | none=>some (s,BG s p.x)
 | some (b,h)=>
  if AU (BG s p.x) h=0 then (if 0<AH (Al s.b s.a b.a)then some (s,BG s p.x)else st)
  else if 0<AU (BG s p.x) h then some (s,BG s p.x)else st
def eY:Option (Sg×Rat)→Value
 | none=>S []
 | some (_,h)=>S (R h)
def ZJ:Option (Sg×Rat)→Array Value
 | none=>#[S [],S [],S [],S []]
 | some (s,_)=>#[S (R s.a.x),S (R s.a.y),S (R s.b.x),S (R s.b.y)]
def Vf(st:Option (Sg×Rat)):Value:=.agg (ZJ st)
def Dn(p:Pt)(l:List Sg):Option (Sg×Rat):=l.foldl (Iq p) none
theorem rH(p:Pt)(l:List Sg)(s:Sg):Dn p (l ++ [s])=Iq p (Dn p l) s:=by simp [Dn]
theorem EO{α:Type}{W:World}{r b:Nat}{E:List (α×Value×Nat)}{seen:List Nat}(h:CC W r b E seen):(W.iterSeen r).size=seen.length:=by
 unfold World.iterSeen;rw [h.it];simp
structure Rb(w wr:World)(b1 bb r:Nat)(L:List (Sg×Int))(p:Pt)(seen:List Nat)(st:Option (Sg×Rat)):Prop where
 ext:Aa w wr
 box:wr.heap[bb]?=some (.cells #[S (R p.x),S (R p.y)] 92)
 best:wr.heap[bb+1]?=some (.cells (ZJ st) 155)
 iter:CC wr r b1 (stamp L) seen
def UZ(p:Pt)(st:Option (Sg×Rat))(s:Sg):Option (Sg×Rat):=
 match st with
 | none=>some (s,BG s p.x)
 | some (b,h)=>if AU (BG s p.x) h=0 then (if 0 < AH (Al s.b s.a b.a)then some (s,BG s p.x)else some (b,h))else if 0 < AU (BG s p.x) h then some (s,BG s p.x)else some (b,h)
theorem AcF(p:Pt)(st:Option (Sg×Rat))(s:Sg):Iq p st s=if 0<=AU s.a.x p.x then st else if AU s.b.x p.x<0 then st else if 0<=AU (BG s p.x) p.y then st else UZ p st s:=by
 cases st<;>rfl
theorem ZK(st:Option (Sg×Rat)):∃c0 c1 c2 c3:Bs,ZJ st=#[S c0,S c1,S c2,S c3]:=by
 cases st with
 | none=>exact⟨_,_,_,_,rfl⟩
 | some x=>exact⟨_,_,_,_,rfl⟩
theorem mS(L:List (Sg×Int)):∀i (h:i<(stamp L).length),(stamp L)[i].2.2=i:=by
 intro i h;simp [stamp]
theorem Yu(L:List (Sg×Int)){i:Nat}(h:i<(stamp L).length):(stamp L)[i].1=(L[i]'(by rw [D4]at h;exact h)).1:=by simp [stamp]
theorem mU(L:List (Sg×Int)){i:Nat}(h:i<(stamp L).length):(stamp L)[i].2.1=.int .i64 (L[i]'(by rw [D4]at h;exact h)).2:=by simp [stamp]
theorem vh{β:Type}(L:List β):(List.range L.length).filterMap (fun i=>L[i]?)=L:=by
 have h:∀n,n<=L.length→(List.range n).filterMap (fun i=>L[i]?)=L.take n:=by
  intro n
  induction n with
  | zero=>intro _;simp
  | succ n ih=>intro hn;rw [List.range_succ,List.filterMap_append,ih (by omega),AqN (by omega)];simp [AqP (show n<L.length by omega)]
 rw [h _ (AqK _),List.take_length]
theorem xk(L:List (Sg×Int)){seen:List Nat}(Cc:seen.Nodup)(hlt:∀i∈seen,i<(stamp L).length)(hlen:seen.length=(stamp L).length):(seen.filterMap (fun i=>L[i]?.map (·.1))).Perm (L.map (·.1)):=by
 rw [D4]at hlt hlen
 have hmem:∀i,i<L.length→i∈seen:=by
  intro i hi;refine Classical.byContradiction fun hn=>?_;have h1:(i::seen).Nodup:=List.nodup_cons.2 ⟨hn,Cc⟩
  have h2:(i::seen) ⊆ List.range L.length:=by
   intro j hj
   rcases List.mem_cons.1 hj with rfl|hj
   ·simpa using hi
   ·simpa using hlt j hj
  have:=h1.length_le_of_subset h2;simp at this;omega
 have hp:seen.Perm (List.range L.length):=by
  rw [List.perm_iff_count];intro i;rw [Cc.count,(List.nodup_range).count];by_cases hi:i<L.length
  ·rw [if_pos (hmem i hi),if_pos (by simpa using hi)]
  ·rw [if_neg (fun h=>hi (hlt i h)),if_neg (by simpa using hi)]
 refine(hp.filterMap _).trans ?_
 have e:(List.range L.length).filterMap (fun i=>L[i]?.map (·.1))=L.map (·.1):=by
  have e1:(List.range L.length).filterMap (fun i=>L[i]?.map (·.1))=((List.range L.length).filterMap (fun i=>L[i]?)).map (·.1):=(by rw [List.map_filterMap]);rw [e1]
  congr 1
  exact vh L
 rw [e]
theorem Rb.put{w w':World}{b1 bb:Nat}{L:List (Sg×Int)}{p:Pt}{seen:List Nat}{st:Option (Sg×Rat)}(hB:Rb w w' b1 bb (bb+2) L p seen st)(hle:w.heap.size<=bb)(s:Sg)(y:Rat) :
  Rb w ((((w'.setCell ⟨bb+1,0,none⟩ (S (R s.a.x))).setCell ⟨bb+1,1,none⟩ (S (R s.a.y))).setCell ⟨bb+1,2,none⟩ (S (R s.b.x))).setCell ⟨bb+1,3,none⟩ (S (R s.b.y))) b1 bb (bb+2) L p seen (some (s,y)):=by
 obtain⟨c0,c1,c2,c3,hc⟩:=ZK st;have hb:=hB.best;rw [hc]at hb
 have far:∀(X:World) (o:Nat) (v:Value) (q:Nat),q≠bb+1→(X.setCell ⟨bb+1,o,none⟩ v).heap[q]?=X.heap[q]?:=by intro X o v q hq;simp only [World.setCell,Array.getElem?_modify];rw [if_neg (by omega)]
 refine⟨(((hB.ext.setCell (p:=⟨bb+1,0,none⟩) (by simp;omega) _).setCell (p:=⟨bb+1,1,none⟩) (by simp;omega) _).setCell (p:=⟨bb+1,2,none⟩) (by simp;omega) _).setCell (p:=⟨bb+1,3,none⟩) (by simp;omega) _,?_,P1 _ _ _ _ hb,hB.iter.keep ?_⟩
 ·rw [far _ _ _ _ (by omega),far _ _ _ _ (by omega),far _ _ _ _ (by omega),far _ _ _ _ (by omega)];exact hB.box
 ·rw [far _ _ _ _ (by omega),far _ _ _ _ (by omega),far _ _ _ _ (by omega),far _ _ _ _ (by omega)]
theorem AcG{B:Nat}{w:World}{rn b1 b2:Nat}{L:List (Sg×Int)}{E:List (Pt×Value×Nat)}{R0:List (Pt×List Pt)}(h:Bw B w rn b1 b2 L E R0)(p:Pt){k:Nat}(hL:∀e∈L,Ex k e.1)(hp:Ar k p)(hk:0<k)(hk2:k<=200)(hw:Am w) :
  Calls Tryz.prog 235 #[.pointer (some ⟨rn,0,none⟩),Ak p] w fun e w'=>∃l:List Sg,l.Perm (L.map (·.1))/\e=.returned (.tuple #[Vf (Dn p l),.bool (Dn p l).isSome])/\Aa w w':=by
 have hE:=((Aa.refl w).alloc (.cells #[S (R p.x),S (R p.y)] 92)).alloc (.cells #[S [],S [],S [],S []] 155);have hb1:=(Below.heap_alloc (w.alloc (.cells #[S (R p.x),S (R p.y)] 92)) (.cells #[S [],S [],S [],S []] 155) w.heap.size (by simp)).trans (AqJ w (.cells #[S (R p.x),S (R p.y)] 92));have hb2:=AqJ (w.alloc (.cells #[S (R p.x),S (R p.y)] 92)) (.cells #[S [],S [],S [],S []] 155);rw [AqR]at hb2;have hN:=h.ext hE;unfold Ak;go_enter Tryz.func235,Tryz.ntmps235
 go_upto_region 2 with fail
 rw [show (⟨#[]⟩:ByteArray)=⟨([]:Bs).toArray⟩from rfl];have hsz:((w.alloc (.cells #[S (R p.x),S (R p.y)] 92)).alloc (.cells #[S [],S [],S [],S []] 155)).heap.size=w.heap.size+2:=(by simp);generalize (w.alloc (.cells #[S (R p.x),S (R p.y)] 92)).alloc (.cells #[S [],S [],S [],S []] 155)=V at *;obtain⟨bb,Br⟩:=AqG w.heap.size;have hle:w.heap.size<=bb:=(by omega);have Fl:bb<=w.heap.size:=(by omega);rw [←Br]at hb1 hb2 hsz ⊢;clear Br;have n1:=Ab (o:=0) hN.cell rfl;have hrg:=CC.range (enc:=As) (E:=stamp L) (t:=131) Tryz.underlying131 (W:=V) (b:=b1) (by rw [D4];exact hN.left);obtain⟨hr1,hr2⟩:=hrg;rw [hsz]at hr1 hr2;have hEI:=hE.alloc (.mapIter (some b1) (stamp L).length #[] (stamp L).length);have SH:=(Below.heap_alloc V (.mapIter (some b1) (stamp L).length #[] (stamp L).length) bb (by omega)).trans hb1;have dO:=(Below.heap_alloc V (.mapIter (some b1) (stamp L).length #[] (stamp L).length) (bb+1) (by omega)).trans hb2;clear hb1 hb2
 go_upto_region 3 with fail
 generalize V.alloc (.mapIter (some b1) (stamp L).length #[] (stamp L).length)=V2 at *
 go_loopw [5,6] (fun f hi wr=>∃(seen:List Nat) (st:Option (Sg×Rat)),f=.bool st.isSome/\hi=eY st/\Rb w wr b1 bb (bb+2) L p seen st/\st=Dn p (seen.filterMap (fun i=>L[i]?.map (·.1)))/\(∀x,st=some x→Ex k x.1/\x.2=BG x.1 p.x)) (fun _ _ wr=>L.length-(wr.iterSeen (bb+2)).size)
 case atStart=>exact⟨[],none,rfl,rfl,⟨hEI,SH,dO,hr2⟩,rfl,by simp⟩
 case round=>
  obtain⟨seen,st,rfl,rfl,hB,hst,Js⟩:=hrel;have hb0:=(hB.ext.block b1 (AqI h.left)).trans h.left;rw [←D4]at hb0;have G8:=AqI h.left;obtain⟨c0,c1,c2,c3,hc⟩:=ZK st;have I0:=hB.best;rw [hc]at I0
  rcases CC.next As hB.iter hb0 (mS L) (by omega) 0 with⟨hlen,hrun⟩|⟨i,hi,GA,W1,Gd,hG1,hs1,hrun,hen⟩
  ·have y0:=AK (o:=0) I0;have y1:=AK (o:=1) I0;have y2:=AK (o:=2) I0;have y3:=AK (o:=3) I0;have z0:=Ab (o:=0) I0 rfl;have z1:=Ab (o:=1) I0 rfl;have z2:=Ab (o:=2) I0 rfl;have z3:=Ab (o:=3) I0 rfl;have hq:=P1 (S c0) (S c1) (S c2) (S c3) I0;have q0:=Ab (o:=0) hq rfl;have q1:=Ab (o:=1) hq rfl;have q2:=Ab (o:=2) hq rfl;have q3:=Ab (o:=3) hq rfl;have hP:=xk L hB.iter.nd hB.iter.lt hlen;have hX:=hB.ext;rw [hst]at hc;have hV:Vf (Dn p (seen.filterMap (fun i=>L[i]?.map (·.1))))=.agg #[S c0,S c1,S c2,S c3]:=(by unfold Vf;rw [hc]);obtain⟨fb,hfb⟩:=AqG st.isSome;have eJ:=hfb;rw [hst]at eJ;rw [←hfb];clear hq I0 hB hc hfb Js hst;go_wp2;refine bodyPost_ret (v:=.tuple #[.agg #[S c0,S c1,S c2,S c3],.bool fb]) (by simp [results,Tryz.results235,go_sem,q0,q1,q2,q3,eJ])  rfl ?_;exact⟨_,hP,by rw [hV,eJ],(((hX.setCell (p:=⟨bb+1,0,none⟩) (by simp;omega) _).setCell (p:=⟨bb+1,1,none⟩) (by simp;omega) _).setCell (p:=⟨bb+1,2,none⟩) (by simp;omega) _).setCell (p:=⟨bb+1,3,none⟩) (by simp;omega) _⟩
  ·have Lv:i<L.length:=(by rw [D4]at hi;exact hi);rw [Yu,mU]at hrun hen;have hsk:Ex k (L[i]).1:=hL _ (AqL Lv)
   have hstep:Dn p ((seen ++ [i]).filterMap (fun i=>L[i]?.map (·.1)))=Iq p st (L[i]).1:=by rw [List.filterMap_append,hst];simp only [List.filterMap_cons,List.filterMap_nil,AqP Lv,Option.map_some];rw [rH]
   have hlen':seen.length<L.length:=by
    have h2:(i::seen) ⊆ List.range L.length:=by
     intro j hj
     rcases List.mem_cons.1 hj with rfl|hj
     ·simpa using Lv
     ·have:=hB.iter.lt j hj;rw [D4]at this;simpa using this
    have:=(List.nodup_cons.2 ⟨GA,hB.iter.nd⟩).length_le_of_subset h2;simp at this;omega
   have Dy:=EO hB.iter;have X1:Aa w W1:=MB hB.ext hG1 (by omega);have rQ:=(hG1.block bb (AqI hB.box) (by simp)).trans hB.box;have rI:=(hG1.block (bb+1) (AqI hB.best) (by simp)).trans hB.best;have G7:=hen W1 rfl rfl;obtain⟨s,hs⟩:=AqG ((L[i]).1);obtain⟨z,hz⟩:=AqG ((L[i]).2);rw [←hs,←hz]at G7 hrun;rw [←hs]at hsk hstep;have EF:=AqJ W1 (.cells #[S (R s.a.x),S (R s.a.y),S (R s.b.x),S (R s.b.y)] 155);have E3:=(Aa.refl W1).alloc (.cells #[S (R s.a.x),S (R s.a.y),S (R s.b.x),S (R s.b.y)] 155)
   have KEEP:∀w',Aa (W1.alloc (.cells #[S (R s.a.x),S (R s.a.y),S (R s.b.x),S (R s.b.y)] 155)) w'→Rb w w' b1 bb (bb+2) L p (seen ++ [i]) st:=fun w' hx=>
    have hy:=E3.trans hx
    ⟨X1.trans hy,(hy.block _ (AqI rQ)).trans rQ,(hy.block _ (AqI rI)).trans rI,Gd.keep (hy.block _ (AqI Gd.it))⟩
   clear hen hs hz I0 hb0 hG1 hr1 hr2 hB hN;unfold As at G7 hrun
   go_upto_region 5 with fail
   unfold S at EF E3 KEEP;rw [hs1]at EF;generalize (W1.alloc (.cells #[.string ⟨(R s.a.x).toArray⟩,.string ⟨(R s.a.y).toArray⟩,.string ⟨(R s.b.x).toArray⟩,.string ⟨(R s.b.y).toArray⟩] 155))=V3 at *;obtain⟨bs,Fh⟩:=AqG wr.heap.size;rw [←Fh]at EF ⊢;clear hrun G7 Fh hs1 hst;have okV:=hw.ext (X1.trans E3);have B0:=(KEEP V3 (Aa.refl _)).box
   have F:∀w',Aa V3 w'→(w'.cell? ⟨bb,0,none⟩=some (S (R p.x))/\w'.cell? ⟨bb,1,none⟩=some (S (R p.y))/\w'.cell? ⟨bs,0,none⟩=some (S (R s.a.x))/\w'.cell? ⟨bs,1,none⟩=some (S (R s.a.y))/\w'.cell? ⟨bs,2,none⟩=some (S (R s.b.x))/\w'.cell? ⟨bs,3,none⟩=some (S (R s.b.y))):=fun w' h=>⟨h.cellS (Ab B0 rfl),h.cellS (Ab B0 rfl),h.cellS (Ab EF rfl),h.cellS (Ab EF rfl),h.cellS (Ab EF rfl),h.cellS (Ab EF rfl)⟩
   clear B0 EF;have cA:=J0 s.a.x p.x (a:=k) (b:=k) ⟨hsk.a.x,hp.x,hk,hk,by omega⟩;have cB:=J0 s.b.x p.x (a:=k) (b:=k) ⟨hsk.b.x,hp.x,hk,hk,by omega⟩
   have Ck:Iq p st s=if 0<=AU s.a.x p.x then st else if AU s.b.x p.x<0 then st else if 0<=AU (BG s p.x) p.y then st else UZ p st s:=AcF p st s
   obtain⟨xa,AD⟩:=AqG (AU s.a.x p.x);obtain⟨xb,hxb⟩:=AqG (AU s.b.x p.x);rw [←AD]at cA Ck;rw [←hxb]at cB Ck;obtain⟨f1,f2,f3,f4,f5,f6⟩:=F V3 (Aa.refl _);(go_wp2_with fail);(with_reducible refine(cA _ okV).mono ?_);rintro e w1 ⟨rfl,hx1⟩;clear f1 f2 f3 f4 f5 f6 cA;obtain⟨f1,f2,f3,f4,f5,f6⟩:=F w1 hx1;by_cases a1:0<=xa
   ·have d1:decide (0<=xa)=true:=decide_eq_true a1;have hb1:Iq p st s=st:=(by rw [Ck,if_pos a1]);clear Ck cB F;go_wp2;go_roundw
    case rel=>exact⟨seen ++ [i],st,rfl,rfl,KEEP _ hx1,by rw [hstep];exact(hb1).symm,Js⟩
    case measure=>rw [Dy,EO (KEEP _ hx1).iter,List.length_append,List.length_singleton];omega
   have d1:decide (0<=xa)=false:=decide_eq_false a1;rw [if_neg a1]at Ck;(go_wp2_with fail);(with_reducible refine(cB _ (okV.ext hx1)).mono ?_);rintro e w2 ⟨rfl,hx2⟩;replace hx2:=hx1.trans hx2;clear f1 f2 f3 f4 f5 f6 cB hx1;obtain⟨f1,f2,f3,f4,f5,f6⟩:=F w2 hx2;by_cases a2:xb<0
   ·have d2:decide (xb<0)=true:=decide_eq_true a2;have hb1:Iq p st s=st:=(by rw [Ck,if_pos a2]);clear Ck F;go_wp2;go_roundw
    case rel=>exact⟨seen ++ [i],st,rfl,rfl,KEEP _ hx2,by rw [hstep];exact(hb1).symm,Js⟩
    case measure=>rw [Dy,EO (KEEP _ hx2).iter,List.length_append,List.length_singleton];omega
   have d2:decide (xb<0)=false:=decide_eq_false a2;rw [if_neg a2]at Ck
   have h0:s.b.x≠s.a.x:=by have q1:=Vj s.a.x p.x;have q2:=Vj s.b.x p.x;rw [←AD]at q1;rw [←hxb]at q2;have q3:s.a.x<p.x:=q1.1 (by omega);have q4:¬s.b.x<p.x:=fun h=>a2 (q2.2 h);intro e;rw [e]at q4;exact q4 q3
   have ch:=AgP s p.x hsk hp.x hk (by omega) h0;unfold As at ch;have iT:=yy hsk hp.x;obtain⟨y,hy⟩:=AqG (BG s p.x);rw [←hy]at ch iT Ck;have cC:=J0 y p.y (a:=7*k+5) (b:=k) ⟨iT,hp.y,by omega,hk,by omega⟩;obtain⟨xc,Ns⟩:=AqG (AU y p.y);rw [←Ns]at cC Ck;have HY:=AqH hy;clear AD hxb Ns h0 hy;(go_wp2_with fail);(with_reducible refine(ch _ (okV.ext hx2)).mono ?_);rintro e w3 ⟨rfl,hx3⟩;replace hx3:=hx2.trans hx3;clear f1 f2 f3 f4 f5 f6 ch hx2;obtain⟨f1,f2,f3,f4,f5,f6⟩:=F w3 hx3;(go_wp2_with fail);(with_reducible refine(cC _ (okV.ext hx3)).mono ?_);rintro e w4 ⟨rfl,Ai⟩;replace Ai:=hx3.trans Ai;clear f1 f2 f3 f4 f5 f6 cC hx3;obtain⟨f1,f2,f3,f4,f5,f6⟩:=F w4 Ai;by_cases a3:0<=xc
   ·have d3:decide (0<=xc)=true:=decide_eq_true a3;have hb1:Iq p st s=st:=(by rw [Ck,if_pos a3]);clear Ck F;go_wp2;go_roundw
    case rel=>exact⟨seen ++ [i],st,rfl,rfl,KEEP _ Ai,by rw [hstep];exact hb1.symm,Js⟩
    case measure=>rw [Dy,EO (KEEP _ Ai).iter,List.length_append,List.length_singleton];omega
   have d3:decide (0<=xc)=false:=decide_eq_false a3;rw [if_neg a3]at Ck;have K4:=KEEP w4 Ai
   cases st with
   | none=>
    have L6:UZ p none s=some (s,y):=(by rw [HY.out];rfl);rw [L6]at Ck;have y0:=AK (o:=0) K4.best;have y1:=AK (o:=1) K4.best;have y2:=AK (o:=2) K4.best;have y3:=AK (o:=3) K4.best;have z0:=Ab (o:=0) K4.best rfl;have z1:=Ab (o:=1) K4.best rfl;have z2:=Ab (o:=2) K4.best rfl;have z3:=Ab (o:=3) K4.best rfl;have K5:=K4.put hle s y;unfold eY;clear K4 F KEEP L6;go_wp2;go_roundw
    case rel=>exact⟨seen ++ [i],some (s,y),rfl,rfl,K5,by rw [hstep];exact Ck.symm,by rintro x hx;simp only [AqO]at hx;rw [←hx];exact⟨hsk,HY.out⟩⟩
    case measure=>rw [Dy,EO K5.iter,List.length_append,List.length_singleton];omega
   | some bh=>
    obtain⟨b,hh⟩:=bh;obtain⟨dW,eX⟩:=Js _ rfl;simp only at dW eX;have ax:Sz (7*k+5) hh:=(by rw [eX];exact yy dW hp.x);have cD:=J0 y hh (a:=7*k+5) (b:=7*k+5) ⟨iT,ax,by omega,by omega,by omega⟩
    have L6:UZ p (some (b,hh)) s=if AU y hh=0 then (if 0<AH (Al s.b s.a b.a)then some (s,y)else some (b,hh))else if 0<AU y hh then some (s,y)else some (b,hh):=by rw [HY.out];rfl
    rw [L6]at Ck;obtain⟨xd,LE⟩:=AqG (AU y hh);rw [←LE]at cD Ck;clear LE L6 eX ax hc;clear K4;unfold eY;(go_wp2_with fail);(with_reducible refine(cD _ (okV.ext Ai)).mono ?_);rintro e w5 ⟨rfl,Ae⟩;replace Ae:=Ai.trans Ae;clear f1 f2 f3 f4 f5 f6 cD Ai;obtain⟨f1,f2,f3,f4,f5,f6⟩:=F w5 Ae;have K5:=KEEP w5 Ae;by_cases a4:xd=0
    ·subst a4;rw [if_pos rfl]at Ck;have cE:=LQ s.b s.a b.a hsk.b hsk.a dW.a hk (by omega);unfold Ak at cE;obtain⟨xe,Qu⟩:=AqG (AH (Al s.b s.a b.a));rw [←Qu]at cE Ck;clear Qu;have z0:w5.cell? ⟨bb+1,0,none⟩=some (S (R b.a.x)):=Ab (o:=0) K5.best rfl;have z1:w5.cell? ⟨bb+1,1,none⟩=some (S (R b.a.y)):=Ab (o:=1) K5.best rfl;clear K5;(go_wp2_with fail);(with_reducible refine(cE _ (okV.ext Ae)).mono ?_);rintro e w6 ⟨rfl,Ay⟩;replace Ay:=Ae.trans Ay;clear f1 f2 f3 f4 f5 f6 cE Ae z0 z1;obtain⟨f1,f2,f3,f4,f5,f6⟩:=F w6 Ay;have K6:=KEEP w6 Ay;by_cases a5:0<xe
     ·have d5:decide (0<xe)=true:=decide_eq_true a5;rw [if_pos a5]at Ck;have y0:=AK (o:=0) K6.best;have y1:=AK (o:=1) K6.best;have y2:=AK (o:=2) K6.best;have y3:=AK (o:=3) K6.best;have z0:=Ab (o:=0) K6.best rfl;have z1:=Ab (o:=1) K6.best rfl;have z2:=Ab (o:=2) K6.best rfl;have z3:=Ab (o:=3) K6.best rfl;have K9:=K6.put hle s y;clear K6 F KEEP;go_wp2;go_roundw
      case rel=>exact⟨seen ++ [i],some (s,y),rfl,rfl,K9,by rw [hstep];exact Ck.symm,by rintro x hx;simp only [AqO]at hx;rw [←hx];exact⟨hsk,HY.out⟩⟩
      case measure=>rw [Dy,EO K9.iter,List.length_append,List.length_singleton];omega
     ·have d5:decide (0<xe)=false:=decide_eq_false a5;rw [if_neg a5]at Ck;go_wp2;go_roundw
      case rel=>exact⟨seen ++ [i],some (b,hh),rfl,rfl,K6,by rw [hstep];exact Ck.symm,Js⟩
      case measure=>rw [Dy,EO K6.iter,List.length_append,List.length_singleton];omega
    ·have d4:decide (xd=0)=false:=decide_eq_false a4;have d4':(xd == 0)=false:=(by simpa using a4);rw [if_neg a4]at Ck;by_cases a5:0<xd
     ·have d5:decide (0<xd)=true:=decide_eq_true a5;rw [if_pos a5]at Ck;have y0:=AK (o:=0) K5.best;have y1:=AK (o:=1) K5.best;have y2:=AK (o:=2) K5.best;have y3:=AK (o:=3) K5.best;have z0:=Ab (o:=0) K5.best rfl;have z1:=Ab (o:=1) K5.best rfl;have z2:=Ab (o:=2) K5.best rfl;have z3:=Ab (o:=3) K5.best rfl;have K9:=K5.put hle s y;clear K5 F KEEP;go_wp2;go_roundw
      case rel=>exact⟨seen ++ [i],some (s,y),rfl,rfl,K9,by rw [hstep];exact Ck.symm,by rintro x hx;simp only [AqO]at hx;rw [←hx];exact⟨hsk,HY.out⟩⟩
      case measure=>rw [Dy,EO K9.iter,List.length_append,List.length_singleton];omega
     ·have d5:decide (0<xd)=false:=decide_eq_false a5;rw [if_neg a5]at Ck;go_wp2;go_roundw
      case rel=>exact⟨seen ++ [i],some (b,hh),rfl,rfl,K5,by rw [hstep];exact Ck.symm,Js⟩
      case measure=>rw [Dy,EO K5.iter,List.length_append,List.length_singleton];omega
end Go.Proofs.YtjalkoacphhgdaaGreatDoor
