/- V30: C3 QB QCA QCR QC. -/
import Derived.Test.YtbejphgbbpplbaaGreatDoorV29
import Derived.Test.YtbejphgbbpplbaaGreatDoorV24
namespace Go.Proofs.YtbejphgbbpplbaaGreatDoor
open Go.RowKit Kl
theorem CC{K:Nat→Prop}{W W':World}{B:Nat}{e:TypeId}{s n:Nat}{v:Value}{xs:List Value}(h:W.ownsRow B e s v n xs)(hb:Au K W W')(hK:∀k,v.ownBlock=some k→¬K k):W'.ownsRow B e s v n xs:=by
 refine⟨h.1,?_⟩
 rcases h.2 with h'|⟨g,cap,cur,rfl,hg,hgb,h4⟩
 ·exact .inl h'
 ·exact .inr ⟨g,cap,cur,rfl,hg,hb.cells hgb (hK g rfl),h4⟩
theorem iz{W:World}{B:Nat}{e:TypeId}{s n:Nat}{v:Value}{xs:List Value}(h:W.ownsRow B e s v n xs){j:Nat}{o:Obj}(hj:W.heap[j]?=some o)(hno:∀cur,o≠.cells cur e (0,0)):∀k,v.ownBlock=some k→k≠j:=by
 intro k hk e;subst e
 rcases ownsRow_ne h hj hno with h1|h1
 ·rw [h1]at hk;cases hk
 ·exact h1 hk
def GE(B:Nat)(W:World)(out:Value)(C:List (List Sg)):Prop:=
 ∃vs,W.ownsRow B 160 1 out C.length vs/\∀j (h:j<C.length),∃v,vs[j]?=some v/\W.ownsRow B 155 4 v C[j].length (BN C[j])
theorem GE.keep{K:Nat→Prop}{W W':World}{B:Nat}{out:Value}{C:List (List Sg)}(h:GE B W out C)(hb:Au K W W')(hK:∀k,k<W.heap.size→K k→∀cs e,W.heap[k]?≠some (.cells cs e (0,0))):GE B W' out C:=by
 obtain⟨vs,ho,hr⟩:=h
 have main:∀{e:TypeId} {s n:Nat} {v:Value} {xs:List Value},W.ownsRow B e s v n xs→W'.ownsRow B e s v n xs:=by
  intro e s n v xs h;refine CC h hb ?_;intro k hk hKk
  rcases h.2 with⟨h',_⟩|⟨g,cap,cur,h',_,hgb,_⟩
  ·rw [h']at hk;cases hk
  ·rw [h']at hk;simp only [Value.ownBlock,Anb]at hk;subst hk;exact hK g (AmV hgb) hKk _ _ hgb
 exact⟨vs,main ho,fun j hj=>by obtain⟨v,h1,h2⟩:=hr j hj;exact⟨v,h1,main h2⟩⟩
theorem GE.nil(B:Nat)(W:World):GE B W (.slice none 0 0) []:=⟨[],⟨rfl,.inl ⟨rfl,rfl⟩⟩,fun j h=>by simp at h⟩
theorem AhC{W W':World}{B:Nat}{out out' cv:Value}{C:List (List Sg)}{c:List Sg}{vs:List Value}(ho:W.ownsRow B 160 1 out C.length vs)(hr:∀j (h:j<C.length),∃v,vs[j]?=some v/\W.ownsRow B 155 4 v C[j].length (BN C[j]))
  (hc:W.ownsRow B 155 4 cv c.length (BN c)) (hg:W.grownBy W' out.ownBlock) (VJ:W'.ownsRow B 160 1 out' (C.length+1) (vs ++ [cv])):GE B W' out' (C ++ [c]):=by
 have hne:155≠160:=by decide
 have main:∀{n:Nat} {v:Value} {xs:List Value},W.ownsRow B 155 4 v n xs→W'.ownsRow B 155 4 v n xs:=by
  intro n v xs h;refine h.kept hg ?_
  rcases ho.2 with⟨h',_⟩|⟨g,cap,cur,h',_,hgb,_⟩
  ·rw [h']
   cases v.ownBlock with
   | none=>exact .inl rfl
   | some k=>exact .inr (by simp [Value.ownBlock])
  ·rcases ownsRow_ne h hgb (fun cur e=>hne (Obj.cells.inj e).2.1.symm)with h1|h1
   ·exact .inl h1
   ·right;rw [h'];exact h1
 have hl:vs.length=C.length:=(by have:=ho.1;omega);refine⟨vs ++ [cv],by rw [List.length_append];exact VJ,fun j hj=>?_⟩;by_cases AV:j<C.length
 ·obtain⟨v,h1,h2⟩:=hr j AV;refine⟨v,by rw [List.getElem?_append_left (by omega)];exact h1,?_⟩;rw [List.getElem_append_left AV];exact main h2
 ·have:j=C.length:=(by simp at hj;omega);subst this;refine⟨cv,by rw [List.getElem?_append_right (by omega)];simp [hl],?_⟩;rw [List.getElem_append_right (AmX _)];simp only [Nat.sub_self,List.getElem_cons_zero];exact main hc
def Ya(W:World)(v:Value)(l:List Sg):Prop:=∃A c,v=.slice A l.length c/\Ae W A (BN l)/\l.length<=c/\c<=9223372036854775807
theorem Ya.ext{W W':World}{v:Value}{l:List Sg}(h:Ya W v l)(hx:Aa W W'):Ya W' v l:=by
 obtain⟨A,c,e,hr,h1,h2⟩:=h;exact⟨A,c,e,hr.ext hx,h1,h2⟩
structure L8(W:World)(A:Option Addr)(cap:Nat)(C:List (List Sg)):Prop where
 cap1:C.length<=cap
 cap2:cap<=9223372036854775807
 row:∀j (h:j<C.length),∃b o A' c',A=some ⟨b,o,none⟩/\W.cell? ⟨b,o+j,none⟩=some (.slice A' C[j].length c')/\Ae W A' (BN C[j])/\C[j].length<=c'/\c'<=9223372036854775807
theorem L8.ext{W W':World}{A:Option Addr}{cap:Nat}{C:List (List Sg)}(h:L8 W A cap C)(hx:Aa W W'):L8 W' A cap C:=
 ⟨h.cap1,h.cap2,fun j hj=>by
  obtain⟨b,o,A',c',h1,h2,h3,h4,h5⟩:=h.row j hj
  exact⟨b,o,A',c',h1,hx.cellS h2,h3.ext hx,h4,h5⟩⟩
theorem GE.cycs{B:Nat}{W:World}{out:Value}{C:List (List Sg)}(h:GE B W out C):∃A cap,out=.slice A C.length cap/\L8 W A cap C:=by
 obtain⟨vs,ho,hr⟩:=h;obtain⟨A,cap,he,AO,h1,h2⟩:=Ae.of_own' (by omega) ho;refine⟨A,cap,he,h1,h2,fun j hj=>?_⟩;have hl:vs.length=C.length:=(by have:=ho.1;omega);obtain⟨b,o,e,hc⟩:=AO.ad (by omega);obtain⟨v,g1,g2⟩:=hr j hj;obtain⟨A',c',e',r1,r2,r3⟩:=Ae.of_own' (by omega) g2;have:=hc j (by omega);rw [Anc (by omega),Anb]at g1;rw [g1,e']at this;exact⟨b,o,A',c',e,this,r1,r2,r3⟩
structure Hj(w5 wr:World)(bu bs:Nat)(cv:Value)(U:List Sg)(s:Sg)(c:List Sg):Prop where
 used:D6 wr bu U
 box:wr.heap[bs]?=some (.cells #[S (R s.a.x),S (R s.a.y),S (R s.b.x),S (R s.b.y)] 155)
 row:wr.ownsRow w5.heap.size 155 4 cv c.length (BN c)
 but:Au (fun k=>k=bu∨k=bs) w5 wr
def eO(w:World)(b:Nat):Nat:=match w.heap[b]? with|some (.map es _)=>es.size|_=>0
theorem D6.size{W:World}{b:Nat}{U:List Sg}(h:D6 W b U):eO W b=U.length:=by
 unfold D6 at h;unfold eO;rw [h];simp [Aw,Ji,It]
theorem D6.far{W W':World}{b:Nat}{U:List Sg}(h:D6 W b U){row:Option Nat}(hg:W.grownBy W' row)(hr:row≠some b):D6 W' b U:=(hg.block b (AmV h) (fun e=>hr e.symm)).trans h
theorem ja{W:World}{B:Nat}{e:TypeId}{s n:Nat}{v:Value}{xs:List Value}(h:W.ownsRow B e s v n xs){b:Nat}(hb:b<B):v.ownBlock≠some b:=by
 intro e;have:=(h.lt b e).1;omega
theorem WL{W:World}{B:Nat}{e:TypeId}{s n:Nat}{v:Value}{xs:List Value}(h:W.ownsRow B e s v n xs){b:Nat}{es:Array MapEntry}{c:Nat}(hb:W.heap[b]?=some (.map es c)):v.ownBlock≠some b:=fun e=>iz h hb (fun _ e=>by cases e) b e rfl
theorem iu{W W':World}{B:Nat}{e:TypeId}{s n:Nat}{v:Value}{xs:List Value}(h:W.ownsRow B e s v n xs){b:Nat}(hg:W.grownBy W' (some b))(hne:v.ownBlock≠some b):W'.ownsRow B e s v n xs:=h.kept hg (.inr hne)
theorem Hj.put{w5 wr:World}{bu bs:Nat}{cv:Value}{U:List Sg}{s:Sg}{c:List Sg}(h:Hj w5 wr bu bs cv U s c)(hne:bu≠bs)(hno:U.any (AK s)=false) :
  ∃W',(Instr.mapUpdate 285 (.map (some bu)) (As s) (.bool true)).run Tryz.prog wr=.ok () W'/\Hj w5 W' bu bs cv (U ++ [s]) s c:=by
 obtain⟨W',h1,h2,h3,h4⟩:=h.used.put s hno;refine⟨W',h1,h2,?_,iu h.row h3 (WL h.row h.used),h.but.grown h3 (fun k e=>by cases e;exact .inl (.inl rfl))⟩;exact(h3.block bs (AmV h.box) (by simp;exact fun e=>hne e.symm)).trans h.box
theorem Hj.app{w5 wr W':World}{bu bs:Nat}{cv pE:Value}{U:List Sg}{s t:Sg}{c:List Sg}(h:Hj w5 wr bu bs cv U s c)(hs:bs<w5.heap.size)(hg:(wr.alloc (.cells #[S (R t.a.x),S (R t.a.y),S (R t.b.x),S (R t.b.y)] 155)).grownBy W' cv.ownBlock)
  (ho:W'.ownsRow w5.heap.size 155 4 pE (c.length+1) (BN (c ++ [t]))):Hj w5 W' bu bs pE U s (c ++ [t]):=by
 have hx:=(Aa.refl wr).alloc (.cells #[S (R t.a.x),S (R t.a.y),S (R t.b.x),S (R t.b.y)] 155);have hr:=h.row.kept (Gj hx none) (by cases cv.ownBlock with|none=>exact .inl rfl|some k=>exact .inr (by simp));have hu:D6 (wr.alloc (.cells #[S (R t.a.x),S (R t.a.y),S (R t.b.x),S (R t.b.y)] 155)) bu U:=(hx.block bu (AmV h.used)).trans h.used;have hb:=(hx.block bs (AmV h.box)).trans h.box;refine⟨hu.far hg (WL hr hu),(hg.block bs (AmV hb) (fun e=>ja hr hs e.symm)).trans hb,by simpa using ho,?_⟩;exact(h.but.ext hx).own hg hr (AmX _)
theorem Hj.nxt{w5 wr W':World}{bu bs:Nat}{cv:Value}{U:List Sg}{s:Sg}{c:List Sg}(h:Hj w5 wr bu bs cv U s c)(hx:Aa wr W')(hne:bu≠bs)(hs:bs<w5.heap.size)(t:Sg) :
  Hj w5 ((((W'.setCell ⟨bs,0,none⟩ (S (R t.a.x))).setCell ⟨bs,1,none⟩ (S (R t.a.y))).setCell ⟨bs,2,none⟩ (S (R t.b.x))).setCell ⟨bs,3,none⟩ (S (R t.b.y))) bu bs cv U t c:=by
 have hb:=(hx.block bs (AmV h.box)).trans h.box;have hr:=h.row.kept (Gj hx none) (by cases cv.ownBlock with|none=>exact .inl rfl|some k=>exact .inr (by simp));have hu:D6 W' bu U:=(hx.block bu (AmV h.used)).trans h.used;have far:∀(X:World) (o:Nat) (v:Value) (q:Nat),q≠bs→(X.setCell ⟨bs,o,none⟩ v).heap[q]?=X.heap[q]?:=fun X o v q hq=>Below.heap_setCell _ _ _ _ hq;have Bl:=((((h.but.ext hx).setCell (p:=⟨bs,0,none⟩) (.inl (.inr rfl)) (S (R t.a.x))).setCell (p:=⟨bs,1,none⟩) (.inl (.inr rfl)) (S (R t.a.y))).setCell (p:=⟨bs,2,none⟩) (.inl (.inr rfl)) (S (R t.b.x))).setCell (p:=⟨bs,3,none⟩) (.inl (.inr rfl)) (S (R t.b.y));refine⟨?_,OG _ _ _ _ hb,?_,Bl⟩
 ·unfold D6;rw [far _ _ _ _ hne,far _ _ _ _ hne,far _ _ _ _ hne,far _ _ _ _ hne];exact hu
 ·refine CC hr (K:=fun k=>k=bs) ?_ ?_
  ·exact(((((Au.refl (fun k=>k=bs) W').setCell (p:=⟨bs,0,none⟩) (.inl rfl) _).setCell (p:=⟨bs,1,none⟩) (.inl rfl) _).setCell (p:=⟨bs,2,none⟩) (.inl rfl) _).setCell (p:=⟨bs,3,none⟩) (.inl rfl) _)
  ·intro k hk e;subst e;exact ja hr hs hk
theorem nH{a b c:World}{bu bs:Nat}(hx:Aa a b)(h:Au (fun k=>k=bu∨k=bs) b c)(hs:a.heap.size<=bs):Au (fun k=>k=bu) a c:=
 ⟨h.os.trans hx.os,h.tape.trans hx.tape,h.output.trans hx.output,Ani hx.size h.size,fun k hk hn=>(h.block k (Anh hk hx.size) (by rintro(e|e);exact hn e;omega)).trans (hx.block k hk)⟩
theorem GE.alloc{B:Nat}{W:World}{out:Value}{C:List (List Sg)}(h:GE B W out C)(o:Obj):GE B (W.alloc o) out C:=
 h.keep ((Au.refl (fun _=>False) W).ext ((Aa.refl W).alloc o)) (fun _ _ h=>h.elim)
theorem Tryz.infoStr:(Tryz.prog.info? 9).map (fun i=>(i.zero,i.size,i.bytes))=some (some (S []),1,16):=by kernel_rfl
section
variable {ops : Array Oper} {rest : List Oper} {o : Oper} {a : Act} {K : Act → World → Prop} {Q : Exit → Act → World → Prop} {E : Prop}
theorem AkJ(s x:Operand)(ho:o.op=.call {callee:=.builtin .append,args:=#[s,x],argTypes:=#[23,23]})
  (wN:World) (base:Nat) (v:Value) (n:Nat) (l:List Bs) (hs:a.eval s=v) (hown:wN.ownsRow base 9 1 v n (l.map S)) (hn:n<200000) (d:Bs)
  (g:Nat) (hb:wN.heap[g]?=some (.cells #[S d] 9)) (hx:a.eval x=.slice (some ⟨g,0,none⟩) 1 1) (hbase:base<=wN.heap.size)
  (h:∀v' w',w'.ownsRow base 9 1 v' (n+1) ((l ++ [d]).map S)→(∀w0,Aa w0 wN→w0.heap.size<=base→Aa w0 w')→wN.grownBy w' v.ownBlock→K (a.put o.dst v') w') :
  o.wp Tryz.prog a wN K Q:=by
 obtain⟨i0,hi,hz0,hz1,hz2⟩:=info_parts Tryz.infoStr;refine jP s x 23 ho 9 i0 _ 1 16 1 Tryz.underlying23 hi hz0 hz1 hz2 rfl (by omega) (by omega) (by omega) wN base v n _ hs hown hn g _ hb rfl ?_ hx hbase ?_
 ·intro u hu;simp only [List.mem_cons,Anj,or_false]at hu;rw [hu];rfl
 ·intro v' w' h1 h2 h3;refine h v' w' ?_ h2 h3;rw [List.map_append];exact h1
theorem AjG(hgd:o.guard=none)(s x:Operand)(ho:o.op=.call {callee:=.builtin .append,args:=#[s,x],argTypes:=#[23,23]})
  (wN:World) (base:Nat) (v:Value) (n:Nat) (l:List Bs) (hs:a.eval s=v) (hown:wN.ownsRow base 9 1 v n (l.map S)) (hn:n<200000) (d:Bs)
  (g:Nat) (hb:wN.heap[g]?=some (.cells #[S d] 9)) (hx:a.eval x=.slice (some ⟨g,0,none⟩) 1 1) (hbase:base<=wN.heap.size)
  (h:∀v' w',w'.ownsRow base 9 1 v' (n+1) ((l ++ [d]).map S)→(∀w0,Aa w0 wN→w0.heap.size<=base→Aa w0 w')→wN.grownBy w' v.ownBlock→K (a.put o.dst v') w') :
  if Region.wanted o (yielded ops a.tmps)=true then Oper.wp Tryz.prog o a wN K Q else E:=by
 have hw:Region.wanted o (yielded ops a.tmps)=true:=(by simp [Region.wanted,hgd]);rw [if_pos hw];exact AkJ s x ho wN base v n l hs hown hn d g hb hx hbase h
end
structure Kg(wr:World)(B n bx By bM bU:Nat)(U:Option Addr)(cu:Nat)(units:List Bs)(P E F:Value)(nums:List Int)(Am:List Bs):Prop where
 cN:wr.heap[bx]?=some (.cells #[.slice (some ⟨By,0,none⟩) n n] 69)
 num:wr.ownsRow 0 3 1 (.slice (some ⟨By,0,none⟩) n n) n (zs nums)
 cM:wr.heap[bM]?=some (.cells #[P,E,F] 36)
 fac:wr.ownsRow B 9 1 F Am.length (Am.map S)
 cU:wr.heap[bU]?=some (.cells #[.slice U n cu] 23)
 uni:wr.ownsRow 0 9 1 (.slice U n cu) n (units.map S)
 uB:∀k,(Value.slice U n cu).ownBlock=some k→k<B
 lenN:nums.length=n
 lenU:units.length=n
 cu1:n<=cu
 cu2:cu<=9223372036854775807
 rng:∀z∈nums,0<=z/\z<=(Am.length:Int)
 cnt:Am.length+nums.countP (fun z=>z == 0)<=n
 txt:∀s∈Am,s∈units
theorem DW{w:World}{i j:Nat}{c1 c2:Array Value}{t1 t2:TypeId}{r1 r2:Nat×Nat}(h1:w.heap[i]?=some (.cells c1 t1 r1))(h2:w.heap[j]?=some (.cells c2 t2 r2))(hne:t1≠t2):i≠j:=by
 rintro rfl;rw [h1]at h2;simp only [Anb,Obj.cells.injEq]at h2;exact hne h2.2.1
theorem Bn{w:World}{B:Nat}{e:TypeId}{s n:Nat}{v:Value}{xs:List Value}(h:w.ownsRow B e s v n xs){j:Nat}{c:Array Value}{t:TypeId}{r:Nat×Nat}(hj:w.heap[j]?=some (.cells c t r))(hne:e≠t):v.ownBlock≠some j:=by
 intro k
 rcases h.2 with⟨h',_⟩|⟨g,cap,cur,h',_,hgb,_⟩
 ·rw [h']at k;cases k
 ·rw [h']at k;simp only [Value.ownBlock,Anb]at k;subst k;rw [hgb]at hj;simp only [Anb,Obj.cells.injEq]at hj;exact hne hj.2.1
theorem Ob{w:World}{B n b:Nat}{e:TypeId}{s:Nat}{xs:List Value}{cap:Nat}(h:w.ownsRow B e s (.slice (some ⟨b,0,none⟩) n cap) n xs):∃cur,w.heap[b]?=some (.cells cur e (0,0)):=by
 rcases h.2 with⟨h',_⟩|⟨g,cap,cur,h',_,hgb,_⟩
 ·cases h'
 ·simp only [Value.slice.injEq,Anb,Addr.mk.injEq,and_true,true_and]at h';obtain⟨rfl,-⟩:=h';exact⟨cur,hgb⟩
theorem DF{w:World}{p:Addr}{v:Value}{q:Nat}(h:q≠p.block):(w.setCell p v).heap[q]?=w.heap[q]?:=Below.heap_setCell _ _ _ _ h
theorem Yz{w:World}{b:Nat}{a0 a1 a2:Value}{t:TypeId}(v:Value)(h:w.heap[b]?=some (.cells #[a0,a1,a2] t)):(w.setCell ⟨b,2,none⟩ v).heap[b]?=some (.cells #[a0,a1,v] t):=by
 simp only [World.setCell,Array.getElem?_modify,h];simp
theorem q9(l:List Int)(m:Nat)(z:Int):(zs l).set m (.int .i64 z)=zs (l.set m z):=by simp [zs]
theorem pC:∀(l:List Int) (m:Nat) (z:Int) (h:m<l.length),l[m]=0→z≠0→(l.set m z).countP (fun z=>z == 0)+1=l.countP (fun z=>z == 0)
 | a::l,0,z,_,h0,hz=>by
  simp only [List.getElem_cons_zero]at h0;subst h0;have:(z == 0)=false:=beq_false_of_ne hz;simp [this]
 | a::l,m+1,z,h,h0,hz=>by have:=pC l m z (by simpa using h) (by simpa using h0) hz;simp only [List.set_cons_succ,List.countP_cons];omega
theorem Kg.extn{w w':World}{B n bx By bM bU:Nat}{U:Option Addr}{cu:Nat}{units:List Bs}{P E F:Value}{nums:List Int}{Am:List Bs}(h:Kg w B n bx By bM bU U cu units P E F nums Am)(hx:Aa w w'):Kg w' B n bx By bM bU U cu units P E F nums Am:=
 ⟨(hx.block _ (AmV h.cN)).trans h.cN,AH h.num hx,(hx.block _ (AmV h.cM)).trans h.cM,AH h.fac hx,(hx.block _ (AmV h.cU)).trans h.cU,AH h.uni hx,h.uB,h.lenN,h.lenU,h.cu1,h.cu2,h.rng,h.cnt,h.txt⟩
theorem Kg.step{w:World}{B n bx By bM bU:Nat}{U:Option Addr}{cu:Nat}{units:List Bs}{P E F:Value}{nums:List Int}{Am:List Bs}(h:Kg w B n bx By bM bU U cu units P E F nums Am){m:Nat}(hm:m<nums.length)(hz:nums[m]=0){s:Bs}(hs:s∈units){X:Obj}{W7:World}{F':Value}
  (hg:((w.alloc X).drew).grownBy W7 F.ownBlock) (ho:W7.ownsRow B 9 1 F' (Am.length+1) ((Am ++ [s]).map S)) :
  Kg ((W7.setCell ⟨bM,2,none⟩ F').setCell ⟨By,m,none⟩ (.int .i64 ((Am.length:Int)+1))) B n bx By bM bU U cu units P E F' (nums.set m ((Am.length:Int)+1)) (Am ++ [s])/\Au (fun k=>k=By∨k=bM∨F.ownBlock=some k) w ((W7.setCell ⟨bM,2,none⟩ F').setCell ⟨By,m,none⟩ (.int .i64 ((Am.length:Int)+1)))
  /\(W7.setCell ⟨bM,2,none⟩ F').heap[bx]?=some (.cells #[.slice (some ⟨By,0,none⟩) n n] 69)/\(W7.setCell ⟨bM,2,none⟩ F').heap[bM]?=some (.cells #[P,E,F'] 36)/\(W7.setCell ⟨bM,2,none⟩ F').ownsRow 0 3 1 (.slice (some ⟨By,0,none⟩) n n) n (zs nums):=by
 obtain⟨cn,DZ⟩:=Ob h.num;have E4:Aa w ((w.alloc X).drew):=((Aa.refl w).alloc X).drew;have n1:=DW DZ h.cM (by decide);have n2:=DW h.cN DZ (by decide);have n3:=DW h.cN h.cM (by decide);have n4:=DW h.cU DZ (by decide);have n5:=DW h.cU h.cM (by decide);have f1:=Bn h.fac DZ (by decide);have f2:=Bn h.fac h.cM (by decide);have f3:=Bn h.fac h.cN (by decide);have f4:=Bn h.fac h.cU (by decide);have g7:∀{j:Nat} {o:Obj},w.heap[j]?=some o→F.ownBlock≠some j→W7.heap[j]?=some o:=fun {j o} hj hn=>(hg.block j (Anh (AmV hj) E4.size) (fun e=>hn e.symm)).trans ((E4.block j (AmV hj)).trans hj);have EW:=g7 h.cM f2;have UL:=g7 DZ f1;have Vb:Au (fun k=>k=By∨k=bM∨F.ownBlock=some k) w W7:=((Au.refl _ w).ext E4).grown hg (fun k e=>.inl (.inr (.inr e)));have LX:=(Vb.setCell (p:=⟨bM,2,none⟩) (.inl (.inr (.inl rfl))) F').setCell (p:=⟨By,m,none⟩) (.inl (.inl rfl)) (.int .i64 ((Am.length:Int)+1))
 have o7:W7.ownsRow 0 3 1 (.slice (some ⟨By,0,none⟩) n n) n (zs nums):=(AH h.num E4).kept hg (by
  cases hF:F.ownBlock with
  | none=>exact .inr (by simp [Value.ownBlock])
  | some k=>refine .inr (fun e=>f1 ?_);rw [hF];exact e.symm)
 have o8:=CC (K:=fun k=>k=bM) o7 ((Au.refl (fun k=>k=bM) W7).setCell (p:=⟨bM,2,none⟩) (.inl rfl) F') (fun k hk e=>by simp only [Value.ownBlock,Anb]at hk;omega);have o9:=(o8.stored m (.int .i64 ((Am.length:Int)+1))).1;rw [q9]at o9;have q1:=Bn ho EW (by decide);have q2:=Bn ho UL (by decide);refine⟨⟨?_,o9,?_,?_,?_,?_,h.uB,by rw [List.length_set];exact h.lenN,h.lenU,h.cu1,h.cu2,?_,?_,?_⟩,LX,by rw [DF (by show bx≠bM;exact n3)];exact g7 h.cN f3,Yz F' EW,o8⟩
 ·rw [DF (by show bx≠By;exact n2),DF (by show bx≠bM;exact n3)];exact g7 h.cN f3
 ·rw [DF (by show bM≠By;exact fun e=>n1 e.symm)];exact Yz F' EW
 ·rw [List.length_append,List.length_singleton];refine CC (K:=fun k=>k=By∨k=bM) ho (((Au.refl (fun k=>k=By∨k=bM) W7).setCell (p:=⟨bM,2,none⟩) (.inl (.inr rfl)) F').setCell (p:=⟨By,m,none⟩) (.inl (.inl rfl)) _) ?_;rintro k hk (e|e)
  ·subst e;exact q2 hk
  ·subst e;exact q1 hk
 ·rw [DF (by show bU≠By;exact n4),DF (by show bU≠bM;exact n5)];exact g7 h.cU f4
 ·have u1:=AH h.uni E4
  have u2:=u1.kept hg (by
   cases hF:(Value.slice U n cu).ownBlock with
   | none=>exact .inl rfl
   | some k=>
    refine .inr (fun e=>?_);have h1:=h.uB k hF;have h2:=(h.fac.lt k e.symm).1
    omega)
  refine CC (K:=fun k=>k=By∨k=bM) u2 (((Au.refl (fun k=>k=By∨k=bM) W7).setCell (p:=⟨bM,2,none⟩) (.inl (.inr rfl)) F').setCell (p:=⟨By,m,none⟩) (.inl (.inl rfl)) _) ?_;rintro k hk (e|e)
  ·subst e;exact Bn h.uni DZ (by decide) hk
  ·subst e;exact Bn h.uni h.cM (by decide) hk
 ·intro z hz';rw [List.length_append,List.length_singleton]
  rcases List.mem_or_eq_of_mem_set hz' with k|k
  ·have:=h.rng z k;omega
  ·omega
 ·have h1:=pC nums m ((Am.length:Int)+1) hm hz (by omega);have h2:=h.cnt;rw [List.length_append,List.length_singleton];omega
 ·intro x hx
  rcases List.mem_append.1 hx with k|k
  ·exact h.txt x k
  ·simp only [Ank]at k;rw [k];exact hs
theorem Nb.set{n:Nat}{l:List Hf}(h:Nb n l)(k:Nat){y:Hf}(hy:y∈l):Nb n (l.set k y):=by
 intro z hz
 rcases List.mem_or_eq_of_mem_set hz with e|e
 ·exact h z e
 ·rw [e];exact h y hy
section
variable {ops : Array Oper} {rest : List Oper} {o : Oper} {a : Act} {Q : Exit → Act → World → Prop}
end
structure O6(W3 wr:World)(bM:Nat)(P:Value)(pts:List Pt):Prop where
 cM:wr.heap[bM]?=some (.cells #[P,.slice none 0 0,.slice none 0 0] 36)
 own:wr.ownsRow W3.heap.size 94 2 P pts.length (flat (Ao pts))
 but:Au (fun q=>q=bM) W3 wr
 sheet:∀p∈pts,Hl p
theorem O6.ext{W3 wr w':World}{bM:Nat}{P:Value}{pts:List Pt}(h:O6 W3 wr bM P pts)(hx:Aa wr w'):O6 W3 w' bM P pts:=
 ⟨(hx.block _ (AmV h.cM)).trans h.cM,AH h.own hx,h.but.ext hx,h.sheet⟩
theorem O6.app{W3 wr W7:World}{bM:Nat}{P P':Value}{pts:List Pt}(h:O6 W3 wr bM P pts)(GL:bM<W3.heap.size){p:Pt}(hp:Hl p){E4:World}(hE:Aa wr E4)(hg:E4.grownBy W7 P.ownBlock)(ho:W7.ownsRow W3.heap.size 94 2 P' (pts.length+1) (flat (Ao (pts ++ [p])))) :
  W7.heap[bM]?=some (.cells #[P,.slice none 0 0,.slice none 0 0] 36)/\O6 W3 (W7.setCell ⟨bM,0,none⟩ P') bM P' (pts ++ [p]):=by
 have hne:=Bn h.own h.cM (by decide);have h7:=(hg.block bM (Anh (AmV h.cM) hE.size) (fun e=>hne e.symm)).trans ((hE.block bM (AmV h.cM)).trans h.cM);have hq:=Bn ho h7 (by decide);refine⟨h7,?_,?_,?_,?_⟩
 ·simp only [World.setCell,Array.getElem?_modify,h7];simp
 ·rw [List.length_append,List.length_singleton];exact CC (K:=fun q=>q=bM) ho ((Au.refl (fun q=>q=bM) W7).setCell (p:=⟨bM,0,none⟩) (.inl rfl) P') (fun k hk e=>by subst e;exact hq hk)
 ·exact((h.but.ext hE).own hg (AH h.own hE) (AmX _)).setCell (p:=⟨bM,0,none⟩) (.inl rfl) P'
 ·intro x hx
  rcases List.mem_append.1 hx with k|k
  ·exact h.sheet x k
  ·simp only [Ank]at k;rw [k];exact hp
theorem AbU(l:List Av)(d:Av):Bt (l ++ [d])=Bt l ++ [.int .i64 d.f,.int .i64 d.t,.int .i64 d.l,.int .i64 d.r]:=by simp [Bt]
section
variable {ops : Array Oper} {rest : List Oper} {o : Oper} {a : Act} {K : Act → World → Prop} {Q : Exit → Act → World → Prop} {E : Prop}
theorem AkE(s x:Operand)(ho:o.op=.call {callee:=.builtin .append,args:=#[s,x],argTypes:=#[34,34]})
  (wN:World) (base:Nat) (v:Value) (n:Nat) (l:List Av) (hs:a.eval s=v) (hown:wN.ownsRow base 126 4 v n (Bt l)) (hn:n<200000) (d:Av)
  (g:Nat) (hb:wN.heap[g]?=some (.cells #[.int .i64 d.f,.int .i64 d.t,.int .i64 d.l,.int .i64 d.r] 126)) (hx:a.eval x=.slice (some ⟨g,0,none⟩) 1 1) (hbase:base<=wN.heap.size)
  (h:∀v' w',w'.ownsRow base 126 4 v' (n+1) (Bt (l ++ [d]))→wN.grownBy w' v.ownBlock→K (a.put o.dst v') w') :
  Oper.wp Tryz.prog o a wN K Q:=by
 obtain⟨i0,hi,hz0,hz1,hz2⟩:=info_parts Tryz.infoEd;refine jP s x 34 ho 126 i0 _ 4 32 1 Tryz.underlying34 hi hz0 hz1 hz2 rfl (by omega) (by omega) (by omega) wN base v n _ hs hown hn g _ hb rfl ?_ hx hbase ?_
 ·intro u hu;simp only [List.mem_cons,Anj,or_false]at hu
  rcases hu with rfl|rfl|rfl|rfl<;>rfl
 ·intro v' w' h1 _ h3;refine h v' w' ?_ h3;rw [AbU];exact h1
end
structure G8(W5 wr:World)(n bx By bM bU:Nat)(U:Option Addr)(cu:Nat)(units:List Bs)(P E F:Value)(nums:List Int)(Am:List Bs)(eds:List Av):Prop where
 nam:Kg wr W5.heap.size n bx By bM bU U cu units P E F nums Am
 own:wr.ownsRow W5.heap.size 126 4 E eds.length (Bt eds)
 but:Au (fun q=>q=By∨q=bM) W5 wr
theorem G8.extn{W5 wr w':World}{n bx By bM bU:Nat}{U:Option Addr}{cu:Nat}{units:List Bs}{P E F:Value}{nums:List Int}{Am:List Bs}{eds:List Av}(h:G8 W5 wr n bx By bM bU U cu units P E F nums Am eds)(hx:Aa wr w'):G8 W5 w' n bx By bM bU U cu units P E F nums Am eds:=
 ⟨h.nam.extn hx,AH h.own hx,h.but.ext hx⟩
theorem G8.name{W5 wr w':World}{n bx By bM bU:Nat}{U:Option Addr}{cu:Nat}{units:List Bs}{P E F F':Value}{nums Ct:List Int}{Am Bi:List Bs}{eds:List Av}(h:G8 W5 wr n bx By bM bU U cu units P E F nums Am eds)
  (hn:Kg w' W5.heap.size n bx By bM bU U cu units P E F' Ct Bi) (hb:Au (fun k=>k=By∨k=bM∨F.ownBlock=some k) wr w'):G8 W5 w' n bx By bM bU U cu units P E F' Ct Bi eds:=by
 obtain⟨cn,DZ⟩:=Ob h.nam.num;refine⟨hn,CC h.own hb ?_,?_⟩
 ·rintro k hk (e|e|e)
  ·subst e;exact Bn h.own DZ (by decide) hk
  ·subst e;exact Bn h.own h.nam.cM (by decide) hk
  ·rcases h.nam.fac.2 with⟨h',_⟩|⟨g,cap,cur,h',_,hgb,_⟩
   ·rw [h']at e;cases e
   ·rw [h']at e;simp only [Value.ownBlock,Anb]at e;subst e;exact Bn h.own hgb (by decide) hk
 ·refine⟨hb.os.trans h.but.os,hb.tape.trans h.but.tape,hb.output.trans h.but.output,Ani h.but.size hb.size,fun k hk IO=>?_⟩;refine(hb.block k (Anh hk h.but.size) ?_).trans (h.but.block k hk IO);rintro(e|e|e)
  ·exact IO (.inl e)
  ·exact IO (.inr e)
  ·have:=(h.nam.fac.lt k e).1;omega
theorem G8.app{W5 wr W7:World}{n bx By bM bU:Nat}{U:Option Addr}{cu:Nat}{units:List Bs}{P E E' F:Value}{nums:List Int}{Am:List Bs}{eds:List Av}(h:G8 W5 wr n bx By bM bU U cu units P E F nums Am eds)
  {d:Av} {X4:World} (hE:Aa wr X4) (hg:X4.grownBy W7 E.ownBlock) (ho:W7.ownsRow W5.heap.size 126 4 E' (eds.length+1) (Bt (eds ++ [d]))) :
  W7.heap[bM]?=some (.cells #[P,E,F] 36)/\G8 W5 (W7.setCell ⟨bM,1,none⟩ E') n bx By bM bU U cu units P E' F nums Am (eds ++ [d]):=by
 have h4:=h.extn hE;obtain⟨cn,DZ⟩:=Ob h4.nam.num;have e1:=Bn h4.own h4.nam.cM (by decide);have e2:=Bn h4.own DZ (by decide);have e3:=Bn h4.own h4.nam.cN (by decide);have e4:=Bn h4.own h4.nam.cU (by decide);have g7:∀{j:Nat} {o:Obj},X4.heap[j]?=some o→E.ownBlock≠some j→W7.heap[j]?=some o:=fun {j o} hj hn=>(hg.block j (AmV hj) (fun e=>hn e.symm)).trans hj;have h7:=g7 h4.nam.cM e1;have n1:=DW DZ h4.nam.cM (by decide);have n2:=DW h4.nam.cN h4.nam.cM (by decide);have n3:=DW h4.nam.cU h4.nam.cM (by decide);have bb:=(Au.refl (fun k=>k=bM) W7).setCell (p:=⟨bM,1,none⟩) (.inl rfl) E'
 have kp:∀{e:TypeId} {s m:Nat} {v:Value} {xs:List Value} {B:Nat},X4.ownsRow B e s v m xs→e≠126→e≠36→(W7.setCell ⟨bM,1,none⟩ E').ownsRow B e s v m xs:=by
  intro e s m v xs B hv hne EY
  have M8:W7.ownsRow B e s v m xs:=hv.kept hg (by
   cases hE:E.ownBlock with
   | none=>cases hv':v.ownBlock with
    | none=>exact .inl rfl
    | some k=>exact .inr (by simp)
   | some k=>
    refine .inr (fun e0=>?_)
    rcases h4.own.2 with⟨h',_⟩|⟨g,cap,cur,h',_,hgb,_⟩
    ·rw [h']at hE;cases hE
    ·rw [h']at hE;simp only [Value.ownBlock,Anb]at hE;subst hE
     exact Bn hv hgb hne e0)
  exact CC M8 bb (fun k hk e0=>by subst e0;exact Bn M8 h7 EY hk)
 refine⟨h7,⟨?_,kp h4.nam.num (by decide) (by decide),?_,kp h4.nam.fac (by decide) (by decide),?_,kp h4.nam.uni (by decide) (by decide),h.nam.uB,h.nam.lenN,h.nam.lenU,h.nam.cu1,h.nam.cu2,h.nam.rng,h.nam.cnt,h.nam.txt⟩,?_,?_⟩
 ·rw [DF (by show bx≠bM;exact n2)];exact g7 h4.nam.cN e3
 ·simp only [World.setCell,Array.getElem?_modify,h7];simp
 ·rw [DF (by show bU≠bM;exact n3)];exact g7 h4.nam.cU e4
 ·rw [List.length_append,List.length_singleton];exact CC ho bb (fun k hk e0=>by subst e0;exact Bn ho h7 (by decide) hk)
 ·exact(h4.but.own hg h4.own (AmX _)).setCell (p:=⟨bM,1,none⟩) (.inl (.inr rfl)) E'
structure MapAt(w:World)(n:Nat)(units:List Bs)(A B F:Option Addr)(c d g:Nat)(m:Cm)(Am:List Bs):Prop where
 cap:Jm m c d g
 pts:Ae w A (flat (Ao m.pts))
 eds:Ae w B (Bt m.eds)
 fac:Ae w F (Am.map S)
 nf:m.nf=Am.length
 le:Am.length<=n
 sheet:∀p∈m.pts,Hl p
 txt:∀s∈Am,s∈units
structure Xn(n:Nat)(A B F:Option Addr):Prop where
 a:∀x,A=some x→n<=x.block
 b:∀x,B=some x→n<=x.block
 f:∀x,F=some x→n<=x.block
theorem Xn.mono{n k:Nat}{A B F:Option Addr}(h:Xn n A B F)(hk:k<=n):Xn k A B F:=
 ⟨fun x e=>Ani hk (h.a x e),fun x e=>Ani hk (h.b x e),fun x e=>Ani hk (h.f x e)⟩
section
open Go.Shelf
theorem qw{P:Program}{o:Oper}{a:Act}{w w':World}{v:Value}{K:Act→World→Prop}{Q:Exit→Act→World→Prop}(h:(execOp a.eval o).run P w=.ok (.value v) w')(hk:K (a.put o.dst v) w'):o.wp P a w K Q:=by
 unfold Oper.wp;rw [h];exact hk
theorem AkL{P:Program}{Q:Exit→Act→World→Prop}{o:Oper}{a:Act}{w:World}{K:Act→World→Prop}{f:FuncId}{t:Nat}{y:Operand}{ts:Array TypeId}{c1 c2 c3:Value}(ho:o.op=.call {callee:=.value (.tmp t),args:=#[y],argTypes:=ts})(hen:Enters P f){v:Value}(hx:a.eval (.tmp t)=.func (.func f) #[] #[c1,c2,c3])(hy:a.eval y=v)
  {R:Ending→World→Prop} (hc:Calls P f #[v,c1,c2,c3] w R) (hR:∀e w'',R e w''→∃u,e=.returned u/\K (a.put o.dst u) w''):o.wp P a w K Q:=by
 subst hy;have hx':a.tmps[t]?.getD undef=.func (.func f) #[] #[c1,c2,c3]:=by rw [←hx];simp [Act.eval]
 have h2:(execOp a.eval o).run P w=.ok (.enter f #[a.eval y,c1,c2,c3]) w:=by unfold execOp;simp [ho,hx',resolve,invoke,Act.eval,go_sem];exact hen _ w
 unfold Oper.wp;rw [h2,Oper.upon_enter];refine hc.mono fun e w'' h=>?_;obtain⟨u,rfl,hk⟩:=hR e w'' h;exact hk
def pL(ops:Array Oper)(l:List (Nat×Nat)):Bool:=l.all fun p=>match ops[p.1]? with
 | some o=>(waits o).contains p.2
 | none=>false
theorem Ah4{ops:Array Oper}{L:List (Op×Option Nat)}(h:ops.toList.map (fun o=>(o.op,o.dst))=L){i:Nat}{o:Oper}(ho:ops[i]?=some o):L[i]?=some (o.op,o.dst):=by
 subst h;simp [ho]
def TX(d:Nat):Prop:=128<=d/\d<148
def Ajt(bM bh:Nat)(P E F:Value)(x:Hf)(r1 r2 r3 zl:Int)(vr fn:Value)(zr:Int)(Cw:Nat)(E':Value):Nat→Value
 | 0=>.pointer (some ⟨bM,1,none⟩)
 | 1=>E
 | 2=>.agg #[P,E,F]
 | 3=>.pointer (some ⟨bh,0,none⟩)
 | 4=>Ak x.a
 | 5=>.int .i64 r1
 | 6=>.agg #[P,E,F]
 | 7=>.pointer (some ⟨bh,2,none⟩)
 | 8=>Ak x.b
 | 9=>.int .i64 r2
 | 10=>.int .i64 zl
 | 11=>fn
 | 12=>vr
 | 13=>vV x
 | 14=>.int .i64 r3
 | 15=>.int .i64 zr
 | 16=>.agg #[.int .i64 r1,.int .i64 r2,.int .i64 zl,.int .i64 zr]
 | 17=>.slice (some ⟨Cw,0,none⟩) 1 1
 | 18=>E'
 | _=>.pointer (some ⟨bM,1,none⟩)
def Ah6:List (Op×Option Nat):=[
 (.fieldAddr 36 (.tmp 8) 1,some 128),(.load 34 (.tmp 128),some 129),(.load 36 (.tmp 8),some 130),(.fieldAddr 176 (.tmp 16) 0,some 131),(.load 94 (.tmp 131),some 132),
 (.call {callee:=.value (.func 198),args:=#[.tmp 130,.tmp 132],argTypes:=#[36,94]},some 133),
 (.load 36 (.tmp 8),some 134),(.fieldAddr 176 (.tmp 16) 1,some 135),(.load 94 (.tmp 135),some 136),
 (.call {callee:=.value (.func 198),args:=#[.tmp 134,.tmp 136],argTypes:=#[36,94]},some 137),
 (.move (.tmp 17),some 138),(.move (.tmp 14),some 139),(.move (.tmp 0),some 140),(.load 176 (.tmp 16),some 141),
 (.call {callee:=.value (.func 121),args:=#[.tmp 140,.tmp 141],argTypes:=#[173,176]},some 142),
 (.call {callee:=.value (.tmp 139),args:=#[.tmp 142],argTypes:=#[3]},some 143),
 (.build 126 #[(0,.tmp 133),(1,.tmp 137),(2,.tmp 138),(3,.tmp 143)],some 144),(.buildSlice 34 1 #[(0,.tmp 144)],some 145),
 (.call {callee:=.builtin .append,args:=#[.tmp 129,.tmp 145],argTypes:=#[34,34]},some 146),(.fieldAddr 36 (.tmp 8) 1,some 147),(.store 34 (.tmp 147) (.tmp 146),none)]
theorem rK(bM:Nat)(w:World):(Instr.fieldAt 36 (.pointer (some ⟨bM,0,none⟩)) 1).run Tryz.prog w=.ok (.pointer (some ⟨bM,1,none⟩)) w:=by simp [go_sem]
theorem Agk{w:World}{bM:Nat}{E:Value}(h:w.cell? ⟨bM,1,none⟩=some E):(Instr.loadAt 34 (.pointer (some ⟨bM,1,none⟩))).run Tryz.prog w=.ok E w:=by simp [go_sem,h]
theorem df{w:World}{b o:Nat}{u v:Value}(h:w.cell? ⟨b,o,none⟩=some u)(h':w.cell? ⟨b,o+1,none⟩=some v):(Instr.loadAt 94 (.pointer (some ⟨b,o,none⟩))).run Tryz.prog w=.ok (.agg #[u,v]) w:=by simp [go_sem,h,h']
theorem AjH{w:World}{bM:Nat}{P E F E':Value}(hE:∃A n c,E'=.slice A n c)(h:w.heap[bM]?=some (.cells #[P,E,F] 36)):(Instr.storeAt 34 (.pointer (some ⟨bM,1,none⟩)) E').run Tryz.prog w=.ok () (w.setCell ⟨bM,1,none⟩ E'):=by
 have h0:=Ab (o:=1) h rfl;have h1:=AU (o:=1) h;obtain⟨A,n,c,rfl⟩:=hE;simp [go_sem,h0,h1]
theorem Aa9(r1 r2 zl zr:Int)(w:World):(Instr.build 126 #[(0,.int .i64 r1),(1,.int .i64 r2),(2,.int .i64 zl),(3,.int .i64 zr)]).run Tryz.prog w=.ok (.agg #[.int .i64 r1,.int .i64 r2,.int .i64 zl,.int .i64 zr]) w:=by simp [go_sem]
theorem Aa8(r1 r2 zl zr:Int)(w:World):(Instr.buildSlice 34 1 #[(0,.agg #[.int .i64 r1,.int .i64 r2,.int .i64 zl,.int .i64 zr])]).run Tryz.prog w=.ok (.slice (some ⟨w.heap.size,0,none⟩) 1 1) (w.alloc (.cells #[.int .i64 r1,.int .i64 r2,.int .i64 zl,.int .i64 zr] 126)):=by simp [go_sem]
structure Hb where
 W5:World
 W:World
 a0:Act
 ops:Array Oper
 n:Nat
 bx:Nat
 kbn:Nat
 bM:Nat
 bU:Nat
 bh:Nat
 cu:Nat
 U:Option Addr
 kun:List Bs
 P:Value
 E:Value
 F:Value
 nums:List Int
 kfa:List Bs
 eds:List Av
 x:Hf
 r1:Int
 r2:Int
 r3:Int
 zl:Int
 vr:Value
def Hb.fn(c:Hb):Value:=.func (.func 196) #[] #[.pointer (some ⟨c.bx,0,none⟩),.pointer (some ⟨c.bM,0,none⟩),.pointer (some ⟨c.bU,0,none⟩)]
def Hb.slot(c:Hb)(zr:Int)(Cw:Nat)(E':Value):Nat→Value:=Ajt c.bM c.bh c.P c.E c.F c.x c.r1 c.r2 c.r3 c.zl c.vr c.fn zr Cw E'
def pM:List (Nat×Nat):=[(1,0),(4,3),(5,2),(5,4),(8,7),(9,6),(9,8),(9,5),(14,12),(14,13),(14,9),(15,11),(15,14),(16,5),(16,9),(16,10),(16,15),(17,16),(18,1),(18,17),(18,15),(20,18),(20,19)]
structure Hb.Ok(c:Hb):Prop where
 st:G8 c.W5 c.W c.n c.bx c.kbn c.bM c.bU c.U c.cu c.kun c.P c.E c.F c.nums c.kfa c.eds
 hb:c.W.heap[c.bh]?=some (.cells #[S (R c.x.a.x),S (R c.x.a.y),S (R c.x.b.x),S (R c.x.b.y),.int .i64 c.x.l] 176)
 hn:c.n<=100000
 el:c.eds.length<200000
 c1:∀w',Aa c.W w'→Calls Tryz.prog 198 #[.agg #[c.P,c.E,c.F],Ak c.x.a] w' (AA c.r1 w')
 c2:∀w',Aa c.W w'→Calls Tryz.prog 198 #[.agg #[c.P,c.E,c.F],Ak c.x.b] w' (AA c.r2 w')
 c3:∀w',Aa c.W w'→Calls Tryz.prog 121 #[c.vr,vV c.x] w' (AA c.r3 w')
 r3a:-1<=c.r3
 r3b:c.r3<(c.n:Int)
 e8:c.a0.eval (.tmp 8)=.pointer (some ⟨c.bM,0,none⟩)
 e16:c.a0.eval (.tmp 16)=.pointer (some ⟨c.bh,0,none⟩)
 e17:c.a0.eval (.tmp 17)=.int .i64 c.zl
 e14:c.a0.eval (.tmp 14)=c.fn
 e0:c.a0.eval (.tmp 0)=c.vr
 sz:147<c.a0.tmps.size
 op:c.ops.toList.map (fun o=>(o.op,o.dst))=Ah6
 dep:pL c.ops pM=true
 acc:yo c.ops=true
def Hb.Ed(c:Hb)(w:World)(E' F':Value)(Ct:List Int)(Bi:List Bs)(l:List Av):Prop:=G8 c.W5 w c.n c.bx c.kbn c.bM c.bU c.U c.cu c.kun c.P E' F' Ct Bi l
structure Cc(c:Hb)(zr:Int)(Cw:Nat)(E' F':Value)(Ct:List Int)(Bi:List Bs)(l:Array Bool)(a:Act)(w:World):Prop where
 fr:He TX c.a0 a
 hf:w.heap[c.bh]?=c.W.heap[c.bh]?
 cl:∀(i:Nat) (o:Oper),c.ops[i]?=some o→l.getD i false=true→∀e∈o.after,Region.binds .any e=true→l.getD e.on false=true
 sl:∀i,i<20→l.getD i false=true→a.eval (.tmp (128+i))=c.slot zr Cw E' i
 jpA:l.getD 15 false=false→Aa c.W w
 jpB:l.getD 15 false=true→l.getD 18 false=false→c.Ed w c.E F' Ct Bi c.eds
 jpG:l.getD 17 false=true→l.getD 18 false=false→w.heap[Cw]?=some (.cells #[.int .i64 c.r1,.int .i64 c.r2,.int .i64 c.zl,.int .i64 zr] 126)
 jpC:l.getD 18 false=true→l.getD 20 false=false→w.heap[c.bM]?=some (.cells #[c.P,c.E,F'] 36)/\(∃A k d,E'=.slice A k d)/\c.Ed (w.setCell ⟨c.bM,1,none⟩ E') E' F' Ct Bi (c.eds ++ [⟨c.r1,c.r2,c.zl,zr⟩])
 jpD:l.getD 20 false=true→c.Ed w E' F' Ct Bi (c.eds ++ [⟨c.r1,c.r2,c.zl,zr⟩])
def Jx(c:Hb)(l:Array Bool)(a:Act)(w:World):Prop:=∃zr Cw E' F' Ct Bi,Cc c zr Cw E' F' Ct Bi l a w
theorem Ut{ops:Array Oper}{l:Array Bool}(h:∀(i:Nat) (o:Oper),ops[i]?=some o→l.getD i false=true→∀e∈o.after,Region.binds .any e=true→l.getD e.on false=true){i:Nat}{o:Oper}(ho:ops[i]?=some o)(hd:∀e∈o.after,Region.binds .any e=true→l.getD e.on false=true) :
  ∀(j:Nat) (p:Oper),ops[j]?=some p→(l.setIfInBounds i true).getD j false=true→∀e∈p.after,Region.binds .any e=true→(l.setIfInBounds i true).getD e.on false=true:=by
 intro j p hp hl e he hb;by_cases Bf:i=j
 ·subst Bf;rw [ho]at hp;obtain rfl:=Option.some.inj hp;exact getD_set_true (hd e he hb)
 ·rw [getD_set_ne false Bf]at hl;exact getD_set_true (h j p hp hl e he hb)
theorem iW{l:Array Bool}{a:Act}{i:Nat}{v:Value}{f:Nat→Value}(hs:128+i<a.tmps.size)(hv:v=f i)(h:∀j,j<20→j≠i→l.getD j false=true→a.eval (.tmp (128+j))=f j) :
  ∀j,j<20→(l.setIfInBounds i true).getD j false=true→(a.put (some (128+i)) v).eval (.tmp (128+j))=f j:=by
 intro j hj hl;by_cases Bf:i=j
 ·subst Bf;rw [eval_put_same hs,hv]
 ·rw [getD_set_ne false Bf]at hl;rw [qL _ (by omega)];exact h j hj (fun e=>Bf e.symm) hl
section
variable {c : Hb} {zr : Int} {Cw : Nat} {E' F' : Value} {Ct : List Int} {Bi : List Bs} {l : Array Bool} {a : Act} {w : World}
theorem Cc.sz(h:Cc c zr Cw E' F' Ct Bi l a w)(ok:c.Ok){d:Nat}(hd:d<=147):d<a.tmps.size:=by
 rw [h.fr.size];have:=ok.sz;omega
theorem Cc.need(h:Cc c zr Cw E' F' Ct Bi l a w)(ok:c.Ok){i j:Nat}(hm:pM.contains (i,j)=true)(hi:l.getD i false=true):l.getD j false=true:=by
 have h1:=List.all_eq_true.1 ok.dep (i,j) (by simpa using hm)
 cases ho:c.ops[i]? with
 | none=>rw [ho]at h1;cases h1
 | some o=>rw [ho]at h1;exact Ka (h.cl i o ho hi) j h1
theorem Cc.put(h:Cc c zr Cw E' F' Ct Bi l a w)(ok:c.Ok){i:Nat}{o:Oper}(hi:i<20/\i≠15/\i≠17/\i≠18)(ho:c.ops[i]?=some o)(hd:∀e∈o.after,Region.binds .any e=true→l.getD e.on false=true){v:Value}(hv:v=c.slot zr Cw E' i) :
  Jx c (l.setIfInBounds i true) (a.put (some (128+i)) v) w:=by
 refine⟨zr,Cw,E',F',Ct,Bi,h.fr.put (by unfold TX;omega) _,h.hf,Ut h.cl ho hd,iW (h.sz ok (by omega)) hv (fun j hj _ hl=>h.sl j hj hl),?_,?_,?_,?_,?_⟩
 all_goals simp only [getD_set_ne false hi.2.1,getD_set_ne false hi.2.2.1,getD_set_ne false hi.2.2.2,getD_set_ne false (show i≠20 by omega)]
 ·exact h.jpA
 ·exact h.jpB
 ·exact h.jpG
 ·exact h.jpC
 ·exact h.jpD
theorem mq{c:Hb}{z z':Int}{g g':Nat}{E E':Value}{j:Nat}(hj:j<20)(hz:j=15∨j=16→z=z')(hg:j=17→g=g')(hE:j=18→E=E'):c.slot z g E j=c.slot z' g' E' j:=by
 match j,hj with
 | 0,_ | 1,_ | 2,_ | 3,_ | 4,_ | 5,_ | 6,_ | 7,_ | 8,_ | 9,_ | 10,_ | 11,_ | 12,_ | 13,_ | 14,_ | 19,_=>rfl
 | 15,_ | 16,_=>rw [hz (by omega)];rfl
 | 17,_=>rw [hg rfl];rfl
 | 18,_=>rw [hE rfl];rfl
 | n+20,k=>omega
theorem Cc.no18(h:Cc c zr Cw E' F' Ct Bi l a w)(ok:c.Ok){i:Nat}(hi:i=1∨i=15∨i=17∨i=18)(hu:l.getD i false=false):l.getD 18 false=false:=by
 cases e:l.getD 18 false
 ·rfl
 ·have h1:=h.need ok (i:=18) (j:=1) (by decide) e;have Fv:=h.need ok (i:=18) (j:=15) (by decide) e;have Rq:=h.need ok (i:=18) (j:=17) (by decide) e
  rcases hi with rfl|rfl|rfl|rfl
  all_goals first|(rw [h1]at hu;cases hu)|(rw [Fv]at hu;cases hu)|(rw [Rq]at hu;cases hu)|(rw [e]at hu;cases hu)
theorem Cc.no17(h:Cc c zr Cw E' F' Ct Bi l a w)(ok:c.Ok)(hu:l.getD 15 false=false):l.getD 17 false=false:=by
 cases e:l.getD 17 false
 ·rfl
 ·have h1:=h.need ok (i:=17) (j:=16) (by decide) e;have Fv:=h.need ok (i:=16) (j:=15) (by decide) h1;rw [hu]at Fv
  cases Fv
theorem Cc.no16(h:Cc c zr Cw E' F' Ct Bi l a w)(ok:c.Ok)(hu:l.getD 15 false=false):l.getD 16 false=false:=by
 cases e:l.getD 16 false
 ·rfl
 ·have Fv:=h.need ok (i:=16) (j:=15) (by decide) e;rw [hu]at Fv
  cases Fv
theorem Cc.no20(h:Cc c zr Cw E' F' Ct Bi l a w)(ok:c.Ok)(hu:l.getD 18 false=false):l.getD 20 false=false:=by
 cases e:l.getD 20 false
 ·rfl
 ·have GI:=h.need ok (i:=20) (j:=18) (by decide) e;rw [hu]at GI
  cases GI
theorem Cc.hb(h:Cc c zr Cw E' F' Ct Bi l a w)(ok:c.Ok):w.heap[c.bh]?=some (.cells #[S (R c.x.a.x),S (R c.x.a.y),S (R c.x.b.x),S (R c.x.b.y),.int .i64 c.x.l] 176):=h.hf.trans ok.hb
theorem Cc.grow(h:Cc c zr Cw E' F' Ct Bi l a w)(ok:c.Ok)(Fv:l.getD 15 false=false){w':World}(hx:Aa w w'):Cc c zr Cw E' F' Ct Bi l a w':=by
 have Rq:=h.no17 ok Fv;have GI:=h.no18 ok (i:=15) (by simp) Fv;have Dh:=h.no20 ok GI;exact⟨h.fr,(hx.block _ (AmV (h.hb ok))).trans h.hf,h.cl,h.sl,fun e=>(h.jpA e).trans hx,fun e=>(by rw [Fv]at e;cases e),fun e=>(by rw [Rq]at e;cases e),fun e=>(by rw [GI]at e;cases e),fun e=>(by rw [Dh]at e;cases e)⟩
theorem Cc.name(h:Cc c zr Cw E' F' Ct Bi l a w)(ok:c.Ok){o:Oper}(ho:c.ops[15]?=some o)(hd:∀e∈o.after,Region.binds .any e=true→l.getD e.on false=true)(hu:l.getD 15 false=false)(hsz:l.size=21){w':World}{z:Int}{F2:Value}{fq:List Int}{rB:List Bs}
  (hn:Kg w' c.W5.heap.size c.n c.bx c.kbn c.bM c.bU c.U c.cu c.kun c.P c.E F2 fq rB) (hb:Au (fun k=>k=c.kbn∨k=c.bM∨c.F.ownBlock=some k) w w') :
  Cc c z Cw E' F2 fq rB (l.setIfInBounds 15 true) (a.put (some 143) (.int .i64 z)) w':=by
 have hX:=h.jpA hu;have h16:=h.no16 ok hu;have Rq:=h.no17 ok hu;have GI:=h.no18 ok (i:=15) (by simp) hu;have Dh:=h.no20 ok GI;have hS:=ok.st.extn hX;obtain⟨cn,DZ⟩:=Ob hS.nam.num;have Bl:=h.hb ok;refine⟨h.fr.put (by unfold TX;omega) _,(hb.block c.bh (AmV Bl) ?_).trans h.hf,Ut h.cl ho hd,iW (i:=15) (h.sz ok (by omega)) rfl (fun j hj AlT hl=>?_),?_,?_,?_,?_,?_⟩
 ·rintro(e|e|e)
  ·exact DW Bl DZ (by decide) e
  ·exact DW Bl hS.nam.cM (by decide) e
  ·exact Bn hS.nam.fac Bl (by decide) e
 ·rw [h.sl j hj hl];have e16:j≠16:=(by rintro rfl;rw [h16]at hl;cases hl);exact mq hj (by omega) (fun _=>rfl) (fun _=>rfl)
 all_goals simp only [I7 (show 15<l.size by omega),getD_set_ne false (show (15:Nat)≠17 by omega),getD_set_ne false (show (15:Nat)≠18 by omega),getD_set_ne false (show (15:Nat)≠20 by omega)]
 ·intro e;cases e
 ·intro _ _;exact hS.name hn hb
 ·intro e;rw [Rq]at e;cases e
 ·intro e;rw [GI]at e;cases e
 ·intro e;rw [Dh]at e;cases e
theorem Cc.app(h:Cc c zr Cw E' F' Ct Bi l a w)(ok:c.Ok){o:Oper}(ho:c.ops[18]?=some o)(hd:∀e∈o.after,Region.binds .any e=true→l.getD e.on false=true)(hu:l.getD 18 false=false)(hsz:l.size=21)(Fv:l.getD 15 false=true){w':World}{v':Value}
  (hw:w'.ownsRow c.W5.heap.size 126 4 v' (c.eds.length+1) (Bt (c.eds ++ [⟨c.r1,c.r2,c.zl,zr⟩]))) (hg:w.grownBy w' c.E.ownBlock) :
  Cc c zr Cw v' F' Ct Bi (l.setIfInBounds 18 true) (a.put (some 146) v') w':=by
 have Dh:=h.no20 ok hu;have hS:G8 c.W5 w c.n c.bx c.kbn c.bM c.bU c.U c.cu c.kun c.P c.E F' Ct Bi c.eds:=h.jpB Fv hu;have Bl:=h.hb ok;obtain⟨k1,k2⟩:=G8.app (d:=⟨c.r1,c.r2,c.zl,zr⟩) hS (Aa.refl w) hg hw;obtain⟨A,d,rfl,-,-,-⟩:=Ae.of_own' (show 0<4 by omega) hw;refine⟨h.fr.put (by unfold TX;omega) _,(hg.block c.bh (AmV Bl) (fun e=>Bn hS.own Bl (by decide) e.symm)).trans h.hf,Ut h.cl ho hd,iW (i:=18) (h.sz ok (by omega)) rfl (fun j hj AlU hl=>?_),?_,?_,?_,?_,?_⟩
 ·rw [h.sl j hj hl];exact mq hj (fun _=>rfl) (fun _=>rfl) (by omega)
 all_goals simp only [I7 (show 18<l.size by omega),getD_set_ne false (show (18:Nat)≠15 by omega),getD_set_ne false (show (18:Nat)≠17 by omega),getD_set_ne false (show (18:Nat)≠20 by omega)]
 ·intro e;rw [Fv]at e;cases e
 ·intro _ e;cases e
 ·intro _ e;cases e
 ·intro _ _;exact⟨k1,⟨_,_,_,rfl⟩,k2⟩
 ·intro e;rw [Dh]at e;cases e
theorem Cc.store(h:Cc c zr Cw E' F' Ct Bi l a w)(ok:c.Ok){o:Oper}(ho:c.ops[20]?=some o)(hd:∀e∈o.after,Region.binds .any e=true→l.getD e.on false=true)(hu:l.getD 20 false=false)(hsz:l.size=21)(GI:l.getD 18 false=true) :
  Cc c zr Cw E' F' Ct Bi (l.setIfInBounds 20 true) a (w.setCell ⟨c.bM,1,none⟩ E'):=by
 have Fv:=h.need ok (i:=18) (j:=15) (by decide) GI;obtain⟨k1,k2,k3⟩:=h.jpC GI hu;have Bl:=h.hb ok;have hne:c.bh≠c.bM:=DW Bl k1 (by decide);refine⟨h.fr,?_,Ut h.cl ho hd,fun j hj hl=>?_,?_,?_,?_,?_,?_⟩
 ·rw [DF (by show c.bh≠c.bM;exact hne)];exact h.hf
 ·rw [getD_set_ne false (show (20:Nat)≠j by omega)]at hl;exact h.sl j hj hl
 all_goals simp only [I7 (show 20<l.size by omega),getD_set_ne false (show (20:Nat)≠15 by omega),getD_set_ne false (show (20:Nat)≠17 by omega),getD_set_ne false (show (20:Nat)≠18 by omega)]
 ·intro e;rw [Fv]at e;cases e
 ·intro _ e;rw [GI]at e;cases e
 ·intro _ e;rw [GI]at e;cases e
 ·intro _ e;cases e
 ·intro _;exact k3
end
theorem T8{P:Program}{o:Oper}{a:Act}{w w':World}{v:Value}{K:Act→World→Prop}{Q:Exit→Act→World→Prop}(m:Sem Value)(he:execOp a.eval o=(do pure (.value (←m))))(h:m.run P w=.ok v w')(hk:K (a.put o.dst v) w'):o.wp P a w K Q:=by
 refine qw (v:=v) (w':=w') ?_ hk;rw [he];simp [h]
theorem Tz{P:Program}{o:Oper}{a:Act}{w w':World}{v:Value}{K:Act→World→Prop}{Q:Exit→Act→World→Prop}{t:TypeId}{x:Operand}{D:Option Nat}(p:.load t x=o.op)(d:D=o.dst)(h:(Instr.loadAt t (a.eval x)).run P w=.ok v w')(hk:K (a.put D v) w'):o.wp P a w K Q:=
 T8 (Instr.loadAt t (a.eval x)) (by unfold execOp;rw [←p]) h (d▸hk)
theorem Ty{P:Program}{o:Oper}{a:Act}{w w':World}{v:Value}{K:Act→World→Prop}{Q:Exit→Act→World→Prop}{t:TypeId}{x:Operand}{k:Nat}{D:Option Nat}(p:.fieldAddr t x k=o.op)(d:D=o.dst)(h:(Instr.fieldAt t (a.eval x) k).run P w=.ok v w')(hk:K (a.put D v) w'):o.wp P a w K Q:=
 T8 (Instr.fieldAt t (a.eval x) k) (by unfold execOp;rw [←p]) h (d▸hk)
theorem T0{P:Program}{o:Oper}{a:Act}{w:World}{K:Act→World→Prop}{Q:Exit→Act→World→Prop}(x:Operand)(h:o.op=.move x)(hk:K (a.put o.dst (a.eval x)) w):o.wp P a w K Q:=by
 unfold Oper.wp execOp;rw [h];exact hk
end
end Go.Proofs.YtbejphgbbpplbaaGreatDoor
