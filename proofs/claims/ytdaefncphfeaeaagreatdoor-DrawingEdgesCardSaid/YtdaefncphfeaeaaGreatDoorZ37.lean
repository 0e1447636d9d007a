/- Z37: C2 C3 QB. -/
import Derived.Test.YtdaefncphfeaeaaGreatDoorZ36
import Derived.Test.YtdaefncphfeaeaaGreatDoorZ31
set_option maxRecDepth 100000
set_option maxHeartbeats 8000000
namespace Go.Proofs.YtdaefncphfeaeaaGreatDoor
open Go.RowKit Kl
def Ww(W:List Sg):Prop:=∀s∈W,∀t∈W,s≠t→s≠CM t→G6 s.a s.b t.a t.b
theorem Ww.good{W:List Sg}(h:Ww W):L0 W:=by
 intro s hs t ht h1 h2 hne;refine h s hs t ht hne ?_;rintro rfl;simp only [CM]at h1
 grind
theorem Apb(pts:List Pt)(l:List AO)(h3:FA pts [] l=0):Ww ((CV pts l).map (·.1)):=by
 have hx:∀i j,(hi:i<l.length)→(hj:j<l.length)→i<j→G6 (B6 pts l[j]).a (B6 pts l[j]).b (B6 pts l[i]).a (B6 pts l[i]).b:=by intro i j hi hj BM;have:=uI h3 j hj;rw [List.nil_append,List.any_eq_false]at this;have h1:=this l[i] (by rw [List.mem_take_iff_getElem];exact⟨i,by omega,rfl⟩);rw [Bool.not_eq_true]at h1;exact Alq h1
 have hy:∀i j,(hi:i<l.length)→(hj:j<l.length)→i≠j→G6 (B6 pts l[i]).a (B6 pts l[i]).b (B6 pts l[j]).a (B6 pts l[j]).b:=by
  intro i j hi hj BM
  rcases Nat.lt_or_gt_of_ne BM with h|h
  ·exact(hx i j hi hj h).symm
  ·exact hx j i hj hi h
 have mem:∀s,s∈(CV pts l).map (·.1)→∃i,∃hi:i<l.length,s=B6 pts l[i]∨s=CM (B6 pts l[i]):=by
  intro s hs;rw [List.mem_map]at hs;obtain⟨x,hx,rfl⟩:=hs;unfold CV at hx;rw [List.mem_flatMap]at hx;obtain⟨e,he,hx⟩:=hx;obtain⟨i,hi,rfl⟩:=List.getElem_of_mem he;simp only [List.mem_cons,Asr,or_false]at hx
  rcases hx with rfl|rfl
  ·exact⟨i,hi,.inl rfl⟩
  ·exact⟨i,hi,.inr rfl⟩
 intro s hs t ht h1 h2;obtain⟨i,hi,es⟩:=mem s hs;obtain⟨j,hj,et⟩:=mem t ht
 have BM:i≠j:=by
  rintro rfl
  rcases es with rfl|rfl<;>rcases et with rfl|rfl
  ·exact h1 rfl
  ·exact h2 rfl
  ·exact h2 rfl
  ·exact h1 rfl
 have hn:=hy i j hi hj BM
 rcases es with rfl|rfl<;>rcases et with rfl|rfl
 ·exact hn
 ·exact hn.right
 ·exact hn.left
 ·exact hn.left.right
structure Wv(W:List Sg):Prop where
 x:Ww W
 sz:∀s∈W,DK 200 s
 ne:∀s∈W,s.a≠s.b
theorem An3{W:List Sg}{R0:List (Pt×List Pt)}(hW:Wv W)(hN:G5 W R0)(hlen:∀e∈R0,e.2.length<100000):rX R0:=by
 have hm:∀e∈R0,∀q∈e.2,(⟨e.1,q⟩:Sg)∈W:=by intro e he q hq;refine(hN.mem e.1 q).1 ?_;unfold rowOf;rw [An1 hN.keys he];exact hq
 refine⟨?_,?_,hN.ne,hlen⟩
 ·intro e he;refine⟨fun q hq=>(hW.sz _ (hm e he q hq)).b,fun q hq h=>hW.ne _ (hm e he q hq) h.symm,?_⟩;intro a ha b hb h0;refine Classical.byContradiction fun hab=>hab ?_;have na:a≠e.1:=fun h=>hW.ne _ (hm e he a ha) h.symm;have nb:b≠e.1:=fun h=>hW.ne _ (hm e he b hb) h.symm;refine AfH (hW.x _ (hm e he a ha) _ (hm e he b hb) ?_ ?_) na nb h0
  ·intro h;simp only [Sg.mk.injEq,true_and]at h;exact hab h
  ·intro h;simp only [CM,Sg.mk.injEq]at h;exact nb h.1.symm
 ·intro e he;obtain⟨q,hq⟩:=List.exists_mem_of_ne_nil _ (hN.ne e he);exact(hW.sz _ (hm e he q hq)).a
def Iq(R0:List (Pt×List Pt)):Nat→List Sg→Sg→List Sg→List Sg×List Sg
 | 0,U,_,c=>(U,c)
 | n+1,U,s,c=>if U.any (Bc s)=true then (U,c)else Iq R0 n (U ++ [s]) (NX R0 s) (c ++ [s])
def Hy(N:Nat)(R0:List (Pt×List Pt))(st:List Sg×List (List Sg))(s:Sg):List Sg×List (List Sg):=
 ((Iq R0 (N-st.1.length+1) st.1 s []).1,if 0<(Iq R0 (N-st.1.length+1) st.1 s []).2.length then st.2 ++ [(Iq R0 (N-st.1.length+1) st.1 s []).2] else st.2)
def OD(W:List Sg)(R0:List (Pt×List Pt)):List (List Sg):=((Cr W).foldl (Hy W.length R0) ([],[])).2
theorem WC{U:List Sg}{s:Sg} : U.any (Bc s)=true↔s∈U:=by
 rw [List.any_eq_true];constructor
 ·rintro⟨x,hx,h⟩;rw [Ls]at h;exact h▸hx
 ·intro h;exact⟨s,h,Ls.2 rfl⟩
theorem Ael{U:List Sg}{s:Sg} : U.any (Bc s)=false↔s∉U:=by
 rw [←WC,Bool.not_eq_true]
theorem Ld{U W:List Sg}(h:U.Nodup)(hs:∀s∈U,s∈W):U.length<=W.length:=h.length_le_of_subset hs
theorem oL{W:List Sg}{R0:List (Pt×List Pt)}(hN:G5 W R0):∀(n:Nat) (U:List Sg) (s:Sg) (c:List Sg),U.Nodup→(∀t∈U,t∈W)→s∈W→W.length<U.length+n→
  ∃d,Iq R0 n U s c=(U++d,c++d)/\(U++d).Nodup/\(∀t∈d,t∈W)/\(s∉U→d.head?=some s)/\s∈U++d
 | 0,U,s,c,h1,h2,h3,h4=>by have:=Ld h1 h2;omega
 | n+1,U,s,c,h1,h2,h3,h4=>by
  unfold Iq;by_cases hs:s∈U
  ·rw [if_pos (WC.2 hs)];exact⟨[],by simp,by simpa using h1,by simp,fun h=>absurd hs h,by simpa using hs⟩
  ·rw [if_neg (by rw [WC];exact hs)]
   have hn:(U ++ [s]).Nodup:=by rw [List.nodup_append];refine⟨h1,by simp,?_⟩;intro a ha b hb;simp only [Ass]at hb;subst hb;rintro rfl;exact hs ha
   obtain⟨d,e1,e2,e3,e4,e5⟩:=oL hN n (U ++ [s]) (NX R0 s) (c ++ [s]) hn (by
    intro t ht
    rcases List.mem_append.1 ht with ht|ht
    ·exact h2 t ht
    ·simp only [Ass]at ht;exact ht▸h3) (hN.next h3) (by simp;omega)
   refine⟨s::d,?_,?_,?_,fun _=>rfl,by simp⟩
   ·rw [e1];simp
   ·simpa using e2
   ·intro t ht
    rcases List.mem_cons.1 ht with rfl|ht
    ·exact h3
    ·exact e3 t ht
theorem AaK(R0:List (Pt×List Pt)):∀(n:Nat) (U:List Sg) (s:Sg) (c:List Sg),c.length<=(Iq R0 n U s c).2.length
 | 0,U,s,c=>Asf _
 | n+1,U,s,c=>by
  unfold Iq
  split
  ·exact Asf _
  ·have:=AaK R0 n (U ++ [s]) (NX R0 s) (c ++ [s]);rw [List.length_append,List.length_singleton]at this;omega
structure VM(W:List Sg)(U:List Sg)(C:List (List Sg)):Prop where
 nd:U.Nodup
 sub:∀s∈U,s∈W
 flat:C.flatten=U
 ne:∀c∈C,c≠[]
 least:∀c∈C,∀s∈c,∀h:0<c.length,¬Hn s c[0]<0
theorem uY{W:List Sg}{R0:List (Pt×List Pt)}(hN:G5 W R0)(k:Nat)(hk:k<=(Cr W).length) :
  VM W (((Cr W).take k).foldl (Hy W.length R0) ([],[])).1 (((Cr W).take k).foldl (Hy W.length R0) ([],[])).2/\∀s∈(Cr W).take k,s∈(((Cr W).take k).foldl (Hy W.length R0) ([],[])).1:=by
 induction k with
 | zero=>exact⟨⟨by simp,by simp,by simp,by simp,by simp⟩,by simp⟩
 | succ k ih=>
  have Co:k<(Cr W).length:=(by omega);obtain⟨h,hp⟩:=ih (by omega);rw [Asi Co,List.foldl_append];simp only [List.foldl_cons,List.foldl_nil];generalize hst:((Cr W).take k).foldl (Hy W.length R0) ([],[])=st at *;have YM:(Cr W)[k]∈W:=(PN W).mem_iff.1 (Asg Co);have hle:=Ld h.nd h.sub;obtain⟨d,e1,e2,e3,e4,e5⟩:=oL hN (W.length-st.1.length+1) st.1 (Cr W)[k] [] h.nd h.sub YM (by omega)
  have hstep:Hy W.length R0 st (Cr W)[k]=(st.1++d,if 0<d.length then st.2 ++ [d] else st.2):=by unfold Hy;rw [e1];simp
  rw [hstep];simp only;refine⟨⟨e2,?_,?_,?_,?_⟩,?_⟩
  ·intro s hs
   rcases List.mem_append.1 hs with hs|hs
   ·exact h.sub s hs
   ·exact e3 s hs
  ·split
   ·rw [List.flatten_append,h.flat];simp
   ·have:d = []:=List.eq_nil_of_length_eq_zero (by omega);rw [this,List.append_nil];exact h.flat
  ·intro c hc
   split at hc
   ·rename_i Fu
    rcases List.mem_append.1 hc with hc|hc
    ·exact h.ne c hc
    ·simp only [Ass]at hc;subst hc;intro e;rw [e]at Fu;simp at Fu
   ·exact h.ne c hc
  ·intro c hc;have old:=h.least c
   split at hc
   ·rcases List.mem_append.1 hc with hc|hc
    ·exact old hc
    ·simp only [Ass]at hc;subst hc;intro s hs h0;by_cases hu:(Cr W)[k]∈st.1
     ·
      exfalso
      have:Iq R0 (W.length-st.1.length+1) st.1 (Cr W)[k] []=(st.1,[]):=by unfold Iq;rw [if_pos (WC.2 hu)]
      rw [this]at e1;have:=congrArg Prod.snd e1;simp only [List.nil_append]at this;rw [←this]at h0;simp at h0
     ·have hh:=e4 hu
      have h00:c[0]=(Cr W)[k]:=by rw [List.head?_eq_getElem?,Asl h0,Asj]at hh;exact hh
      rw [h00];have hsm:s∈Cr W:=(PN W).mem_iff.2 (e3 s hs);obtain⟨i,hi,rfl⟩:=List.getElem_of_mem hsm
      have hik:k<=i:=by
       refine Classical.byContradiction fun hlt=>?_
       have hin:(Cr W)[i]∈(Cr W).take k:=by rw [List.mem_take_iff_getElem];exact⟨i,by omega,rfl⟩
       have h1:=hp _ hin;rw [List.nodup_append]at e2;exact e2.2.2 _ h1 _ hs rfl
      rcases Nat.lt_or_eq_of_le hik with h1|h1
      ·exact List.pairwise_iff_getElem.1 oY k i Co hi h1
      ·subst h1;rw [Rs];grind
   ·exact old hc
  ·intro s hs
   rcases List.mem_append.1 hs with hs|hs
   ·exact List.mem_append_left _ (hp s hs)
   ·simp only [Ass]at hs;rw [hs];exact e5
theorem Ze{α:Type} : ∀{l:List (List α)},(∀c∈l,c≠[])→l.length<=l.flatten.length
 | [],_=>by simp
 | c::l,h=>by have h1:=Ze (l:=l) (fun x hx=>h x (List.mem_cons_of_mem _ hx));have h2:=List.length_pos_iff.2 (h c List.mem_cons_self);rw [List.flatten_cons,List.length_append,List.length_cons];omega
theorem Af8{W:List Sg}{R0:List (Pt×List Pt)}(hN:G5 W R0):∃U,VM W U (OD W R0)/\∀s∈W,s∈U:=by
 obtain⟨h,hp⟩:=uY hN (Cr W).length (Asf _);rw [List.take_length]at h hp;exact⟨_,h,fun s hs=>hp s ((PN W).mem_iff.2 hs)⟩
theorem DG{K:Nat→Prop}{W W':World}{B:Nat}{e:TypeId}{s n:Nat}{v:Value}{xs:List Value}(h:W.ownsRow B e s v n xs)(hb:AH K W W')(hK:∀k,v.ownBlock=some k→¬K k):W'.ownsRow B e s v n xs:=by
 refine⟨h.1,?_⟩
 rcases h.2 with h'|⟨g,cap,cur,rfl,hg,hgb,h4⟩
 ·exact .inl h'
 ·exact .inr ⟨g,cap,cur,rfl,hg,hb.cells hgb (hK g rfl),h4⟩
theorem ze{W:World}{B:Nat}{e:TypeId}{s n:Nat}{v:Value}{xs:List Value}(h:W.ownsRow B e s v n xs){j:Nat}{o:Obj}(hj:W.heap[j]?=some o)(hno:∀cur,o≠.cells cur e (0,0)):∀k,v.ownBlock=some k→k≠j:=by
 intro k hk e;subst e
 rcases ownsRow_ne h hj hno with h1|h1
 ·rw [h1]at hk;cases hk
 ·exact h1 hk
def Iy(B:Nat)(W:World)(out:Value)(C:List (List Sg)):Prop:=
 ∃vs,W.ownsRow B 190 1 out C.length vs/\∀j (h:j<C.length),∃v,vs[j]?=some v/\W.ownsRow B 183 4 v C[j].length (Cb C[j])
theorem Iy.keep{K:Nat→Prop}{W W':World}{B:Nat}{out:Value}{C:List (List Sg)}(h:Iy B W out C)(hb:AH K W W')(hK:∀k,k<W.heap.size→K k→∀cs e,W.heap[k]?≠some (.cells cs e (0,0))):Iy B W' out C:=by
 obtain⟨vs,ho,hr⟩:=h
 have main:∀{e:TypeId} {s n:Nat} {v:Value} {xs:List Value},W.ownsRow B e s v n xs→W'.ownsRow B e s v n xs:=by
  intro e s n v xs h;refine DG h hb ?_;intro k hk hKk
  rcases h.2 with⟨h',_⟩|⟨g,cap,cur,h',_,hgb,_⟩
  ·rw [h']at hk;cases hk
  ·rw [h']at hk;simp only [Value.ownBlock,Asj]at hk;subst hk;exact hK g (Asd hgb) hKk _ _ hgb
 exact⟨vs,main ho,fun j hj=>by obtain⟨v,h1,h2⟩:=hr j hj;exact⟨v,h1,main h2⟩⟩
theorem Iy.nil(B:Nat)(W:World):Iy B W (.slice none 0 0) []:=⟨[],⟨rfl,.inl ⟨rfl,rfl⟩⟩,fun j h=>by simp at h⟩
theorem AlI{W W':World}{B:Nat}{out out' cv:Value}{C:List (List Sg)}{c:List Sg}{vs:List Value}(ho:W.ownsRow B 190 1 out C.length vs)(hr:∀j (h:j<C.length),∃v,vs[j]?=some v/\W.ownsRow B 183 4 v C[j].length (Cb C[j]))
  (hc:W.ownsRow B 183 4 cv c.length (Cb c)) (hg:W.grownBy W' out.ownBlock) (Y6:W'.ownsRow B 190 1 out' (C.length+1) (vs ++ [cv])):Iy B W' out' (C ++ [c]):=by
 have hne:183≠190:=by decide
 have main:∀{n:Nat} {v:Value} {xs:List Value},W.ownsRow B 183 4 v n xs→W'.ownsRow B 183 4 v n xs:=by
  intro n v xs h;refine h.kept hg ?_
  rcases ho.2 with⟨h',_⟩|⟨g,cap,cur,h',_,hgb,_⟩
  ·rw [h']
   cases v.ownBlock with
   | none=>exact .inl rfl
   | some k=>exact .inr (by simp [Value.ownBlock])
  ·rcases ownsRow_ne h hgb (fun cur e=>hne (Obj.cells.inj e).2.1.symm)with h1|h1
   ·exact .inl h1
   ·right;rw [h'];exact h1
 have hl:vs.length=C.length:=(by have:=ho.1;omega);refine⟨vs ++ [cv],by rw [List.length_append];exact Y6,fun j hj=>?_⟩;by_cases AG:j<C.length
 ·obtain⟨v,h1,h2⟩:=hr j AG;refine⟨v,by rw [List.getElem?_append_left (by omega)];exact h1,?_⟩;rw [List.getElem_append_left AG];exact main h2
 ·have:j=C.length:=(by simp at hj;omega);subst this;refine⟨cv,by rw [List.getElem?_append_right (by omega)];simp [hl],?_⟩;rw [List.getElem_append_right (Asf _)];simp only [Nat.sub_self,List.getElem_cons_zero];exact main hc
def cQ(W:World)(v:Value)(l:List Sg):Prop:=∃A c,v=.slice A l.length c/\Am W A (Cb l)/\l.length<=c/\c<=9223372036854775807
theorem cQ.ext{W W':World}{v:Value}{l:List Sg}(h:cQ W v l)(hx:Aa W W'):cQ W' v l:=by
 obtain⟨A,c,e,hr,h1,h2⟩:=h;exact⟨A,c,e,hr.ext hx,h1,h2⟩
structure MC(W:World)(A:Option Addr)(cap:Nat)(C:List (List Sg)):Prop where
 cap1:C.length<=cap
 cap2:cap<=9223372036854775807
 row:∀j (h:j<C.length),∃b o A' c',A=some ⟨b,o,none⟩/\W.cell? ⟨b,o+j,none⟩=some (.slice A' C[j].length c')/\Am W A' (Cb C[j])/\C[j].length<=c'/\c'<=9223372036854775807
theorem MC.ext{W W':World}{A:Option Addr}{cap:Nat}{C:List (List Sg)}(h:MC W A cap C)(hx:Aa W W'):MC W' A cap C:=
 ⟨h.cap1,h.cap2,fun j hj=>by
  obtain⟨b,o,A',c',h1,h2,h3,h4,h5⟩:=h.row j hj
  exact⟨b,o,A',c',h1,hx.cellS h2,h3.ext hx,h4,h5⟩⟩
theorem Iy.cycs{B:Nat}{W:World}{out:Value}{C:List (List Sg)}(h:Iy B W out C):∃A cap,out=.slice A C.length cap/\MC W A cap C:=by
 obtain⟨vs,ho,hr⟩:=h;obtain⟨A,cap,he,AU,h1,h2⟩:=Am.of_own' (by omega) ho;refine⟨A,cap,he,h1,h2,fun j hj=>?_⟩;have hl:vs.length=C.length:=(by have:=ho.1;omega);obtain⟨b,o,e,hc⟩:=AU.ad (by omega);obtain⟨v,g1,g2⟩:=hr j hj;obtain⟨A',c',e',r1,r2,r3⟩:=Am.of_own' (by omega) g2;have:=hc j (by omega);rw [Asl (by omega),Asj]at g1;rw [g1,e']at this;exact⟨b,o,A',c',e,this,r1,r2,r3⟩
structure IZ(w5 wr:World)(bu bs:Nat)(cv:Value)(U:List Sg)(s:Sg)(c:List Sg):Prop where
 used:EL wr bu U
 box:wr.heap[bs]?=some (.cells #[S (R s.a.x),S (R s.a.y),S (R s.b.x),S (R s.b.y)] 183)
 row:wr.ownsRow w5.heap.size 183 4 cv c.length (Cb c)
 but:AH (fun k=>k=bu∨k=bs) w5 wr
def mQ(w:World)(b:Nat):Nat:=match w.heap[b]? with|some (.map es _)=>es.size|_=>0
theorem EL.size{W:World}{b:Nat}{U:List Sg}(h:EL W b U):mQ W b=U.length:=by
 unfold EL at h;unfold mQ;rw [h];simp [AK,Kp,J9]
theorem EL.far{W W':World}{b:Nat}{U:List Sg}(h:EL W b U){row:Option Nat}(hg:W.grownBy W' row)(hr:row≠some b):EL W' b U:=(hg.block b (Asd h) (fun e=>hr e.symm)).trans h
theorem zj{W:World}{B:Nat}{e:TypeId}{s n:Nat}{v:Value}{xs:List Value}(h:W.ownsRow B e s v n xs){b:Nat}(hb:b<B):v.ownBlock≠some b:=by
 intro e;have:=(h.lt b e).1;omega
theorem nH{W:World}{B:Nat}{e:TypeId}{s n:Nat}{v:Value}{xs:List Value}(h:W.ownsRow B e s v n xs){b:Nat}{es:Array MapEntry}{c:Nat}(hb:W.heap[b]?=some (.map es c)):v.ownBlock≠some b:=fun e=>ze h hb (fun _ e=>by cases e) b e rfl
theorem yz{W W':World}{B:Nat}{e:TypeId}{s n:Nat}{v:Value}{xs:List Value}(h:W.ownsRow B e s v n xs){b:Nat}(hg:W.grownBy W' (some b))(hne:v.ownBlock≠some b):W'.ownsRow B e s v n xs:=h.kept hg (.inr hne)
theorem IZ.put{w5 wr:World}{bu bs:Nat}{cv:Value}{U:List Sg}{s:Sg}{c:List Sg}(h:IZ w5 wr bu bs cv U s c)(hne:bu≠bs)(hno:U.any (Bc s)=false) :
  ∃W',(Instr.mapUpdate 243 (.map (some bu)) (Ax s) (.bool true)).run Tryz.prog wr=.ok () W'/\IZ w5 W' bu bs cv (U ++ [s]) s c:=by
 obtain⟨W',h1,h2,h3,h4⟩:=h.used.put s hno;refine⟨W',h1,h2,?_,yz h.row h3 (nH h.row h.used),h.but.grown h3 (fun k e=>by cases e;exact .inl (.inl rfl))⟩;exact(h3.block bs (Asd h.box) (by simp;exact fun e=>hne e.symm)).trans h.box
theorem IZ.app{w5 wr W':World}{bu bs:Nat}{cv uW:Value}{U:List Sg}{s t:Sg}{c:List Sg}(h:IZ w5 wr bu bs cv U s c)(hs:bs<w5.heap.size)(hg:(wr.alloc (.cells #[S (R t.a.x),S (R t.a.y),S (R t.b.x),S (R t.b.y)] 183)).grownBy W' cv.ownBlock)
  (ho:W'.ownsRow w5.heap.size 183 4 uW (c.length+1) (Cb (c ++ [t]))):IZ w5 W' bu bs uW U s (c ++ [t]):=by
 have hx:=(Aa.refl wr).alloc (.cells #[S (R t.a.x),S (R t.a.y),S (R t.b.x),S (R t.b.y)] 183);have hr:=h.row.kept (JK hx none) (by cases cv.ownBlock with|none=>exact .inl rfl|some k=>exact .inr (by simp));have hu:EL (wr.alloc (.cells #[S (R t.a.x),S (R t.a.y),S (R t.b.x),S (R t.b.y)] 183)) bu U:=(hx.block bu (Asd h.used)).trans h.used;have hb:=(hx.block bs (Asd h.box)).trans h.box;refine⟨hu.far hg (nH hr hu),(hg.block bs (Asd hb) (fun e=>zj hr hs e.symm)).trans hb,by simpa using ho,?_⟩;exact(h.but.ext hx).own hg hr (Asf _)
theorem IZ.nxt{w5 wr W':World}{bu bs:Nat}{cv:Value}{U:List Sg}{s:Sg}{c:List Sg}(h:IZ w5 wr bu bs cv U s c)(hx:Aa wr W')(hne:bu≠bs)(hs:bs<w5.heap.size)(t:Sg) :
  IZ w5 ((((W'.setCell ⟨bs,0,none⟩ (S (R t.a.x))).setCell ⟨bs,1,none⟩ (S (R t.a.y))).setCell ⟨bs,2,none⟩ (S (R t.b.x))).setCell ⟨bs,3,none⟩ (S (R t.b.y))) bu bs cv U t c:=by
 have hb:=(hx.block bs (Asd h.box)).trans h.box;have hr:=h.row.kept (JK hx none) (by cases cv.ownBlock with|none=>exact .inl rfl|some k=>exact .inr (by simp));have hu:EL W' bu U:=(hx.block bu (Asd h.used)).trans h.used;have far:∀(X:World) (o:Nat) (v:Value) (q:Nat),q≠bs→(X.setCell ⟨bs,o,none⟩ v).heap[q]?=X.heap[q]?:=fun X o v q hq=>Below.heap_setCell _ _ _ _ hq;have BA:=((((h.but.ext hx).setCell (p:=⟨bs,0,none⟩) (.inl (.inr rfl)) (S (R t.a.x))).setCell (p:=⟨bs,1,none⟩) (.inl (.inr rfl)) (S (R t.a.y))).setCell (p:=⟨bs,2,none⟩) (.inl (.inr rfl)) (S (R t.b.x))).setCell (p:=⟨bs,3,none⟩) (.inl (.inr rfl)) (S (R t.b.y));refine⟨?_,Qn _ _ _ _ hb,?_,BA⟩
 ·unfold EL;rw [far _ _ _ _ hne,far _ _ _ _ hne,far _ _ _ _ hne,far _ _ _ _ hne];exact hu
 ·refine DG hr (K:=fun k=>k=bs) ?_ ?_
  ·exact(((((AH.refl (fun k=>k=bs) W').setCell (p:=⟨bs,0,none⟩) (.inl rfl) _).setCell (p:=⟨bs,1,none⟩) (.inl rfl) _).setCell (p:=⟨bs,2,none⟩) (.inl rfl) _).setCell (p:=⟨bs,3,none⟩) (.inl rfl) _)
  ·intro k hk e;subst e;exact zj hr hs hk
theorem tQ{a b c:World}{bu bs:Nat}(hx:Aa a b)(h:AH (fun k=>k=bu∨k=bs) b c)(hs:a.heap.size<=bs):AH (fun k=>k=bu) a c:=
 ⟨h.os.trans hx.os,h.tape.trans hx.tape,h.output.trans hx.output,Asq hx.size h.size,fun k hk hn=>(h.block k (Asp hk hx.size) (by rintro(e|e);exact hn e;omega)).trans (hx.block k hk)⟩
theorem Iy.alloc{B:Nat}{W:World}{out:Value}{C:List (List Sg)}(h:Iy B W out C)(o:Obj):Iy B (W.alloc o) out C:=
 h.keep ((AH.refl (fun _=>False) W).ext ((Aa.refl W).alloc o)) (fun _ _ h=>h.elim)
theorem Tryz.infoStr:(Tryz.prog.info? 9).map (fun i=>(i.zero,i.size,i.bytes))=some (some (S []),1,16):=by kernel_rfl
section
variable {ops : Array Oper} {rest : List Oper} {o : Oper} {a : Act} {K : Act → World → Prop} {Q : Exit → Act → World → Prop} {E : Prop}
theorem AbX(s x:Operand)(ho:o.op=.call {callee:=.builtin .append,args:=#[s,x],argTypes:=#[41,41]})
  (wN:World) (base:Nat) (v:Value) (n:Nat) (l:List Bs) (hs:a.eval s=v) (hown:wN.ownsRow base 9 1 v n (l.map S)) (hn:n<200000) (d:Bs)
  (g:Nat) (hb:wN.heap[g]?=some (.cells #[S d] 9)) (hx:a.eval x=.slice (some ⟨g,0,none⟩) 1 1) (hbase:base<=wN.heap.size)
  (h:∀v' w',w'.ownsRow base 9 1 v' (n+1) ((l ++ [d]).map S)→(∀w0,Aa w0 wN→w0.heap.size<=base→Aa w0 w')→wN.grownBy w' v.ownBlock→K (a.put o.dst v') w') :
  o.wp Tryz.prog a wN K Q:=by
 obtain⟨i0,hi,hz0,hz1,hz2⟩:=info_parts Tryz.infoStr;refine Sj s x 41 ho 9 i0 _ 1 16 1 Tryz.underlying41 hi hz0 hz1 hz2 rfl (by omega) (by omega) (by omega) wN base v n _ hs hown hn g _ hb rfl ?_ hx hbase ?_
 ·intro u hu;simp only [List.mem_cons,Asr,or_false]at hu;rw [hu];rfl
 ·intro v' w' h1 h2 h3;refine h v' w' ?_ h2 h3;rw [List.map_append];exact h1
theorem Aox(hgd:o.guard=none)(s x:Operand)(ho:o.op=.call {callee:=.builtin .append,args:=#[s,x],argTypes:=#[41,41]})
  (wN:World) (base:Nat) (v:Value) (n:Nat) (l:List Bs) (hs:a.eval s=v) (hown:wN.ownsRow base 9 1 v n (l.map S)) (hn:n<200000) (d:Bs)
  (g:Nat) (hb:wN.heap[g]?=some (.cells #[S d] 9)) (hx:a.eval x=.slice (some ⟨g,0,none⟩) 1 1) (hbase:base<=wN.heap.size)
  (h:∀v' w',w'.ownsRow base 9 1 v' (n+1) ((l ++ [d]).map S)→(∀w0,Aa w0 wN→w0.heap.size<=base→Aa w0 w')→wN.grownBy w' v.ownBlock→K (a.put o.dst v') w') :
  if Region.wanted o (yielded ops a.tmps)=true then Oper.wp Tryz.prog o a wN K Q else E:=by
 have hw:Region.wanted o (yielded ops a.tmps)=true:=(by simp [Region.wanted,hgd]);rw [if_pos hw];exact AbX s x ho wN base v n l hs hown hn d g hb hx hbase h
end
structure Ky(wr:World)(B n bx AY bM bU:Nat)(U:Option Addr)(cu:Nat)(AC:List Bs)(P E F:Value)(nums:List Int)(Al:List Bs):Prop where
 cN:wr.heap[bx]?=some (.cells #[.slice (some ⟨AY,0,none⟩) n n] 135)
 num:wr.ownsRow 0 3 1 (.slice (some ⟨AY,0,none⟩) n n) n (zs nums)
 cM:wr.heap[bM]?=some (.cells #[P,E,F] 43)
 fac:wr.ownsRow B 9 1 F Al.length (Al.map S)
 cU:wr.heap[bU]?=some (.cells #[.slice U n cu] 41)
 uni:wr.ownsRow 0 9 1 (.slice U n cu) n (AC.map S)
 uB:∀k,(Value.slice U n cu).ownBlock=some k→k<B
 lenN:nums.length=n
 lenU:AC.length=n
 cu1:n<=cu
 cu2:cu<=9223372036854775807
 rng:∀z∈nums,0<=z/\z<=(Al.length:Int)
 cnt:Al.length+nums.countP (fun z=>z == 0)<=n
 txt:∀s∈Al,s∈AC
theorem Hb{w:World}{i j:Nat}{c1 c2:Array Value}{t1 t2:TypeId}{r1 r2:Nat×Nat}(h1:w.heap[i]?=some (.cells c1 t1 r1))(h2:w.heap[j]?=some (.cells c2 t2 r2))(hne:t1≠t2):i≠j:=by
 rintro rfl;rw [h1]at h2;simp only [Asj,Obj.cells.injEq]at h2;exact hne h2.2.1
theorem AL{w:World}{B:Nat}{e:TypeId}{s n:Nat}{v:Value}{xs:List Value}(h:w.ownsRow B e s v n xs){j:Nat}{c:Array Value}{t:TypeId}{r:Nat×Nat}(hj:w.heap[j]?=some (.cells c t r))(hne:e≠t):v.ownBlock≠some j:=by
 intro k
 rcases h.2 with⟨h',_⟩|⟨g,cap,cur,h',_,hgb,_⟩
 ·rw [h']at k;cases k
 ·rw [h']at k;simp only [Value.ownBlock,Asj]at k;subst k;rw [hgb]at hj;simp only [Asj,Obj.cells.injEq]at hj;exact hne hj.2.1
theorem Kk{w:World}{B n b:Nat}{e:TypeId}{s:Nat}{xs:List Value}{cap:Nat}(h:w.ownsRow B e s (.slice (some ⟨b,0,none⟩) n cap) n xs):∃cur,w.heap[b]?=some (.cells cur e (0,0)):=by
 rcases h.2 with⟨h',_⟩|⟨g,cap,cur,h',_,hgb,_⟩
 ·cases h'
 ·simp only [Value.slice.injEq,Asj,Addr.mk.injEq,and_true,true_and]at h';obtain⟨rfl,-⟩:=h';exact⟨cur,hgb⟩
theorem EP{w:World}{p:Addr}{v:Value}{q:Nat}(h:q≠p.block):(w.setCell p v).heap[q]?=w.heap[q]?:=Below.heap_setCell _ _ _ _ h
theorem dN{w:World}{b:Nat}{a0 a1 a2:Value}{t:TypeId}(v:Value)(h:w.heap[b]?=some (.cells #[a0,a1,a2] t)):(w.setCell ⟨b,2,none⟩ v).heap[b]?=some (.cells #[a0,a1,v] t):=by
 simp only [World.setCell,Array.getElem?_modify,h];simp
theorem pQ(l:List Int)(m:Nat)(z:Int):(zs l).set m (.int .i64 z)=zs (l.set m z):=by simp [zs]
theorem uU:∀(l:List Int) (m:Nat) (z:Int) (h:m<l.length),l[m]=0→z≠0→(l.set m z).countP (fun z=>z == 0)+1=l.countP (fun z=>z == 0)
 | a::l,0,z,_,h0,hz=>by
  simp only [List.getElem_cons_zero]at h0;subst h0;have:(z == 0)=false:=beq_false_of_ne hz;simp [this]
 | a::l,m+1,z,h,h0,hz=>by have:=uU l m z (by simpa using h) (by simpa using h0) hz;simp only [List.set_cons_succ,List.countP_cons];omega
theorem Ky.extn{w w':World}{B n bx AY bM bU:Nat}{U:Option Addr}{cu:Nat}{AC:List Bs}{P E F:Value}{nums:List Int}{Al:List Bs}(h:Ky w B n bx AY bM bU U cu AC P E F nums Al)(hx:Aa w w'):Ky w' B n bx AY bM bU U cu AC P E F nums Al:=
 ⟨(hx.block _ (Asd h.cN)).trans h.cN,Ap h.num hx,(hx.block _ (Asd h.cM)).trans h.cM,Ap h.fac hx,(hx.block _ (Asd h.cU)).trans h.cU,Ap h.uni hx,h.uB,h.lenN,h.lenU,h.cu1,h.cu2,h.rng,h.cnt,h.txt⟩
theorem Ky.step{w:World}{B n bx AY bM bU:Nat}{U:Option Addr}{cu:Nat}{AC:List Bs}{P E F:Value}{nums:List Int}{Al:List Bs}(h:Ky w B n bx AY bM bU U cu AC P E F nums Al){m:Nat}(hm:m<nums.length)(hz:nums[m]=0){s:Bs}(hs:s∈AC){X:Obj}{W7:World}{F':Value}
  (hg:((w.alloc X).drew).grownBy W7 F.ownBlock) (ho:W7.ownsRow B 9 1 F' (Al.length+1) ((Al ++ [s]).map S)) :
  Ky ((W7.setCell ⟨bM,2,none⟩ F').setCell ⟨AY,m,none⟩ (.int .i64 ((Al.length:Int)+1))) B n bx AY bM bU U cu AC P E F' (nums.set m ((Al.length:Int)+1)) (Al ++ [s])/\AH (fun k=>k=AY∨k=bM∨F.ownBlock=some k) w ((W7.setCell ⟨bM,2,none⟩ F').setCell ⟨AY,m,none⟩ (.int .i64 ((Al.length:Int)+1)))
  /\(W7.setCell ⟨bM,2,none⟩ F').heap[bx]?=some (.cells #[.slice (some ⟨AY,0,none⟩) n n] 135)/\(W7.setCell ⟨bM,2,none⟩ F').heap[bM]?=some (.cells #[P,E,F'] 43)/\(W7.setCell ⟨bM,2,none⟩ F').ownsRow 0 3 1 (.slice (some ⟨AY,0,none⟩) n n) n (zs nums):=by
 obtain⟨cn,By⟩:=Kk h.num;have E4:Aa w ((w.alloc X).drew):=((Aa.refl w).alloc X).drew;have n1:=Hb By h.cM (by decide);have n2:=Hb h.cN By (by decide);have n3:=Hb h.cN h.cM (by decide);have n4:=Hb h.cU By (by decide);have n5:=Hb h.cU h.cM (by decide);have f1:=AL h.fac By (by decide);have f2:=AL h.fac h.cM (by decide);have f3:=AL h.fac h.cN (by decide);have f4:=AL h.fac h.cU (by decide);have g7:∀{j:Nat} {o:Obj},w.heap[j]?=some o→F.ownBlock≠some j→W7.heap[j]?=some o:=fun {j o} hj hn=>(hg.block j (Asp (Asd hj) E4.size) (fun e=>hn e.symm)).trans ((E4.block j (Asd hj)).trans hj);have OO:=g7 h.cM f2;have hN7:=g7 By f1;have Q7:AH (fun k=>k=AY∨k=bM∨F.ownBlock=some k) w W7:=((AH.refl _ w).ext E4).grown hg (fun k e=>.inl (.inr (.inr e)));have JO:=(Q7.setCell (p:=⟨bM,2,none⟩) (.inl (.inr (.inl rfl))) F').setCell (p:=⟨AY,m,none⟩) (.inl (.inl rfl)) (.int .i64 ((Al.length:Int)+1))
 have o7:W7.ownsRow 0 3 1 (.slice (some ⟨AY,0,none⟩) n n) n (zs nums):=(Ap h.num E4).kept hg (by
  cases hF:F.ownBlock with
  | none=>exact .inr (by simp [Value.ownBlock])
  | some k=>refine .inr (fun e=>f1 ?_);rw [hF];exact e.symm)
 have o8:=DG (K:=fun k=>k=bM) o7 ((AH.refl (fun k=>k=bM) W7).setCell (p:=⟨bM,2,none⟩) (.inl rfl) F') (fun k hk e=>by simp only [Value.ownBlock,Asj]at hk;omega);have o9:=(o8.stored m (.int .i64 ((Al.length:Int)+1))).1;rw [pQ]at o9;have q1:=AL ho OO (by decide);have q2:=AL ho hN7 (by decide);refine⟨⟨?_,o9,?_,?_,?_,?_,h.uB,by rw [List.length_set];exact h.lenN,h.lenU,h.cu1,h.cu2,?_,?_,?_⟩,JO,by rw [EP (by show bx≠bM;exact n3)];exact g7 h.cN f3,dN F' OO,o8⟩
 ·rw [EP (by show bx≠AY;exact n2),EP (by show bx≠bM;exact n3)];exact g7 h.cN f3
 ·rw [EP (by show bM≠AY;exact fun e=>n1 e.symm)];exact dN F' OO
 ·rw [List.length_append,List.length_singleton];refine DG (K:=fun k=>k=AY∨k=bM) ho (((AH.refl (fun k=>k=AY∨k=bM) W7).setCell (p:=⟨bM,2,none⟩) (.inl (.inr rfl)) F').setCell (p:=⟨AY,m,none⟩) (.inl (.inl rfl)) _) ?_;rintro k hk (e|e)
  ·subst e;exact q2 hk
  ·subst e;exact q1 hk
 ·rw [EP (by show bU≠AY;exact n4),EP (by show bU≠bM;exact n5)];exact g7 h.cU f4
 ·have u1:=Ap h.uni E4
  have u2:=u1.kept hg (by
   cases hF:(Value.slice U n cu).ownBlock with
   | none=>exact .inl rfl
   | some k=>
    refine .inr (fun e=>?_);have h1:=h.uB k hF;have h2:=(h.fac.lt k e.symm).1
    omega)
  refine DG (K:=fun k=>k=AY∨k=bM) u2 (((AH.refl (fun k=>k=AY∨k=bM) W7).setCell (p:=⟨bM,2,none⟩) (.inl (.inr rfl)) F').setCell (p:=⟨AY,m,none⟩) (.inl (.inl rfl)) _) ?_;rintro k hk (e|e)
  ·subst e;exact AL h.uni By (by decide) hk
  ·subst e;exact AL h.uni h.cM (by decide) hk
 ·intro z hz';rw [List.length_append,List.length_singleton]
  rcases List.mem_or_eq_of_mem_set hz' with k|k
  ·have:=h.rng z k;omega
  ·omega
 ·have h1:=uU nums m ((Al.length:Int)+1) hm hz (by omega);have h2:=h.cnt;rw [List.length_append,List.length_singleton];omega
 ·intro x hx
  rcases List.mem_append.1 hx with k|k
  ·exact h.txt x k
  ·simp only [Ass]at k;rw [k];exact hs
def AdE(w:World)(B n bx AY bM bU:Nat)(U:Option Addr)(cu:Nat)(AC:List Bs)(P E F:Value)(e:Ending)(w':World):Prop:=
 ∃z F' Zr Nf,e=.returned (.int .i64 z)/\Ky w' B n bx AY bM bU U cu AC P E F' Zr Nf/\AH (fun k=>k=AY∨k=bM∨F.ownBlock=some k) w w'
theorem xu{w:World}{B n bx AY bM bU:Nat}{U:Option Addr}{cu:Nat}{AC:List Bs}{P E F:Value}{nums:List Int}{Al:List Bs}(h:Ky w B n bx AY bM bU U cu AC P E F nums Al)(hn:n<=100000)(hB:B<=w.heap.size)(f:Int)(hf0:-1<=f)(Dk:f<(n:Int)) :
  Calls Tryz.prog 158 #[.int .i64 f,.pointer (some ⟨bx,0,none⟩),.pointer (some ⟨bM,0,none⟩),.pointer (some ⟨bU,0,none⟩)] w (AdE w B n bx AY bM bU U cu AC P E F):=by
 by_cases GI:f<0
 ·go_enter Tryz.func158,Tryz.ntmps158;go_wp2;go_ret;exact⟨-1,F,nums,Al,rfl,h,AH.refl _ _⟩
 ·obtain⟨m,rfl⟩:∃m:Nat,f=(m:Int):=⟨f.toNat,by omega⟩;have hm:m<n:=(by omega);have hm0:(0:Int)<=(m:Int):=(by omega);have k0:=Ab (o:=0) h.cN rfl;obtain⟨z,hz⟩:∃z,z=nums[m]'(by rw [h.lenN];exact hm):=⟨_,rfl⟩
  have hc:w.cell? ⟨AY,m,none⟩=some (.int .i64 z):=by rw [h.num.cellAt m (by omega),hz];simp [zs,Asl (show m<nums.length by rw [h.lenN];exact hm)]
  have hr:=h.rng z (by rw [hz];exact Asg _);have QJ:Al.length<=n:=(by have:=h.cnt;omega);by_cases hz0:z=0
  ·subst hz0;have HZ:=Asb hz;clear hz;have Hm:=h.lenU;obtain⟨U',cu',Ib,hrU,-,-⟩:=Am.of_own' (by omega) h.uni;simp only [Value.slice.injEq,true_and]at Ib;obtain⟨rfl,rfl⟩:=Ib;obtain⟨bu,ou,rfl,hu⟩:=hrU.ad (by simp;omega);have hum:=hu m (by simp;omega);obtain⟨s,hs⟩:∃s,s=AC[m]'(by rw [Hm];exact hm):=⟨_,rfl⟩;rw [List.getElem_map,←hs]at hum;have HS:=Asb hs;clear hs;obtain⟨oF,cF,rfl,-,-,-⟩:=Am.of_own' (by omega) h.fac;have k1:w.cell? ⟨bM,2,none⟩=some (.slice oF Al.length cF):=Ab h.cM rfl;have k2:=Ab (o:=0) h.cU rfl;have Art:(m:Int)<(n:Int):=(by omega);clear hu;go_enter Tryz.func158,Tryz.ntmps158
   go_upto_region 4 with fail
   have hFM:(Value.slice oF Al.length cF).ownBlock≠some bM:=AL h.fac h.cM (by decide);have Ahy:=Asd h.cM;have hfc:=h.fac;have hcM:=h.cM;have Aiy:Al.length<200000:=by omega
   go_region_law (refine Aox rfl _ _ rfl _ B (.slice oF Al.length cF) Al.length Al rfl (Ap hfc (by first|exact(Aa.refl w).alloc _|exact((Aa.refl w).alloc _).drew)) Aiy s w.heap.size (Ase w _) rfl (by simp;omega) ?_;intro v7 w7 Gw LZ Gt;obtain⟨Vf,SJ,rfl,-,-,-⟩:=Am.of_own' (by omega) Gw;have OO:=(Gt.block bM (by simp;omega) (fun e=>hFM e.symm)).trans ((((Aa.refl w).alloc _).block bM Ahy).trans hcM);have e1:w7.cell? ⟨bM,2,none⟩=some (.slice oF Al.length cF):=Ab OO rfl;have e2:=An (o:=2) OO)
   all_goals (
    obtain⟨N9,B9,x1,x2,x3⟩:=h.step (m:=m) (by rw [h.lenN];exact hm) HZ.out.symm (s:=s) (by rw [HS.out];exact Asg _) Gt Gw;have y1:=Ab (o:=0) x1 rfl;have y2:(w7.setCell ⟨bM,2,none⟩ (.slice Vf (Al.length+1) SJ)).cell? ⟨bM,2,none⟩=some (.slice Vf (Al.length+1) SJ):=Ab x2 rfl
    have y3:(w7.setCell ⟨bM,2,none⟩ (.slice Vf (Al.length+1) SJ)).cell? ⟨AY,m,none⟩=some (.int .i64 0):=by rw [x3.cellAt m (by omega)];have:=HZ.out;simp [zs,Asl (show m<nums.length by rw [h.lenN];exact hm),←this]
    have y4:=x3.frozenAt m;have v1:=Ab (o:=0) N9.cN rfl
    have v2:(((w7.setCell ⟨bM,2,none⟩ (.slice Vf (Al.length+1) SJ)).setCell ⟨AY,m,none⟩ (.int .i64 ((Al.length:Int)+1)))).cell? ⟨AY,m,none⟩=some (.int .i64 ((Al.length:Int)+1)):=by rw [N9.num.cellAt m (by omega)];simp [zs,show m<nums.length by rw [h.lenN];exact hm]
    have hwr:IntKind.wrap .i64 (((Al.length:Int)+1)-1)=(Al.length:Int):=(by rw [Asm _ (by omega)];omega);clear OO e1 e2 Gt Gw LZ x1 x2 x3;generalize (w7.setCell ⟨bM,2,none⟩ (.slice Vf (Al.length+1) SJ))=W8 at *;have HN:=Asb N9;have HB:=Asb B9;clear N9 B9;go_wp2;go_ret
    exact⟨(Al.length:Int),_,_,_,by go_num,HN.out,HB.out⟩)
  ·have hzw:IntKind.wrap .i64 (z-1)=z-1:=Asm _ (by omega);clear hz;go_enter Tryz.func158,Tryz.ntmps158;go_wp2;go_ret;exact⟨z-1,F,nums,Al,rfl,h,AH.refl _ _⟩
end Go.Proofs.YtdaefncphfeaeaaGreatDoor
