/- K26: ShC3 ShC4 ShD1 ShD3 ShD6. -/
import Derived.Test.YtgnejnampofhoaaGreatDoorK24
import Derived.Test.YtgnejnampofhoaaGreatDoorK19
set_option maxRecDepth 100000
set_option maxHeartbeats 16000000
namespace Go.Proofs.YtgnejnampofhoaaGreatDoor
open Go.RowKit Kl
theorem Bw{K:Nat→Prop}{W W':World}{B:Nat}{e:TypeId}{s n:Nat}{v:Value}{xs:List Value}(h:W.ownsRow B e s v n xs)(hb:Ax K W W')(hK:∀k,v.ownBlock=some k→¬K k):W'.ownsRow B e s v n xs:=by
 refine⟨h.1,?_⟩
 rcases h.2 with h'|⟨g,cap,cur,rfl,hg,hgb,h4⟩
 ·exact .inl h'
 ·exact .inr ⟨g,cap,cur,rfl,hg,hb.cells hgb (hK g rfl),h4⟩
theorem wU{W:World}{B:Nat}{e:TypeId}{s n:Nat}{v:Value}{xs:List Value}(h:W.ownsRow B e s v n xs){j:Nat}{o:Obj}(hj:W.heap[j]?=some o)(hno:∀cur,o≠.cells cur e (0,0)):∀k,v.ownBlock=some k→k≠j:=by
 intro k hk e;subst e
 rcases ownsRow_ne h hj hno with h1|h1
 ·rw [h1]at hk;cases hk
 ·exact h1 hk
def IX(B:Nat)(W:World)(out:Value)(C:List (List Sg)):Prop:=
 ∃vs,W.ownsRow B 180 1 out C.length vs/\∀j (h:j<C.length),∃v,vs[j]?=some v/\W.ownsRow B 175 4 v C[j].length (Cb C[j])
theorem IX.keep{K:Nat→Prop}{W W':World}{B:Nat}{out:Value}{C:List (List Sg)}(h:IX B W out C)(hb:Ax K W W')(hK:∀k,k<W.heap.size→K k→∀cs e,W.heap[k]?≠some (.cells cs e (0,0))):IX B W' out C:=by
 obtain⟨vs,ho,hr⟩:=h
 have main:∀{e:TypeId} {s n:Nat} {v:Value} {xs:List Value},W.ownsRow B e s v n xs→W'.ownsRow B e s v n xs:=by
  intro e s n v xs h;refine Bw h hb ?_;intro k hk hKk
  rcases h.2 with⟨h',_⟩|⟨g,cap,cur,h',_,hgb,_⟩
  ·rw [h']at hk;cases hk
  ·rw [h']at hk;simp only [Value.ownBlock,Aj3]at hk;subst hk;exact hK g (Ajx hgb) hKk _ _ hgb
 exact⟨vs,main ho,fun j hj=>by obtain⟨v,h1,h2⟩:=hr j hj;exact⟨v,h1,main h2⟩⟩
theorem IX.nil(B:Nat)(W:World):IX B W (.slice none 0 0) []:=⟨[],⟨rfl,.inl ⟨rfl,rfl⟩⟩,fun j h=>by simp at h⟩
theorem Aew{W W':World}{B:Nat}{out out' cv:Value}{C:List (List Sg)}{c:List Sg}{vs:List Value}(ho:W.ownsRow B 180 1 out C.length vs)(hr:∀j (h:j<C.length),∃v,vs[j]?=some v/\W.ownsRow B 175 4 v C[j].length (Cb C[j]))
  (hc:W.ownsRow B 175 4 cv c.length (Cb c)) (hg:W.grownBy W' out.ownBlock) (Zw:W'.ownsRow B 180 1 out' (C.length+1) (vs ++ [cv])):IX B W' out' (C ++ [c]):=by
 have hne:175≠180:=by decide
 have main:∀{n:Nat} {v:Value} {xs:List Value},W.ownsRow B 175 4 v n xs→W'.ownsRow B 175 4 v n xs:=by
  intro n v xs h;refine h.kept hg ?_
  rcases ho.2 with⟨h',_⟩|⟨g,cap,cur,h',_,hgb,_⟩
  ·rw [h']
   cases v.ownBlock with
   | none=>exact .inl rfl
   | some k=>exact .inr (by simp [Value.ownBlock])
  ·rcases ownsRow_ne h hgb (fun cur e=>hne (Obj.cells.inj e).2.1.symm)with h1|h1
   ·exact .inl h1
   ·right;rw [h'];exact h1
 have hl:vs.length=C.length:=(by have:=ho.1;omega);refine⟨vs ++ [cv],by rw [List.length_append];exact Zw,fun j hj=>?_⟩;by_cases AP:j<C.length
 ·obtain⟨v,h1,h2⟩:=hr j AP;refine⟨v,by rw [List.getElem?_append_left (by omega)];exact h1,?_⟩;rw [List.getElem_append_left AP];exact main h2
 ·have:j=C.length:=(by simp at hj;omega);subst this;refine⟨cv,by rw [List.getElem?_append_right (by omega)];simp [hl],?_⟩;rw [List.getElem_append_right (Ajz _)];simp only [Nat.sub_self,List.getElem_cons_zero];exact main hc
structure Li(W:World)(A:Option Addr)(cap:Nat)(C:List (List Sg)):Prop where
 cap1:C.length<=cap
 cap2:cap<=9223372036854775807
 row:∀j (h:j<C.length),∃b o A' c',A=some ⟨b,o,none⟩/\W.cell? ⟨b,o+j,none⟩=some (.slice A' C[j].length c')/\Ae W A' (Cb C[j])/\C[j].length<=c'/\c'<=9223372036854775807
theorem Li.ext{W W':World}{A:Option Addr}{cap:Nat}{C:List (List Sg)}(h:Li W A cap C)(hx:Ac W W'):Li W' A cap C:=
 ⟨h.cap1,h.cap2,fun j hj=>by
  obtain⟨b,o,A',c',h1,h2,h3,h4,h5⟩:=h.row j hj
  exact⟨b,o,A',c',h1,hx.cellS h2,h3.ext hx,h4,h5⟩⟩
theorem IX.cycs{B:Nat}{W:World}{out:Value}{C:List (List Sg)}(h:IX B W out C):∃A cap,out=.slice A C.length cap/\Li W A cap C:=by
 obtain⟨vs,ho,hr⟩:=h;obtain⟨A,cap,he,Bi,h1,h2⟩:=Ae.of_own' (by omega) ho;refine⟨A,cap,he,h1,h2,fun j hj=>?_⟩;have hl:vs.length=C.length:=(by have:=ho.1;omega);obtain⟨b,o,e,hc⟩:=Bi.ad (by omega);obtain⟨v,g1,g2⟩:=hr j hj;obtain⟨A',c',e',r1,r2,r3⟩:=Ae.of_own' (by omega) g2;have:=hc j (by omega);rw [Aj4 (by omega),Aj3]at g1;rw [g1,e']at this;exact⟨b,o,A',c',e,this,r1,r2,r3⟩
structure Hh(w5 wr:World)(bu bs:Nat)(cv:Value)(U:List Sg)(s:Sg)(c:List Sg):Prop where
 used:DF wr bu U
 box:wr.heap[bs]?=some (.cells #[S (R s.a.x),S (R s.a.y),S (R s.b.x),S (R s.b.y)] 175)
 row:wr.ownsRow w5.heap.size 175 4 cv c.length (Cb c)
 but:Ax (fun k=>k=bu∨k=bs) w5 wr
def aK(w:World)(b:Nat):Nat:=match w.heap[b]? with|some (.map es _)=>es.size|_=>0
theorem DF.size{W:World}{b:Nat}{U:List Sg}(h:DF W b U):aK W b=U.length:=by
 unfold DF at h;unfold aK;rw [h];simp [AH,IM,Im]
theorem DF.far{W W':World}{b:Nat}{U:List Sg}(h:DF W b U){row:Option Nat}(hg:W.grownBy W' row)(hr:row≠some b):DF W' b U:=(hg.block b (Ajx h) (fun e=>hr e.symm)).trans h
theorem wW{W:World}{B:Nat}{e:TypeId}{s n:Nat}{v:Value}{xs:List Value}(h:W.ownsRow B e s v n xs){b:Nat}(hb:b<B):v.ownBlock≠some b:=by
 intro e;have:=(h.lt b e).1;omega
theorem Vi{W:World}{B:Nat}{e:TypeId}{s n:Nat}{v:Value}{xs:List Value}(h:W.ownsRow B e s v n xs){b:Nat}{es:Array MapEntry}{c:Nat}(hb:W.heap[b]?=some (.map es c)):v.ownBlock≠some b:=fun e=>wU h hb (fun _ e=>by cases e) b e rfl
theorem wR{W W':World}{B:Nat}{e:TypeId}{s n:Nat}{v:Value}{xs:List Value}(h:W.ownsRow B e s v n xs){b:Nat}(hg:W.grownBy W' (some b))(hne:v.ownBlock≠some b):W'.ownsRow B e s v n xs:=h.kept hg (.inr hne)
theorem Hh.put{w5 wr:World}{bu bs:Nat}{cv:Value}{U:List Sg}{s:Sg}{c:List Sg}(h:Hh w5 wr bu bs cv U s c)(hne:bu≠bs)(hno:U.any (AN s)=false) :
  ∃W',(Instr.mapUpdate 318 (.map (some bu)) (AC s) (.bool true)).run Tryz.prog wr=.ok () W'/\Hh w5 W' bu bs cv (U ++ [s]) s c:=by
 obtain⟨W',h1,h2,h3,h4⟩:=h.used.put s hno;refine⟨W',h1,h2,?_,wR h.row h3 (Vi h.row h.used),h.but.grown h3 (fun k e=>by cases e;exact .inl (.inl rfl))⟩;exact(h3.block bs (Ajx h.box) (by simp;exact fun e=>hne e.symm)).trans h.box
theorem Hh.app{w5 wr W':World}{bu bs:Nat}{cv kR:Value}{U:List Sg}{s t:Sg}{c:List Sg}(h:Hh w5 wr bu bs cv U s c)(hs:bs<w5.heap.size)(hg:(wr.alloc (.cells #[S (R t.a.x),S (R t.a.y),S (R t.b.x),S (R t.b.y)] 175)).grownBy W' cv.ownBlock)
  (ho:W'.ownsRow w5.heap.size 175 4 kR (c.length+1) (Cb (c ++ [t]))):Hh w5 W' bu bs kR U s (c ++ [t]):=by
 have hx:=(Ac.refl wr).alloc (.cells #[S (R t.a.x),S (R t.a.y),S (R t.b.x),S (R t.b.y)] 175);have hr:=h.row.kept (Ge hx none) (by cases cv.ownBlock with|none=>exact .inl rfl|some k=>exact .inr (by simp));have hu:DF (wr.alloc (.cells #[S (R t.a.x),S (R t.a.y),S (R t.b.x),S (R t.b.y)] 175)) bu U:=(hx.block bu (Ajx h.used)).trans h.used;have hb:=(hx.block bs (Ajx h.box)).trans h.box;refine⟨hu.far hg (Vi hr hu),(hg.block bs (Ajx hb) (fun e=>wW hr hs e.symm)).trans hb,by simpa using ho,?_⟩;exact(h.but.ext hx).own hg hr (Ajz _)
theorem Hh.nxt{w5 wr W':World}{bu bs:Nat}{cv:Value}{U:List Sg}{s:Sg}{c:List Sg}(h:Hh w5 wr bu bs cv U s c)(hx:Ac wr W')(hne:bu≠bs)(hs:bs<w5.heap.size)(t:Sg) :
  Hh w5 ((((W'.setCell ⟨bs,0,none⟩ (S (R t.a.x))).setCell ⟨bs,1,none⟩ (S (R t.a.y))).setCell ⟨bs,2,none⟩ (S (R t.b.x))).setCell ⟨bs,3,none⟩ (S (R t.b.y))) bu bs cv U t c:=by
 have hb:=(hx.block bs (Ajx h.box)).trans h.box;have hr:=h.row.kept (Ge hx none) (by cases cv.ownBlock with|none=>exact .inl rfl|some k=>exact .inr (by simp));have hu:DF W' bu U:=(hx.block bu (Ajx h.used)).trans h.used;have far:∀(X:World) (o:Nat) (v:Value) (q:Nat),q≠bs→(X.setCell ⟨bs,o,none⟩ v).heap[q]?=X.heap[q]?:=fun X o v q hq=>Below.heap_setCell _ _ _ _ hq;have Bf:=((((h.but.ext hx).setCell (p:=⟨bs,0,none⟩) (.inl (.inr rfl)) (S (R t.a.x))).setCell (p:=⟨bs,1,none⟩) (.inl (.inr rfl)) (S (R t.a.y))).setCell (p:=⟨bs,2,none⟩) (.inl (.inr rfl)) (S (R t.b.x))).setCell (p:=⟨bs,3,none⟩) (.inl (.inr rfl)) (S (R t.b.y));refine⟨?_,Oc _ _ _ _ hb,?_,Bf⟩
 ·unfold DF;rw [far _ _ _ _ hne,far _ _ _ _ hne,far _ _ _ _ hne,far _ _ _ _ hne];exact hu
 ·refine Bw hr (K:=fun k=>k=bs) ?_ ?_
  ·exact(((((Ax.refl (fun k=>k=bs) W').setCell (p:=⟨bs,0,none⟩) (.inl rfl) _).setCell (p:=⟨bs,1,none⟩) (.inl rfl) _).setCell (p:=⟨bs,2,none⟩) (.inl rfl) _).setCell (p:=⟨bs,3,none⟩) (.inl rfl) _)
  ·intro k hk e;subst e;exact wW hr hs hk
theorem jE{a b c:World}{bu bs:Nat}(hx:Ac a b)(h:Ax (fun k=>k=bu∨k=bs) b c)(hs:a.heap.size<=bs):Ax (fun k=>k=bu) a c:=
 ⟨h.os.trans hx.os,h.tape.trans hx.tape,h.output.trans hx.output,Aj9 hx.size h.size,fun k hk hn=>(h.block k (Aj8 hk hx.size) (by rintro(e|e);exact hn e;omega)).trans (hx.block k hk)⟩
theorem kV{w0 w:World}(hw:Ao w0)(hx:Ac w0 w){B:Nat}{r b1 b2:Nat}{L:List (Sg×Int)}{E:List (Pt×Value×Nat)}{R0:List (Pt×List Pt)}(h:Br B w r b1 b2 L E R0)(hN:Ey (L.map (·.1)) R0)(hW:Oa (L.map (·.1)))(hlen:L.length<=100000)(hrl:∀e∈R0,e.2.length<100000) :
  Calls Tryz.prog 192 #[.pointer (some ⟨r,0,none⟩)] w fun e w'=>∃A cap,e=.returned (.slice A (GL (L.map (·.1)) R0).length cap)/\Li w' A cap (GL (L.map (·.1)) R0)/\Ac w w':=by
 have hmm:=@run_makeMap Tryz.prog;have n1:=Aa (o:=0) h.cell rfl;obtain⟨Ws,LO⟩:=Ajv (L.map (·.1));have oO:Ws.length=L.length:=(by rw [LO];simp);obtain⟨C,hC⟩:=Ajv (GL Ws R0);rw [←LO]at hN hW ⊢;rw [←hC];have HC:=Ajw hC;have HN:=Ajw hN;have HW:=Ajw hW;have JH:=Ajw hrl;have O8:=Ajy w (.map #[] 0);have BK:=(Ac.refl w).alloc (.map #[] 0);have Yd:=h.ext BK;have hs1:(w.alloc (.map #[] 0)).heap.size=w.heap.size+1:=(by simp);have kw:=fun mb W=>aF mb W;have hb0:=h.left;have rO:=Ajx h.cell;have hsw:∀e∈L,EW 1 e.1:=fun e he=>hW.sz e.1 (by rw [LO];exact List.mem_map_of_mem he);have km:=Ajw hsw;have SX:=Ajw oO;have Ls:=Ajw LO;clear hC hN hW hrl hsw oO LO;go_enter Tryz.func192,Tryz.ntmps192
 go_upto_region 3 with fail
 generalize w.alloc (.map #[] 0)=W1 at *;obtain⟨bu,qD⟩:=Ajv w.heap.size;rw [←qD]at O8 ⊢;have FT:w.heap.size<=bu:=(by omega);have If:bu<W1.heap.size:=(by omega);clear qD hs1;have m1:=Aa (o:=0) Yd.cell rfl;(go_wp2_with fail);(with_reducible refine(kw _ _).mono ?_);rintro e w2 ⟨rfl,hw2⟩;have Ca:Ac W1 w2:=(by rw [hw2];exact(Ac.refl W1).alloc _);have C2:=Ajy W1 (.cells #[.map (some b1)] 162);rw [←hw2]at C2;have Ji:=Yd.ext Ca;have hx2:=(hx.trans BK).trans Ca;have hBm:W1.heap.size<w2.heap.size:=Ajx C2;have sk:=dF hw hx2 W1.heap.size b1 L hBm (Aa C2 rfl) Ji.left km.out (by omega);clear hw2 m1 n1 kw;(go_wp2_with fail);(with_reducible refine sk.mono ?_);rintro e w3 ⟨sv,rfl,Df,Bh⟩;rw [←Ls.out]at Df;have Iy:Ac w w3:=(BK.trans Ca).trans Bh;have Gh:=Ji.ext Bh;have ZI:w3.heap[bu]?=some (.map #[] 0):=((Ca.trans Bh).block bu If).trans O8;have hU0:DF w3 bu []:=ZI;have Dp:(BB Ws).length=L.length:=(by rw [(IL Ws).length_eq];exact SX.out);obtain⟨sA,sc,rfl,-,-,-⟩:=Ae.of_own' (by omega) Df;have hx3:Ac w0 w3:=hx.trans Iy;have Aif:bu<w3.heap.size:=Ajx ZI;have Ip:=Ajw Dp;have fK:=Ajw Df;have Hg:=Ajw h;clear sk C2 hBm Ji hx2 Ca BK Bh O8 If Yd hb0 Dp Df h hx Gh;have hl0:(0:Int)<=(L.length:Int):=by omega
 go_upto_region 4 with fail
 go_loopw [3,16] (fun out i wr=>∃(k:Nat) (st:List Sg×List (List Sg)),i=.int .i64 (k:Nat)/\k<=L.length/\st=((BB Ws).take k).foldl (FA Ws.length R0) ([],[])/\IX w3.heap.size wr out st.2/\DF wr bu st.1/\Ax (fun j=>j=bu) w3 wr) (fun _ i _=>L.length-(intOf i).toNat)
 case atStart=>exact⟨0,([],[]),rfl,by omega,by simp,IX.nil _ _,hU0,Ax.refl _ _⟩
 case round=>
  obtain⟨k,st,rfl,hk,hst,hO,hU,hB⟩:=hrel;have HST:=Ajw hst;clear hst;have Df:=Bw fK.out hB (fun j hj e=>wU fK.out ZI (fun _ e=>by cases e) j hj e);have BQ:Ac w wr:=hB.toExt Iy (fun j e=>by subst e;exact FT);by_cases hlt:k<L.length
  ·obtain⟨sA',sc',ON,OO,-,-⟩:=Ae.of_own' (by omega) Df;simp only [Value.slice.injEq,true_and]at ON;obtain⟨rfl,rfl⟩:=ON;obtain⟨b,o,rfl,g1,g2,g3,g4⟩:=J4 OO (show k<(BB Ws).length by rw [Ip.out];exact hlt);obtain⟨s0,hs0⟩:∃s,s=(BB Ws)[k]'(by rw [Ip.out];exact hlt):=⟨_,rfl⟩;rw [←hs0]at g1 g2 g3 g4
   have hstep:((BB Ws).take (k+1)).foldl (FA Ws.length R0) ([],[])=FA Ws.length R0 st s0:=by rw [Aj2 (show k<(BB Ws).length by rw [Ip.out];exact hlt),List.foldl_append,←HST.out,←hs0];rfl
   have ZA:s0∈Ws:=(IL Ws).mem_iff.1 (by rw [hs0];exact Aj0 _);obtain⟨Fh,-⟩:=kT HN.out k (by rw [Ip.out];omega);rw [←HST.out]at Fh;have hlU:=Ju Fh.nd Fh.sub;obtain⟨dd,e1,e2,e3,-,-⟩:=cS HN.out (Ws.length-st.1.length+1) st.1 s0 [] Fh.nd Fh.sub ZA (by omega);have Rc:dd.length<=Ws.length:=Ju (List.nodup_append.1 e2).2.1 e3;have gj:=Ajw Rc;have PQ:=Ajw e1;have SV:=Ajw hstep;have IR:=Ajw Fh;have kg:=Ajw ZA;have AO:=Ajy wr (.cells #[S (R s0.a.x),S (R s0.a.y),S (R s0.b.x),S (R s0.b.y)] 175);have E4:=(Ac.refl wr).alloc (.cells #[S (R s0.a.x),S (R s0.a.y),S (R s0.b.x),S (R s0.b.y)] 175);have UA:wr.heap.size<(wr.alloc (.cells #[S (R s0.a.x),S (R s0.a.y),S (R s0.b.x),S (R s0.b.y)] 175)).heap.size:=(by simp);have k0:(0:Int)<=(k:Int):=(by omega);have k1:(k:Int)<(L.length:Int):=(by omega);clear hs0 hstep Fh e1 e2 e3 Rc ZA Df OO hlU
   go_upto_region 6 with fail
   unfold S at AO E4 UA;generalize Yy:wr.alloc (.cells #[.string ⟨(R s0.a.x).toArray⟩,.string ⟨(R s0.a.y).toArray⟩,.string ⟨(R s0.b.x).toArray⟩,.string ⟨(R s0.b.y).toArray⟩] 175)=W4 at *;obtain⟨bs,QX⟩:=Ajv wr.heap.size;rw [←QX]at AO UA ⊢;have Acc:bu<wr.heap.size:=Ajx hU;have hne:bu≠bs:=(by omega);have LO:wr.heap.size<=bs:=(by omega);have AiO:=hB.size;clear Yy QX g1 g2 g3 g4;have Hu:Hh W4 W4 bu bs (.slice none 0 0) st.1 s0 []:=⟨(E4.block bu Acc).trans hU,AO,⟨rfl,.inl ⟨rfl,rfl⟩⟩,Ax.refl _ _⟩;have ip:=Ajw Hu;clear Hu AO
   go_upto_region 7 with fail
   go_loopw [7] (fun cv wi=>∃(U:List Sg) (s:Sg) (c:List Sg),Hh W4 wi bu bs cv U s c/\s∈Ws/\U.Nodup/\(∀t∈U,t∈Ws)/\G3 R0 (Ws.length-U.length+1) U s c=(st.1++dd,dd)) (fun _ wi=>L.length-aK wi bu)
   case atStart=>exact⟨st.1,s0,[],ip.out,kg.out,IR.out.nd,IR.out.sub,by rw [PQ.out];simp⟩
   case round=>
    obtain⟨U,s,c,hI,Mo,Ua,Ub,hrun⟩:=hrel;have mU:=jE E4 hI.but LO;have EB:=hB.trans mU;have Ue:Ac w wr:=EB.toExt Iy (fun j e=>by subst e;exact FT);have nT:=Hg.out.ext Ue;have z0:=Aa (o:=0) hI.box rfl;have z1:=Aa (o:=1) hI.box rfl;have z2:=Aa (o:=2) hI.box rfl;have z3:=Aa (o:=3) hI.box rfl;have Uz:=hI.used.look s;obtain⟨cA,cc,rfl,-,-,-⟩:=Ae.of_own' (by omega) hI.row;have oN:=Ju Ua Ub;by_cases hu:U.any (AN s)=true
    ·rw [hu]at Uz
     have Cg:U=st.1++dd/\c=dd:=by unfold G3 at hrun;rw [if_pos hu]at hrun;simp only [Prod.mk.injEq]at hrun;exact hrun
     obtain⟨rfl,rfl⟩:=Cg
     have nV:=hO.keep mU (fun j _ e cs ee h=>by
      subst e;have h1:=hU;unfold DF at h1;rw [h1]at h
      cases h)
     have Yr:=hI.used;unfold AC at Uz;have HI:=Ajw hI;clear hrun hI hO oN Ua Ub nT;by_cases hc0:c.length=0
     ·have Jk:c = []:=List.eq_nil_of_length_eq_zero hc0
      have hcs:FA Ws.length R0 st s0=(st.1++c,st.2):=by unfold FA;rw [PQ.out,Jk];rfl
      have MF:=Ajw hcs;have hcz:(c.length:Int)=0:=(by omega);rw [hc0];clear hc0 Jk hcs hcz;go_wp2;go_roundw
      case rel=>exact⟨k+1,(st.1++c,st.2),by go_num,hlt,by rw [SV.out,MF.out],nV,Yr,EB⟩
      case measure=>simp [intOf];omega
     ·have hcs:FA Ws.length R0 st s0=(st.1++c,st.2 ++ [c]):=by unfold FA;rw [PQ.out];simp only [List.nil_append];rw [if_pos (by omega)]
      have MF:=Ajw hcs;have LY:(0:Int)<(c.length:Int):=(by omega);have hcd:decide ((c.length:Int)>0)=true:=decide_eq_true LY;obtain⟨vs,RF,tL⟩:=nV
      have AbT:st.2.length<200000:=by have h1:=IR.out.flat;have h2:=Ju IR.out.nd IR.out.sub;have h3:st.2.length<=st.2.flatten.length:=UM IR.out.ne;rw [h1]at h3;have:=SX.out;omega
      have hrow:=wV HI.out.row (B':=w3.heap.size) (by have:=hB.size;have:=E4.size;omega);have hbase:w3.heap.size<=wr.heap.size:=EB.size;have kr:=Ajw tL;clear hc0 hcs tL
      go_wp2_with (at_builtin;go_loud (refine appRow rfl _ _ rfl _ w3.heap.size u3 st.2.length vs rfl (A9 RF ((Ac.refl wr).alloc _)) AbT (.slice cA c.length cc) rfl wr.heap.size (Ajy wr _) rfl (by simp;omega) ?_);intro v9 w9 BS CO)
      have LR:=(Ac.refl wr).alloc (.cells #[.slice cA c.length cc] 180);have hO9:=Aew (A9 RF LR) (fun j hj=>by obtain⟨v,q1,q2⟩:=kr.out j hj;exact⟨v,q1,A9 q2 LR⟩) (A9 hrow LR) CO BS;have Ys:DF (wr.alloc (.cells #[.slice cA c.length cc] 180)) bu (st.1++c):=(LR.block bu (Ajx Yr)).trans Yr;have hU9:=Ys.far CO (Vi (A9 RF LR) Ys);have Ot:=(EB.ext LR).own CO (A9 RF LR) (Ajz _);clear LR Ys BS CO RF hrow;go_wp2;go_roundw
      case rel=>exact⟨k+1,(st.1++c,st.2 ++ [c]),by go_num,hlt,by rw [SV.out,MF.out],hO9,hU9,Ot⟩
      case measure=>simp [intOf];omega
    ·have hno:U.any (AN s)=false:=(by simpa using hu);rw [hno]at Uz
     have hcl:c.length<200000:=by have h1:=yL R0 (Ws.length-U.length+1) U s c;rw [hrun]at h1;have:=gj.out;have:=SX.out;simp only at h1;omega
     have tB:s∉U:=iE.1 hno
     have Yu:(U ++ [s]).Nodup:=by rw [List.nodup_append];refine⟨Ua,by simp,?_⟩;intro a ha b hb;simp only [AjB]at hb;subst hb;rintro rfl;exact tB ha
     have Yw:∀t∈U ++ [s],t∈Ws:=by
      intro t ht
      rcases List.mem_append.1 ht with ht|ht
      ·exact Ub t ht
      ·simp only [AjB]at ht;exact ht▸Mo
     have Yt:=Ju Yu Yw;rw [List.length_append,List.length_singleton]at Yt
     have hrun':G3 R0 (Ws.length-(U ++ [s]).length+1) (U ++ [s]) (Mw R0 s) (c ++ [s])=(st.1++dd,dd):=by unfold G3 at hrun;rw [if_neg (by rw [hno];simp)]at hrun;rw [List.length_append,List.length_singleton,show Ws.length-(U.length+1)+1=Ws.length-U.length by omega];exact hrun
     obtain⟨Wp,hput,LH⟩:=hI.put hne hno;obtain⟨e,hf,j,m,hj,hi,hm,Ru,IA,U1⟩:=HN.out.step Mo;rw [←IA]at U1;have cn:=fun (W7:World) (Nj:Ac w W7)=>AdM (Hg.out.ext Nj) s hf hj hi hm Ru (JH.out e (List.mem_of_find?_eq_some hf));rw [←IA]at cn;obtain⟨t,ht⟩:=Ajv (Mw R0 s);rw [←ht]at U1 hrun' cn;have y0:=Aa (o:=0) LH.box rfl;have y1:=Aa (o:=1) LH.box rfl;have y2:=Aa (o:=2) LH.box rfl;have y3:=Aa (o:=3) LH.box rfl;have EG:=hI.used.size;have jk:=Ajw (And.intro EG (And.intro Yt SX.out));have HR:=Ajw (And.intro hrun' (And.intro Yu (And.intro Yw U1)));have Aw:W4.heap.size<=Wp.heap.size:=LH.but.size;have Ha:=LH.row;have ir:=Ajw LH;unfold AC at Uz hput cn;clear hrun hrun' Ua Yu Ub Yw U1 EG oN Yt hI LH ht IA Ru hm hi hj hf hno tB hu nT
     go_wp2_with (at_builtin;go_loud (refine oz rfl _ _ rfl _ W4.heap.size (.slice cA c.length cc) c.length c rfl (A9 Ha ((Ac.refl Wp).alloc _)) hcl s Wp.heap.size (Ajy Wp _) rfl (by simp;omega) ?_);intro v7 w7 GX Jo;have Ea:=Hh.app ir.out UA Jo GX;have x0:=Aa (o:=0) Ea.box rfl;have x1:=Aa (o:=1) Ea.box rfl;have x2:=Aa (o:=2) Ea.box rfl;have x3:=Aa (o:=3) Ea.box rfl)
     have Nj:Ac w w7:=(hB.trans (jE E4 Ea.but LO)).toExt Iy (fun j e=>by subst e;exact FT);(with_reducible refine(cn w7 Nj).mono ?_);rintro e w8 ⟨rfl,AX⟩;have FI:=(AX.block bs (Ajx Ea.box)).trans Ea.box;have y0:=Aj (o:=0) FI;have y1:=Aj (o:=1) FI;have y2:=Aj (o:=2) FI;have y3:=Aj (o:=3) FI;have q0:=Aa (o:=0) FI rfl;have q1:=Aa (o:=1) FI rfl;have q2:=Aa (o:=2) FI rfl;have q3:=Aa (o:=3) FI rfl;have Ox:=Ea.nxt AX hne UA t;have eR:=Ajw Ox;clear Ox FI x0 x1 x2 x3 Nj AX Ea GX Jo Ha cn;go_wp2;go_roundw
     case rel=>exact⟨U ++ [s],t,c ++ [s],eR.out,HR.out.2.2.2,HR.out.2.1,HR.out.2.2.1,HR.out.1⟩
     case measure=>have h1:=eR.out.used.size;have h2:=jk.out;rw [List.length_append,List.length_singleton]at h1;rw [h1,h2.1];omega
  ·have hk2:k=L.length:=by omega
   have Cg:st.2=C:=by rw [HC.out];unfold GL;rw [HST.out,hk2,←Ip.out,List.take_length]
   have hle:(L.length:Int)<=(k:Int):=(by omega);rw [Cg]at hO;obtain⟨A,cap,rfl,hcs⟩:=hO.cycs;have MF:=Ajw hcs;clear hcs hO hU Df hB hk2;go_wp2;go_ret;exact⟨A,cap,rfl,MF.out,BQ⟩
def Dh(C:List (List Sg)):List (Sg×Int):=C.zipIdx.flatMap (fun ci=>ci.1.map (fun s=>(s,(ci.2:Int))))
theorem wZ(C:List (List Sg))(c:List Sg):Dh (C ++ [c])=Dh C++c.map (fun s=>(s,(C.length:Int))):=by
 unfold Dh;rw [List.zipIdx_append,List.flatMap_append];simp
theorem wY(C:List (List Sg)):(Dh C).map (·.1)=C.flatten:=by
 have main:∀n,n<=C.length→(Dh (C.take n)).map (·.1)=(C.take n).flatten:=by
  intro n
  induction n with
  | zero=>intro _;simp [Dh]
  | succ n ih=>
   intro hn;rw [Aj2 (by omega),wZ,List.map_append,ih (by omega),List.flatten_append,List.map_map]
   congr 1
   simp [Function.comp_def]
 have:=main C.length (Ajz _)
 rwa [List.take_length]at this
theorem Ae5{C:List (List Sg)}{e:Sg×Int}(h:e∈Dh C):∃i,∃hi:i<C.length,e.2=(i:Int)/\e.1∈C[i]:=by
 unfold Dh at h;rw [List.mem_flatMap]at h;obtain⟨ci,h1,h2⟩:=h;rw [List.mem_map]at h2;obtain⟨s,hs,rfl⟩:=h2;obtain⟨c,i⟩:=ci;rw [List.mem_zipIdx_iff_getElem?]at h1;simp only at h1 hs;rw [AjC]at h1;obtain⟨hi,rfl⟩:=h1;exact⟨i,hi,rfl,hs⟩
def Ol(C:List (List Sg))(s:Sg):Int:=match (Dh C).find? (fun e=>AN s e.1)with|some e=>e.2|none=>0
theorem wm{C:List (List Sg)}{s:Sg}(h:s∈C.flatten):∃i,∃hi:i<C.length,Ol C s=(i:Int)/\s∈C[i]:=by
 unfold Ol;rw [←wY,List.mem_map]at h;obtain⟨e,he,rfl⟩:=h
 cases hf:(Dh C).find? (fun x=>AN e.1 x.1)with
 | none=>
  rw [List.find?_eq_none]at hf;exact absurd (Hd.2 rfl) (hf e he)
 | some x=>obtain⟨i,hi,h1,h2⟩:=Ae5 (List.mem_of_find?_eq_some hf);have h3:=List.find?_some hf;rw [Hd]at h3;exact⟨i,hi,h1,h3▸h2⟩
def findNext(f:Nat→Int)(C:List (List Sg)):Option (Sg×Rat)→Int
 | none=>-1
 | some x=>f (Ol C x.1).toNat
def Co(W:List Sg)(C:List (List Sg)):Nat→Nat→Int
 | 0,_=>-1
 | n+1,i=>
  if 0<GE (C.getD i [])then (i:Int)
  else findNext (fun j=>Co W C n j) C (C5 (aOf (C.getD i [])) W)
where aOf:List Sg→Pt
 | []=>⟨0,0⟩
 | s::_=>s.a
def leftOf(W:List Sg)(X:Rat):Nat:=W.countP (fun s=>decide (s.a.x<X))
theorem kM{α:Type}{p q:α→Bool} : ∀{l:List α},(∀x∈l,p x=true→q x=true)→(∃x∈l,q x=true/\p x=false)→l.countP p<l.countP q
 | [],_,h=>by obtain⟨x,hx,_⟩:=h;cases hx
 | a::l,h1,h2=>by
  have hle:l.countP p<=l.countP q:=List.countP_mono_left (fun x hx=>h1 x (List.mem_cons_of_mem _ hx));obtain⟨x,hx,hq,hp⟩:=h2
  rcases List.mem_cons.1 hx with rfl|hx
  ·rw [List.countP_cons,List.countP_cons,hq,hp];simp;omega
  ·have:=kM (fun x hx=>h1 x (List.mem_cons_of_mem _ hx)) ⟨x,hx,hq,hp⟩;have ha:=h1 a List.mem_cons_self;rw [List.countP_cons,List.countP_cons]
   cases Fl:p a
   ·cases q a<;>simp<;>omega
   ·rw [ha Fl];simp;omega
theorem gK{c:List Sg}(h:0<c.length):Co.aOf c=c[0].a:=by
 cases c with
 | nil=>simp at h
 | cons s c=>rfl
theorem zt{W U:List Sg}{C:List (List Sg)}(hC:S6 W U C)(hall:∀s∈W,s∈U)(hG:JG W){i:Nat}(hi:i<C.length){x:Sg×Rat}(hb:C5 (Co.aOf C[i]) W=some x) :
  x.1∈W/\∃j,∃hj:j<C.length,Ol C x.1=(j:Int)/\leftOf W (Co.aOf C[j]).x<leftOf W (Co.aOf C[i]).x:=by
 have h1:=WU hG (Co.aOf C[i]) W (fun _ h=>h);rw [hb]at h1;obtain⟨s,H7⟩:=x;obtain⟨hs,hc,-,-⟩:=h1;obtain⟨j,hj,e,hm⟩:=wm (C:=C) (s:=s) (by rw [hC.flat];exact hall s hs);refine⟨hs,j,hj,e,?_⟩;have hl0:0<C[j].length:=List.length_pos_iff.2 (hC.ne _ (Aj0 hj));have hle:=hC.least _ (Aj0 hj) s hm hl0;rw [Pb]at hle;rw [gK hl0];refine kM (fun y _ hy=>?_) ⟨s,hs,?_,?_⟩
 ·simp only [decide_eq_true_eq]at hy ⊢;have:=hc.1
  grind
 ·simp only [decide_eq_true_eq];exact hc.1
 ·simp only [decide_eq_false_iff_not];grind
theorem mF(s:Sg):∀(L:List (Sg×Int)) (k:Nat),(L.mapIdx (fun i e=>(e.1,Value.int .i64 e.2,i+k))).find? (fun e=>AN s e.1)=none/\L.find? (fun e=>AN s e.1)=none∨∃x e,(L.mapIdx (fun i e=>(e.1,Value.int .i64 e.2,i+k))).find? (fun e=>AN s e.1)=some x/\L.find? (fun e=>AN s e.1)=some e/\x.2.1=.int .i64 e.2
 | [],_=>.inl ⟨by simp,by simp⟩
 | e::L,k=>by
  rw [List.mapIdx_cons,List.find?_cons,List.find?_cons]
  cases h:AN s e.1
  ·have:=mF s L (k+1)
   simpa only [Nat.add_assoc,Nat.add_comm 1 k]using this
  ·exact .inr ⟨_,e,rfl,rfl,rfl⟩
theorem named{a b:World}(_:Ac a b):∃x,x=b:=⟨b,rfl⟩
def AI(s:Sg)(L:List (Sg×Int)):Int:=match L.find? (fun e=>AN s e.1)with|some e=>e.2|none=>0
theorem vF(s:Sg)(L:List (Sg×Int)):EJ AN (.int .i64 0) s (stamp L)=.int .i64 (AI s L):=by
 have h:=mF s L 0;simp only [Nat.add_zero]at h;unfold EJ AI stamp
 rcases h with⟨h1,h2⟩|⟨x,e,h1,h2,h3⟩
 ·rw [h1,h2]
 ·rw [h1,h2];exact h3
theorem M7(s:Sg)(L:List (Sg×Int)){b:Nat}{W:World}(hb:W.heap[b]?=some (.map (AH AC (stamp L)).toArray L.length)) :
  (Instr.lookup 162 (.map (some b)) (AC s) false).run Tryz.prog W=.ok (.int .i64 (AI s L)) W:=by
 rw [Px UL s (stamp L) hb,vF]
structure PY(B:Nat)(w:World)(r b1 b2:Nat)(L:List (Sg×Int))(E:List (Pt×Value×Nat))(R0:List (Pt×List Pt))(bc bn bf ba bm:Nat)(A:Option Addr)(cap:Nat)(C:List (List Sg)):Prop where
 net:Br B w r b1 b2 L E R0
 cyc:Li w A cap C
 cc:w.cell? ⟨bc,0,none⟩=some (.slice A C.length cap)
 cn:w.cell? ⟨bn,0,none⟩=some (.pointer (some ⟨r,0,none⟩))
 cf:w.cell? ⟨bf,0,none⟩=some (.func (.func 268) #[] #[.pointer (some ⟨bc,0,none⟩),.pointer (some ⟨bn,0,none⟩),.pointer (some ⟨bf,0,none⟩),.pointer (some ⟨ba,0,none⟩)])
 ca:w.cell? ⟨ba,0,none⟩=some (.map (some bm))
 m:w.heap[bm]?=some (.map (AH AC (stamp (Dh C))).toArray (Dh C).length)
theorem PY.ext{B:Nat}{w w':World}{r b1 b2:Nat}{L:List (Sg×Int)}{E:List (Pt×Value×Nat)}{R0:List (Pt×List Pt)}{bc bn bf ba bm:Nat}{A:Option Addr}{cap:Nat}{C:List (List Sg)}(h:PY B w r b1 b2 L E R0 bc bn bf ba bm A cap C)(hx:Ac w w'):PY B w' r b1 b2 L E R0 bc bn bf ba bm A cap C:=
 ⟨h.net.ext hx,h.cyc.ext hx,hx.cellS h.cc,hx.cellS h.cn,hx.cellS h.cf,hx.cellS h.ca,(hx.block _ (Ajx h.m)).trans h.m⟩
structure NN(W:List Sg)(U:List Sg)(C:List (List Sg)):Prop where
 ok:S6 W U C
 all:∀s∈W,s∈U
 good:JG W
 grid:∀s∈W,F7 s
 len:W.length<=100000
theorem ac{α:Type} : ∀{l:List (List α)} {i:Nat} (h:i<l.length),l[i].length<=l.flatten.length
 | a::l,0,_=>by simp
 | a::l,i+1,h=>by have:=ac (l:=l) (i:=i) (by simpa using h);simp only [List.getElem_cons_succ,List.flatten_cons,List.length_append];omega
theorem NN.row{W U:List Sg}{C:List (List Sg)}(h:NN W U C){i:Nat}(hi:i<C.length):(∀s∈C[i],F7 s)/\0<C[i].length/\C[i].length<=100000:=by
 refine⟨fun s hs=>h.grid s (h.ok.sub s ?_),List.length_pos_iff.2 (h.ok.ne _ (Aj0 hi)),?_⟩
 ·rw [←h.ok.flat];exact List.mem_flatten.2 ⟨_,Aj0 hi,hs⟩
 ·have h1:=ac hi;rw [h.ok.flat]at h1;have h2:=Ju h.ok.nd h.ok.sub;have:=h.len;omega
theorem zq{B:Nat}{r b1 b2:Nat}{L:List (Sg×Int)}{E:List (Pt×Value×Nat)}{R0:List (Pt×List Pt)}{bc bn bf ba bm:Nat}{A:Option Addr}{cap:Nat}{C:List (List Sg)}{W U:List Sg}(hW:W=L.map (·.1))(hG:NN W U C) :
  ∀(n i:Nat) (hi:i<C.length),leftOf W (Co.aOf C[i]).x<n→∀w,Ao w→PY B w r b1 b2 L E R0 bc bn bf ba bm A cap C→
  Calls Tryz.prog 268 #[.int .i64 (i:Nat),.pointer (some ⟨bc,0,none⟩),.pointer (some ⟨bn,0,none⟩),.pointer (some ⟨bf,0,none⟩),.pointer (some ⟨ba,0,none⟩)] w (AK (Co W C n i) w):=by
 intro n
 induction n with
 | zero=>intro i hi hlt;omega
 | succ n ih=>
  intro i hi hlt w hw h;obtain⟨g1,g2,g3⟩:=hG.row hi;obtain⟨bA,oA,A',c',rfl,hcell,Bi,hc1,hc2⟩:=h.cyc.row i hi;have iH:=iO C[i] A' c' g1 g2 g3 hc1 hc2;have ar:=fun (w1:World) (hw1:Ao w1) (hE:Ac w w1)=>iH w1 hw1 (Bi.ext hE);clear iH;have sg:=Pq (GE C[i]);have hd:=fun x=>zt hG.ok hG.all hG.good hi (x:=x);have qW:C.getD i []=C[i]:=by rw [List.getD_eq_getElem?_getD,Aj4 hi];rfl
  have OC:Co W C (n+1) i=if 0<GE C[i] then (i:Int)else findNext (Co W C n) C (C5 (Co.aOf C[i]) W):=by rw [Co,qW]
  have hc0:(0:Int)<(c':Int):=(by omega);have hl0:(0:Int)<(C[i].length:Int):=(by omega);have Jp:(0:Int)<=(i:Int):=(by omega);have Nu:(i:Int)<(C.length:Int):=(by omega);have Fl:=gK g2;have Zx:=(g1 _ (Aj0 g2)).a;rw [←Fl]at Zx;have bl:=fun (w1:World) (hw1:Ao w1) (h1:Br B w1 r b1 b2 L E R0)=>iS h1 (Co.aOf C[i]) (fun e he=>hG.grid e.1 (by rw [hW];exact List.mem_map_of_mem he)) Zx hw1
  have Aw:∀l:List Sg,l.Perm (L.map (·.1))→C5 (Co.aOf C[i]) l=C5 (Co.aOf C[i]) W:=fun l hl=>by rw [←hW]at hl;exact iT hG.good _ hl (fun t ht=>hl.mem_iff.1 ht)
  have sT:=J4 Bi g2;have hsp:=Vu (GE C[i])
  have YN:∀x,C5 (Co.aOf C[i]) W=some x→∃j,∃hj:j<C.length,AI x.1 (Dh C)=(j:Int)/\(Ol C x.1).toNat=j/\leftOf W (Co.aOf C[j]).x<n:=by intro x hx;obtain⟨-,j,hj,e,hl⟩:=hd x hx;exact⟨j,hj,e,by rw [e];omega,by omega⟩
  obtain⟨st,hst⟩:=Ajv (C5 (Co.aOf C[i]) W);rw [←hst]at OC Aw YN;obtain⟨p,hp⟩:=Ajv (Co.aOf C[i]);rw [←hp]at bl Aw;rw [←Fl,←hp]at sT;obtain⟨q,hq⟩:=Ajv (GE C[i]);rw [←hq]at ar sg hsp OC;obtain⟨m,hm⟩:=Ajv (C[i].length);rw [←hm]at ar hl0 hcell;obtain⟨z,hz⟩:=Ajv (Co W C (n+1) i);rw [←hz]at OC ⊢;obtain⟨bB,oB,hAB,k1,k2,-,-⟩:=sT;subst hAB;obtain⟨sq,DO⟩:=Ajv (AM q);rw [←DO]at sg hsp;have VM:=Ajw OC;have eJ:=Ajw YN;have SE:=Ajw Aw;have m1:=h.cc;have m2:=h.cn;clear OC YN Aw hp hq hm hz Fl Zx hd hst DO g1 g2 g3 qW Bi hlt;rw [Nat.zero_mul,Nat.add_zero]at k1 k2;go_enter Tryz.func268,Tryz.ntmps268;(go_wp2_with fail);(with_reducible refine(ar w hw (Ac.refl w)).mono ?_);rintro e w1 ⟨rfl,hx1⟩;(go_wp2_with fail);(with_reducible refine(sg _).mono ?_);rintro e w2 ⟨rfl,hx2⟩;have Cm:=hx1.trans hx2;replace m1:=Cm.cellS m1;replace m2:=Cm.cellS m2;replace hcell:=Cm.cellS hcell;replace k1:=Cm.cellS k1;replace k2:=Cm.cellS k2;clear ar sg hx1 hx2;by_cases Cl:0<q
  ·have AbU:0<sq:=hsp.2 Cl;have hz:z=(i:Int):=(by rw [VM.out,if_pos Cl]);subst hz;go_wp2;go_ret;exact⟨rfl,Cm⟩
  ·have AbU:¬0<sq:=fun h=>Cl (hsp.1 h);have HZ:=Ajw (show z=findNext (Co W C n) C st by rw [VM.out,if_neg Cl]);obtain⟨c0,c1,c2,c3,hc⟩:=WW st;obtain⟨XB,YV⟩:=Ajv st.isSome;have hw2:=hw.ext Cm;have h2:=h.ext Cm
   have rh:∀w',Ac w2 w'→Calls Tryz.prog 179 #[.pointer (some ⟨r,0,none⟩),.agg #[S (R p.x),S (R p.y)]] w' (Bp (.tuple #[.agg #[S c0,S c1,S c2,S c3],.bool XB]) w'):=fun w' hx=>(bl w' (hw2.ext hx) (h2.net.ext hx)).mono fun e w'' ⟨l,hl,he,hx'⟩=>⟨by rw [he,SE.out l hl];unfold Qh;rw [hc,YV],hx'⟩
   have eP:=Ajw YV;clear VM hsp Cl bl YV
   have SO:∀w',Ac w2 w'→(w'.cell? ⟨bc,0,none⟩=some (.slice (some ⟨bA,oA,none⟩) C.length cap)/\w'.cell? ⟨bn,0,none⟩=some (.pointer (some ⟨r,0,none⟩))/\w'.cell? ⟨bA,oA+i,none⟩=some (.slice (some ⟨bB,oB,none⟩) m c')/\w'.cell? ⟨bB,oB,none⟩=some (S (R p.x))/\w'.cell? ⟨bB,oB+1,none⟩=some (S (R p.y))):=fun w' h=>⟨h.cellS m1,h.cellS m2,h.cellS hcell,h.cellS k1,h.cellS k2⟩
   have X:Ac w2 w2:=Ac.refl w2;have e0:(0:Int)<(m:Int):=hl0;have e00:0<m:=by omega
   go_upto_region 3 with fail
   go_cut [7,8] (fun v7 v8 wx=>∃b,v7=.pointer (some ⟨b,0,none⟩)/\v8=.bool XB/\wx.heap[b]?=some (.cells #[S c0,S c1,S c2,S c3] 175)/\Ac w2 wx)
   case first=>
    go_region_held3 (fun w'=>w'.cell? ⟨bc,0,none⟩=some (.slice (some ⟨bA,oA,none⟩) C.length cap)/\w'.cell? ⟨bn,0,none⟩=some (.pointer (some ⟨r,0,none⟩))/\w'.cell? ⟨bA,oA+i,none⟩=some (.slice (some ⟨bB,oB,none⟩) m c')/\w'.cell? ⟨bB,oB,none⟩=some (S (R p.x))/\w'.cell? ⟨bB,oB+1,none⟩=some (S (R p.y)))
     (first|with_reducible exact SO _ X|with_reducible exact SO _ X.drew|with_reducible exact SO _ (X.alloc _)|with_reducible exact SO _ (X.alloc _).drew|exact SO _ ((((X.setCell (Ajz _) _).setCell (Ajz _) _).setCell (Ajz _) _).setCell (Ajz _) _)|exact SO _ (((((X.alloc _).setCell X.size _).setCell X.size _).setCell X.size _).setCell X.size _))
     (first|((with_reducible refine(rh _ (by first|exact X|exact X.alloc _|exact X.drew|exact(X.alloc _).drew)).mono ?_);rintro e w5 ⟨rfl,AE⟩;(first|(have Z:=(AE.block _ (Ajx (Ajy _ _))).trans (Ajy _ _))|skip);replace X:Ac w2 w5:=(by first|exact X.trans AE|exact(X.alloc _).trans AE|exact X.drew.trans AE|exact(X.alloc _).drew.trans AE);(first|(have y1:=Aa (o:=0) Z rfl;have y2:=Aa (o:=1) Z rfl;have y3:=Aa (o:=2) Z rfl;have y4:=Aa (o:=3) Z rfl;have z1:=Aj (o:=0) Z;have z2:=Aj (o:=1) Z;have z3:=Aj (o:=2) Z;have z4:=Aj (o:=3) Z)|skip)))
    all_goals go_wp2
    all_goals go_meet
    all_goals first
     | exact⟨w5.heap.size,rfl,rfl,by unfold S;exact Ajy w5 _,X.alloc _⟩
     | exact⟨w2.heap.size,rfl,rfl,by unfold S;exact Oc _ _ _ _ Z,(((X.setCell (p:=⟨w2.heap.size,0,none⟩) (Ajz _) _).setCell (p:=⟨w2.heap.size,1,none⟩) (Ajz _) _).setCell (p:=⟨w2.heap.size,2,none⟩) (Ajz _) _).setCell (p:=⟨w2.heap.size,3,none⟩) (Ajz _) _⟩
   case rest=>
    obtain⟨b,rfl,rfl,AO,N4⟩:=hcut;obtain⟨wx,rfl⟩:=named N4;have Ud:=Cm.trans N4;have TX:=h.ext Ud;have hwc:=hw.ext Ud;clear SO X m1 m2 hcell k1 k2
    cases XB
    ·have hz:z = -1:=by
      rw [HZ.out]
      cases st with
      | none=>rfl
      | some x=>have:=eP.out;cases this
     subst hz;go_wp2;go_ret;exact⟨rfl,Ud⟩
    ·obtain⟨x,rfl⟩:∃x,st=some x:=by
      cases st with
      | none=>have:=eP.out;cases this
      | some x=>exact⟨x,rfl⟩
     obtain⟨j,hj,hl,hjn,hlt⟩:=eJ.out x rfl;have hz:z=Co W C n j:=(by rw [HZ.out];show Co W C n (Ol C x.1).toNat=_;rw [hjn]);have hq:=fun (q:Af wx)=>M7 x.1 (Dh C) (TX.ext q.h).m;rw [hl]at hq;have hcc:#[S c0,S c1,S c2,S c3]=(#[S (R x.1.a.x),S (R x.1.a.y),S (R x.1.b.x),S (R x.1.b.y)]:Array Value):=(by rw [←hc];rfl);rw [hcc]at AO;have q1:∀q:Af wx,q.w.cell? ⟨bf,0,none⟩=some (.func (.func 268) #[] #[.pointer (some ⟨bc,0,none⟩),.pointer (some ⟨bn,0,none⟩),.pointer (some ⟨bf,0,none⟩),.pointer (some ⟨ba,0,none⟩)]):=Af.cell TX.cf;have q2:∀q:Af wx,q.w.cell? ⟨ba,0,none⟩=some (.map (some bm)):=Af.cell TX.ca;have q3:∀q:Af wx,q.w.cell? ⟨b,0,none⟩=some (S (R x.1.a.x)):=Af.cell (Aa AO rfl);have q4:∀q:Af wx,q.w.cell? ⟨b,1,none⟩=some (S (R x.1.a.y)):=Af.cell (Aa AO rfl);have q5:∀q:Af wx,q.w.cell? ⟨b,2,none⟩=some (S (R x.1.b.x)):=Af.cell (Aa AO rfl);have q6:∀q:Af wx,q.w.cell? ⟨b,3,none⟩=some (S (R x.1.b.y)):=Af.cell (Aa AO rfl);have cs:=fun (q:Af wx)=>ih j hj hlt q.w (hwc.ext q.h) (TX.ext q.h);rw [←hz]at cs;unfold AC at hq;clear hc hz hl hjn hlt eJ SE HZ AO hcc ih
     go_upto_region 6 with fail
     refine CW (by kernel_rfl) (by kernel_rfl) ?_
     repeat (go_big_quiet_step (first|(with_reducible refine FC (cs _))|(go_simp;with_reducible refine FC (cs _))))
     refine wpQuiet_nil ?_;rintro _ ⟨q,rfl⟩;go_wp2;go_ret;exact⟨rfl,Ud.trans q.h⟩
def J5(W:List Sg)(C:List (List Sg)):List Int:=(List.range C.length).map (Co W C (W.length+1))
structure D9 where
 ok:Bool
 op:Bool
 face:List (Int×Int)
 seen:List Bool
def Du(r left:Int)(st:D9):D9:=
 match BU r st.face with
 | some old=>⟨st.ok && decide (old=left),st.op,st.face,st.seen⟩
 | none=>
  if left<0 then ⟨false,true,st.face ++ [(r,left)],st.seen⟩
  else ⟨st.ok && !(st.seen.getD left.toNat false),st.op,st.face ++ [(r,left)],st.seen.set left.toNat true⟩
def Hl(L:List (Sg×Int))(r:Int)(st:D9)(c:List Sg):D9:=c.foldl (fun st s=>Du r (AI s L) st) st
def GB(L:List (Sg×Int))(l:List (List Sg×Int))(st:D9):D9:=l.foldl (fun st cr=>Hl L cr.2 st cr.1) st
def Hm(nf:Nat):D9:=⟨true,false,[(-1,-1)],List.replicate nf false⟩
def JL(L:List (Sg×Int))(nf:Nat)(C:List (List Sg))(rg:List Int):D9:=GB L (C.zip rg) (Hm nf)
theorem nj(r left:Int)(st:D9):(Du r left st).seen.length=st.seen.length:=by
 unfold Du
 split
 ·rfl
 ·split
  ·rfl
  ·simp
theorem ng(L:List (Sg×Int))(r:Int)(st:D9)(c:List Sg)(s:Sg):Hl L r st (c ++ [s])=Du r (AI s L) (Hl L r st c):=by simp [Hl]
theorem nh(L:List (Sg×Int))(l:List (List Sg×Int))(st:D9)(x:List Sg×Int):GB L (l ++ [x]) st=Hl L x.2 (GB L l st) x.1:=by simp [GB]
theorem gW(L:List (Sg×Int))(r:Int)(c:List Sg):∀st:D9,(Hl L r st c).seen.length=st.seen.length:=by
 induction c with
 | nil=>intro st;rfl
 | cons s c ih=>intro st;show (Hl L r (Du r (AI s L) st) c).seen.length=_;rw [ih,nj]
theorem gX(L:List (Sg×Int))(l:List (List Sg×Int)):∀st:D9,(GB L l st).seen.length=st.seen.length:=by
 induction l with
 | nil=>intro st;rfl
 | cons x l ih=>intro st;show (GB L l (Hl L x.2 st x.1)).seen.length=_;rw [ih,gW]
def Lz(L:List (Sg×Int))(nf:Nat)(C:List (List Sg))(rg:List Int):Bool:=(JL L nf C rg).ok && !((JL L nf C rg).seen.contains false)
end Go.Proofs.YtgnejnampofhoaaGreatDoor
