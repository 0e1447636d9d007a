/- I26: ShC3 ShC4 ShD1 ShD3 ShD6. -/
import Derived.Test.YtnddllipjippnaaGreatDoorI24
import Derived.Test.YtnddllipjippnaaGreatDoorI20
set_option maxRecDepth 100000
set_option maxHeartbeats 16000000
namespace Go.Proofs.YtnddllipjippnaaGreatDoor
open Go.RowKit Kl
theorem AS{K:Nat→Prop}{W W':World}{B:Nat}{e:TypeId}{s n:Nat}{v:Value}{xs:List Value}(h:W.ownsRow B e s v n xs)(hb:Ak K W W')(hK:∀k,v.ownBlock=some k→¬K k):W'.ownsRow B e s v n xs:=by
 refine⟨h.1,?_⟩
 rcases h.2 with h'|⟨g,cap,cur,rfl,hg,hgb,h4⟩
 ·exact .inl h'
 ·exact .inr ⟨g,cap,cur,rfl,hg,hb.cells hgb (hK g rfl),h4⟩
theorem AaH{W:World}{B:Nat}{e:TypeId}{s n:Nat}{v:Value}{xs:List Value}(h:W.ownsRow B e s v n xs){j:Nat}{o:Obj}(hj:W.heap[j]?=some o)(hno:∀cur,o≠.cells cur e (0,0)):∀k,v.ownBlock=some k→k≠j:=by
 intro k hk e;subst e
 rcases ownsRow_ne h hj hno with h1|h1
 ·rw [h1]at hk;cases hk
 ·exact h1 hk
def KA(B:Nat)(W:World)(out:Value)(C:List (List Sg)):Prop:=
 ∃vs,W.ownsRow B 143 1 out C.length vs/\∀j (h:j<C.length),∃v,vs[j]?=some v/\W.ownsRow B 140 4 v C[j].length (Cw C[j])
theorem KA.keep{K:Nat→Prop}{W W':World}{B:Nat}{out:Value}{C:List (List Sg)}(h:KA B W out C)(hb:Ak K W W')(hK:∀k,k<W.heap.size→K k→∀cs e,W.heap[k]?≠some (.cells cs e (0,0))):KA B W' out C:=by
 obtain⟨vs,ho,hr⟩:=h
 have main:∀{e:TypeId} {s n:Nat} {v:Value} {xs:List Value},W.ownsRow B e s v n xs→W'.ownsRow B e s v n xs:=by
  intro e s n v xs h;refine AS h hb ?_;intro k hk hKk
  rcases h.2 with⟨h',_⟩|⟨g,cap,cur,h',_,hgb,_⟩
  ·rw [h']at hk;cases hk
  ·rw [h']at hk;simp only [Value.ownBlock,As4]at hk;subst hk;exact hK g (Asy hgb) hKk _ _ hgb
 exact⟨vs,main ho,fun j hj=>by obtain⟨v,h1,h2⟩:=hr j hj;exact⟨v,h1,main h2⟩⟩
theorem KA.nil(B:Nat)(W:World):KA B W (.slice none 0 0) []:=⟨[],⟨rfl,.inl ⟨rfl,rfl⟩⟩,fun j h=>by simp at h⟩
theorem AmB{W W':World}{B:Nat}{out out' cv:Value}{C:List (List Sg)}{c:List Sg}{vs:List Value}(ho:W.ownsRow B 143 1 out C.length vs)(hr:∀j (h:j<C.length),∃v,vs[j]?=some v/\W.ownsRow B 140 4 v C[j].length (Cw C[j]))
  (hc:W.ownsRow B 140 4 cv c.length (Cw c)) (hg:W.grownBy W' out.ownBlock) (lH:W'.ownsRow B 143 1 out' (C.length+1) (vs ++ [cv])):KA B W' out' (C ++ [c]):=by
 have hne:140≠143:=by decide
 have main:∀{n:Nat} {v:Value} {xs:List Value},W.ownsRow B 140 4 v n xs→W'.ownsRow B 140 4 v n xs:=by
  intro n v xs h;refine h.kept hg ?_
  rcases ho.2 with⟨h',_⟩|⟨g,cap,cur,h',_,hgb,_⟩
  ·rw [h']
   cases v.ownBlock with
   | none=>exact .inl rfl
   | some k=>exact .inr (by simp [Value.ownBlock])
  ·rcases ownsRow_ne h hgb (fun cur e=>hne (Obj.cells.inj e).2.1.symm)with h1|h1
   ·exact .inl h1
   ·right;rw [h'];exact h1
 have hl:vs.length=C.length:=(by have:=ho.1;omega);refine⟨vs ++ [cv],by rw [List.length_append];exact lH,fun j hj=>?_⟩;by_cases Ay:j<C.length
 ·obtain⟨v,h1,h2⟩:=hr j Ay;refine⟨v,by rw [List.getElem?_append_left (by omega)];exact h1,?_⟩;rw [List.getElem_append_left Ay];exact main h2
 ·have:j=C.length:=(by simp at hj;omega);subst this;refine⟨cv,by rw [List.getElem?_append_right (by omega)];simp [hl],?_⟩;rw [List.getElem_append_right (As0 _)];simp only [Nat.sub_self,List.getElem_cons_zero];exact main hc
structure MU(W:World)(A:Option Addr)(cap:Nat)(C:List (List Sg)):Prop where
 cap1:C.length<=cap
 cap2:cap<=9223372036854775807
 row:∀j (h:j<C.length),∃b o A' c',A=some ⟨b,o,none⟩/\W.cell? ⟨b,o+j,none⟩=some (.slice A' C[j].length c')/\Ad W A' (Cw C[j])/\C[j].length<=c'/\c'<=9223372036854775807
theorem MU.ext{W W':World}{A:Option Addr}{cap:Nat}{C:List (List Sg)}(h:MU W A cap C)(hx:Ab W W'):MU W' A cap C:=
 ⟨h.cap1,h.cap2,fun j hj=>by
  obtain⟨b,o,A',c',h1,h2,h3,h4,h5⟩:=h.row j hj
  exact⟨b,o,A',c',h1,hx.cellS h2,h3.ext hx,h4,h5⟩⟩
theorem KA.cycs{B:Nat}{W:World}{out:Value}{C:List (List Sg)}(h:KA B W out C):∃A cap,out=.slice A C.length cap/\MU W A cap C:=by
 obtain⟨vs,ho,hr⟩:=h;obtain⟨A,cap,he,Bi,h1,h2⟩:=Ad.of_own' (by omega) ho;refine⟨A,cap,he,h1,h2,fun j hj=>?_⟩;have hl:vs.length=C.length:=(by have:=ho.1;omega);obtain⟨b,o,e,hc⟩:=Bi.ad (by omega);obtain⟨v,g1,g2⟩:=hr j hj;obtain⟨A',c',e',r1,r2,r3⟩:=Ad.of_own' (by omega) g2;have:=hc j (by omega);rw [As5 (by omega),As4]at g1;rw [g1,e']at this;exact⟨b,o,A',c',e,this,r1,r2,r3⟩
structure IP(w5 wr:World)(bu bs:Nat)(cv:Value)(U:List Sg)(s:Sg)(c:List Sg):Prop where
 used:Ew wr bu U
 box:wr.heap[bs]?=some (.cells #[S (R s.a.x),S (R s.a.y),S (R s.b.x),S (R s.b.y)] 140)
 row:wr.ownsRow w5.heap.size 140 4 cv c.length (Cw c)
 but:Ak (fun k=>k=bu∨k=bs) w5 wr
def nQ(w:World)(b:Nat):Nat:=match w.heap[b]? with|some (.map es _)=>es.size|_=>0
theorem Ew.size{W:World}{b:Nat}{U:List Sg}(h:Ew W b U):nQ W b=U.length:=by
 unfold Ew at h;unfold nQ;rw [h];simp [AK,Kt,Jz]
theorem Ew.far{W W':World}{b:Nat}{U:List Sg}(h:Ew W b U){row:Option Nat}(hg:W.grownBy W' row)(hr:row≠some b):Ew W' b U:=(hg.block b (Asy h) (fun e=>hr e.symm)).trans h
theorem AaJ{W:World}{B:Nat}{e:TypeId}{s n:Nat}{v:Value}{xs:List Value}(h:W.ownsRow B e s v n xs){b:Nat}(hb:b<B):v.ownBlock≠some b:=by
 intro e;have:=(h.lt b e).1;omega
theorem Z6{W:World}{B:Nat}{e:TypeId}{s n:Nat}{v:Value}{xs:List Value}(h:W.ownsRow B e s v n xs){b:Nat}{es:Array MapEntry}{c:Nat}(hb:W.heap[b]?=some (.map es c)):v.ownBlock≠some b:=fun e=>AaH h hb (fun _ e=>by cases e) b e rfl
theorem AaE{W W':World}{B:Nat}{e:TypeId}{s n:Nat}{v:Value}{xs:List Value}(h:W.ownsRow B e s v n xs){b:Nat}(hg:W.grownBy W' (some b))(hne:v.ownBlock≠some b):W'.ownsRow B e s v n xs:=h.kept hg (.inr hne)
theorem IP.put{w5 wr:World}{bu bs:Nat}{cv:Value}{U:List Sg}{s:Sg}{c:List Sg}(h:IP w5 wr bu bs cv U s c)(hne:bu≠bs)(hno:U.any (AU s)=false) :
  ∃W',(Instr.mapUpdate 218 (.map (some bu)) (A8 s) (.bool true)).run Tryz.prog wr=.ok () W'/\IP w5 W' bu bs cv (U ++ [s]) s c:=by
 obtain⟨W',h1,h2,h3,h4⟩:=h.used.put s hno;refine⟨W',h1,h2,?_,AaE h.row h3 (Z6 h.row h.used),h.but.grown h3 (fun k e=>by cases e;exact .inl (.inl rfl))⟩;exact(h3.block bs (Asy h.box) (by simp;exact fun e=>hne e.symm)).trans h.box
theorem IP.app{w5 wr W':World}{bu bs:Nat}{cv xP:Value}{U:List Sg}{s t:Sg}{c:List Sg}(h:IP w5 wr bu bs cv U s c)(hs:bs<w5.heap.size)(hg:(wr.alloc (.cells #[S (R t.a.x),S (R t.a.y),S (R t.b.x),S (R t.b.y)] 140)).grownBy W' cv.ownBlock)
  (ho:W'.ownsRow w5.heap.size 140 4 xP (c.length+1) (Cw (c ++ [t]))):IP w5 W' bu bs xP U s (c ++ [t]):=by
 have hx:=(Ab.refl wr).alloc (.cells #[S (R t.a.x),S (R t.a.y),S (R t.b.x),S (R t.b.y)] 140);have hr:=h.row.kept (Hm hx none) (by cases cv.ownBlock with|none=>exact .inl rfl|some k=>exact .inr (by simp));have hu:Ew (wr.alloc (.cells #[S (R t.a.x),S (R t.a.y),S (R t.b.x),S (R t.b.y)] 140)) bu U:=(hx.block bu (Asy h.used)).trans h.used;have hb:=(hx.block bs (Asy h.box)).trans h.box;refine⟨hu.far hg (Z6 hr hu),(hg.block bs (Asy hb) (fun e=>AaJ hr hs e.symm)).trans hb,by simpa using ho,?_⟩;exact(h.but.ext hx).own hg hr (As0 _)
theorem IP.nxt{w5 wr W':World}{bu bs:Nat}{cv:Value}{U:List Sg}{s:Sg}{c:List Sg}(h:IP w5 wr bu bs cv U s c)(hx:Ab wr W')(hne:bu≠bs)(hs:bs<w5.heap.size)(t:Sg) :
  IP w5 ((((W'.setCell ⟨bs,0,none⟩ (S (R t.a.x))).setCell ⟨bs,1,none⟩ (S (R t.a.y))).setCell ⟨bs,2,none⟩ (S (R t.b.x))).setCell ⟨bs,3,none⟩ (S (R t.b.y))) bu bs cv U t c:=by
 have hb:=(hx.block bs (Asy h.box)).trans h.box;have hr:=h.row.kept (Hm hx none) (by cases cv.ownBlock with|none=>exact .inl rfl|some k=>exact .inr (by simp));have hu:Ew W' bu U:=(hx.block bu (Asy h.used)).trans h.used;have far:∀(X:World) (o:Nat) (v:Value) (q:Nat),q≠bs→(X.setCell ⟨bs,o,none⟩ v).heap[q]?=X.heap[q]?:=fun X o v q hq=>Below.heap_setCell _ _ _ _ hq;have AZ:=((((h.but.ext hx).setCell (p:=⟨bs,0,none⟩) (.inl (.inr rfl)) (S (R t.a.x))).setCell (p:=⟨bs,1,none⟩) (.inl (.inr rfl)) (S (R t.a.y))).setCell (p:=⟨bs,2,none⟩) (.inl (.inr rfl)) (S (R t.b.x))).setCell (p:=⟨bs,3,none⟩) (.inl (.inr rfl)) (S (R t.b.y));refine⟨?_,Qz _ _ _ _ hb,?_,AZ⟩
 ·unfold Ew;rw [far _ _ _ _ hne,far _ _ _ _ hne,far _ _ _ _ hne,far _ _ _ _ hne];exact hu
 ·refine AS hr (K:=fun k=>k=bs) ?_ ?_
  ·exact(((((Ak.refl (fun k=>k=bs) W').setCell (p:=⟨bs,0,none⟩) (.inl rfl) _).setCell (p:=⟨bs,1,none⟩) (.inl rfl) _).setCell (p:=⟨bs,2,none⟩) (.inl rfl) _).setCell (p:=⟨bs,3,none⟩) (.inl rfl) _)
  ·intro k hk e;subst e;exact AaJ hr hs hk
theorem vQ{a b c:World}{bu bs:Nat}(hx:Ab a b)(h:Ak (fun k=>k=bu∨k=bs) b c)(hs:a.heap.size<=bs):Ak (fun k=>k=bu) a c:=
 ⟨h.os.trans hx.os,h.tape.trans hx.tape,h.output.trans hx.output,AsA hx.size h.size,fun k hk hn=>(h.block k (As9 hk hx.size) (by rintro(e|e);exact hn e;omega)).trans (hx.block k hk)⟩
theorem xU{w0 w:World}(hw:Aj w0)(hx:Ab w0 w){B:Nat}{r b1 b2:Nat}{L:List (Sg×Int)}{E:List (Pt×Value×Nat)}{R0:List (Pt×List Pt)}(h:B7 B w r b1 b2 L E R0)(hN:FN (L.map (·.1)) R0)(hW:Qw (L.map (·.1)))(hlen:L.length<=100000)(hrl:∀e∈R0,e.2.length<100000) :
  Calls Tryz.prog 105 #[.pointer (some ⟨r,0,none⟩)] w fun e w'=>∃A cap,e=.returned (.slice A (Ix (L.map (·.1)) R0).length cap)/\MU w' A cap (Ix (L.map (·.1)) R0)/\Ab w w':=by
 have hmm:=@run_makeMap Tryz.prog;have n1:=Aa (o:=0) h.cell rfl;obtain⟨Ws,NF⟩:=Asw (L.map (·.1));have ey:Ws.length=L.length:=(by rw [NF];simp);obtain⟨C,hC⟩:=Asw (Ix Ws R0);rw [←NF]at hN hW ⊢;rw [←hC];have HC:=Asx hC;have HN:=Asx hN;have HW:=Asx hW;have LA:=Asx hrl;have Mg:=Asz w (.map #[] 0);have Cb:=(Ab.refl w).alloc (.map #[] 0);have gJ:=h.ext Cb;have hs1:(w.alloc (.map #[] 0)).heap.size=w.heap.size+1:=(by simp);have kw:=fun mb W=>nK mb W;have hb0:=h.left;have pu:=Asy h.cell;have hsw:∀e∈L,G7 1 e.1:=fun e he=>hW.sz e.1 (by rw [NF];exact List.mem_map_of_mem he);have bL:=Asx hsw;have WG:=Asx ey;have Ng:=Asx NF;clear hC hN hW hrl hsw ey NF;go_enter Tryz.func105,Tryz.ntmps105
 go_upto_region 3 with fail
 generalize w.alloc (.map #[] 0)=W1 at *;obtain⟨bu,jt⟩:=Asw w.heap.size;rw [←jt]at Mg ⊢;have Jq:w.heap.size<=bu:=(by omega);have Dq:bu<W1.heap.size:=(by omega);clear jt hs1;have m1:=Aa (o:=0) gJ.cell rfl;(go_wp2_with fail);(with_reducible refine(kw _ _).mono ?_);rintro e w2 ⟨rfl,hw2⟩;have DF:Ab W1 w2:=(by rw [hw2];exact(Ab.refl W1).alloc _);have CX:=Asz W1 (.cells #[.map (some b1)] 95);rw [←hw2]at CX;have KU:=gJ.ext DF;have hx2:=(hx.trans Cb).trans DF;have hBm:W1.heap.size<w2.heap.size:=Asy CX;have sk:=qE hw hx2 W1.heap.size b1 L hBm (Aa CX rfl) KU.left bL.out (by omega);clear hw2 m1 n1 kw;(go_wp2_with fail);(with_reducible refine sk.mono ?_);rintro e w3 ⟨sv,rfl,D5,Ck⟩;rw [←Ng.out]at D5;have JI:Ab w w3:=(Cb.trans DF).trans Ck;have Ho:=KU.ext Ck;have mH:w3.heap[bu]?=some (.map #[] 0):=((DF.trans Ck).block bu Dq).trans Mg;have XU:Ew w3 bu []:=mH;have CV:(BO Ws).length=L.length:=(by rw [(Ks Ws).length_eq];exact WG.out);obtain⟨sA,sc,rfl,-,-,-⟩:=Ad.of_own' (by omega) D5;have hx3:Ab w0 w3:=hx.trans JI;have AqG:bu<w3.heap.size:=Asy mH;have J3:=Asx CV;have tB:=Asx D5;have IM:=Asx h;clear sk CX hBm KU hx2 DF Cb Ck Mg Dq gJ hb0 CV D5 h hx Ho;have hl0:(0:Int)<=(L.length:Int):=by omega
 go_upto_region 4 with fail
 go_loopw [3,16] (fun out i wr=>∃(k:Nat) (st:List Sg×List (List Sg)),i=.int .i64 (k:Nat)/\k<=L.length/\st=((BO Ws).take k).foldl (GB Ws.length R0) ([],[])/\KA w3.heap.size wr out st.2/\Ew wr bu st.1/\Ak (fun j=>j=bu) w3 wr) (fun _ i _=>L.length-(intOf i).toNat)
 case atStart=>exact⟨0,([],[]),rfl,by omega,by simp,KA.nil _ _,XU,Ak.refl _ _⟩
 case round=>
  obtain⟨k,st,rfl,hk,hst,hO,hU,hB⟩:=hrel;have HST:=Asx hst;clear hst;have D5:=AS tB.out hB (fun j hj e=>AaH tB.out mH (fun _ e=>by cases e) j hj e);have BG:Ab w wr:=hB.toExt JI (fun j e=>by subst e;exact Jq);by_cases hlt:k<L.length
  ·obtain⟨sA',sc',R2,R9,-,-⟩:=Ad.of_own' (by omega) D5;simp only [Value.slice.injEq,true_and]at R2;obtain⟨rfl,rfl⟩:=R2;obtain⟨b,o,rfl,g1,g2,g3,g4⟩:=Lq R9 (show k<(BO Ws).length by rw [J3.out];exact hlt);obtain⟨s0,hs0⟩:∃s,s=(BO Ws)[k]'(by rw [J3.out];exact hlt):=⟨_,rfl⟩;rw [←hs0]at g1 g2 g3 g4
   have hstep:((BO Ws).take (k+1)).foldl (GB Ws.length R0) ([],[])=GB Ws.length R0 st s0:=by rw [As3 (show k<(BO Ws).length by rw [J3.out];exact hlt),List.foldl_append,←HST.out,←hs0];rfl
   have lY:s0∈Ws:=(Ks Ws).mem_iff.1 (by rw [hs0];exact As1 _);obtain⟨Gu,-⟩:=xR HN.out k (by rw [J3.out];omega);rw [←HST.out]at Gu;have hlU:=Lg Gu.nd Gu.sub;obtain⟨dd,e1,e2,e3,-,-⟩:=pR HN.out (Ws.length-st.1.length+1) st.1 s0 [] Gu.nd Gu.sub lY (by omega);have Pn:dd.length<=Ws.length:=Lg (List.nodup_append.1 e2).2.1 e3;have HDL:=Asx Pn;have Ta:=Asx e1;have WE:=Asx hstep;have Ky:=Asx Gu;have HS0:=Asx lY;have Ax:=Asz wr (.cells #[S (R s0.a.x),S (R s0.a.y),S (R s0.b.x),S (R s0.b.y)] 140);have E4:=(Ab.refl wr).alloc (.cells #[S (R s0.a.x),S (R s0.a.y),S (R s0.b.x),S (R s0.b.y)] 140);have YT:wr.heap.size<(wr.alloc (.cells #[S (R s0.a.x),S (R s0.a.y),S (R s0.b.x),S (R s0.b.y)] 140)).heap.size:=(by simp);have k0:(0:Int)<=(k:Int):=(by omega);have k1:(k:Int)<(L.length:Int):=(by omega);clear hs0 hstep Gu e1 e2 e3 Pn lY D5 R9 hlU
   go_upto_region 6 with fail
   unfold S at Ax E4 YT;generalize QR:wr.alloc (.cells #[.string ⟨(R s0.a.x).toArray⟩,.string ⟨(R s0.a.y).toArray⟩,.string ⟨(R s0.b.x).toArray⟩,.string ⟨(R s0.b.y).toArray⟩] 140)=W4 at *;obtain⟨bs,Uz⟩:=Asw wr.heap.size;rw [←Uz]at Ax YT ⊢;have Akh:bu<wr.heap.size:=Asy hU;have hne:bu≠bs:=(by omega);have NF:wr.heap.size<=bs:=(by omega);have ArD:=hB.size;clear QR Uz g1 g2 g3 g4;have Jd:IP W4 W4 bu bs (.slice none 0 0) st.1 s0 []:=⟨(E4.block bu Akh).trans hU,Ax,⟨rfl,.inl ⟨rfl,rfl⟩⟩,Ak.refl _ _⟩;have HI0:=Asx Jd;clear Jd Ax
   go_upto_region 7 with fail
   go_loopw [7] (fun cv wi=>∃(U:List Sg) (s:Sg) (c:List Sg),IP W4 wi bu bs cv U s c/\s∈Ws/\U.Nodup/\(∀t∈U,t∈Ws)/\Ig R0 (Ws.length-U.length+1) U s c=(st.1++dd,dd)) (fun _ wi=>L.length-nQ wi bu)
   case atStart=>exact⟨st.1,s0,[],HI0.out,HS0.out,Ky.out.nd,Ky.out.sub,by rw [Ta.out];simp⟩
   case round=>
    obtain⟨U,s,c,hI,Oe,XW,XX,hrun⟩:=hrel;have zS:=vQ E4 hI.but NF;have Cy:=hB.trans zS;have Ya:Ab w wr:=Cy.toExt JI (fun j e=>by subst e;exact Jq);have cd:=IM.out.ext Ya;have z0:=Aa (o:=0) hI.box rfl;have z1:=Aa (o:=1) hI.box rfl;have z2:=Aa (o:=2) hI.box rfl;have z3:=Aa (o:=3) hI.box rfl;have YE:=hI.used.look s;obtain⟨cA,cc,rfl,-,-,-⟩:=Ad.of_own' (by omega) hI.row;have ew:=Lg XW XX;by_cases hu:U.any (AU s)=true
    ·rw [hu]at YE
     have AQ:U=st.1++dd/\c=dd:=by unfold Ig at hrun;rw [if_pos hu]at hrun;simp only [Prod.mk.injEq]at hrun;exact hrun
     obtain⟨rfl,rfl⟩:=AQ
     have dc:=hO.keep zS (fun j _ e cs ee h=>by
      subst e;have h1:=hU;unfold Ew at h1;rw [h1]at h
      cases h)
     have iE:=hI.used;unfold A8 at YE;have HI:=Asx hI;clear hrun hI hO ew XW XX cd;by_cases hc0:c.length=0
     ·have BB:c = []:=List.eq_nil_of_length_eq_zero hc0
      have hcs:GB Ws.length R0 st s0=(st.1++c,st.2):=by unfold GB;rw [Ta.out,BB];rfl
      have OC:=Asx hcs;have hcz:(c.length:Int)=0:=(by omega);rw [hc0];clear hc0 BB hcs hcz;go_wp2;go_roundw
      case rel=>exact⟨k+1,(st.1++c,st.2),by go_num,hlt,by rw [WE.out,OC.out],dc,iE,Cy⟩
      case measure=>simp [intOf];omega
     ·have hcs:GB Ws.length R0 st s0=(st.1++c,st.2 ++ [c]):=by unfold GB;rw [Ta.out];simp only [List.nil_append];rw [if_pos (by omega)]
      have OC:=Asx hcs;have Yp:(0:Int)<(c.length:Int):=(by omega);have hcd:decide ((c.length:Int)>0)=true:=decide_eq_true Yp;obtain⟨vs,Vl,Fa⟩:=dc
      have AjW:st.2.length<200000:=by have h1:=Ky.out.flat;have h2:=Lg Ky.out.nd Ky.out.sub;have h3:st.2.length<=st.2.flatten.length:=Zb Ky.out.ne;rw [h1]at h3;have:=WG.out;omega
      have hrow:=AaI HI.out.row (B':=w3.heap.size) (by have:=hB.size;have:=E4.size;omega);have hbase:w3.heap.size<=wr.heap.size:=Cy.size;have HVR:=Asx Fa;clear hc0 hcs Fa
      go_wp2_with (at_builtin;go_loud (refine appRow rfl _ _ rfl _ w3.heap.size u3 st.2.length vs rfl (An Vl ((Ab.refl wr).alloc _)) AjW (.slice cA c.length cc) rfl wr.heap.size (Asz wr _) rfl (by simp;omega) ?_);intro v9 w9 Bo AP)
      have NG:=(Ab.refl wr).alloc (.cells #[.slice cA c.length cc] 143);have hO9:=AmB (An Vl NG) (fun j hj=>by obtain⟨v,q1,q2⟩:=HVR.out j hj;exact⟨v,q1,An q2 NG⟩) (An hrow NG) AP Bo;have iF:Ew (wr.alloc (.cells #[.slice cA c.length cc] 143)) bu (st.1++c):=(NG.block bu (Asy iE)).trans iE;have hU9:=iF.far AP (Z6 (An Vl NG) iF);have Gq:=(Cy.ext NG).own AP (An Vl NG) (As0 _);clear NG iF Bo AP Vl hrow;go_wp2;go_roundw
      case rel=>exact⟨k+1,(st.1++c,st.2 ++ [c]),by go_num,hlt,by rw [WE.out,OC.out],hO9,hU9,Gq⟩
      case measure=>simp [intOf];omega
    ·have hno:U.any (AU s)=false:=(by simpa using hu);rw [hno]at YE
     have hcl:c.length<200000:=by have h1:=Ab6 R0 (Ws.length-U.length+1) U s c;rw [hrun]at h1;have:=HDL.out;have:=WG.out;simp only at h1;omega
     have tj:s∉U:=uP.1 hno
     have iH:(U ++ [s]).Nodup:=by rw [List.nodup_append];refine⟨XW,by simp,?_⟩;intro a ha b hb;simp only [AsC]at hb;subst hb;rintro rfl;exact tj ha
     have iJ:∀t∈U ++ [s],t∈Ws:=by
      intro t ht
      rcases List.mem_append.1 ht with ht|ht
      ·exact XX t ht
      ·simp only [AsC]at ht;exact ht▸Oe
     have iG:=Lg iH iJ;rw [List.length_append,List.length_singleton]at iG
     have hrun':Ig R0 (Ws.length-(U ++ [s]).length+1) (U ++ [s]) (Oq R0 s) (c ++ [s])=(st.1++dd,dd):=by unfold Ig at hrun;rw [if_neg (by rw [hno];simp)]at hrun;rw [List.length_append,List.length_singleton,show Ws.length-(U.length+1)+1=Ws.length-U.length by omega];exact hrun
     obtain⟨Wp,hput,N7⟩:=hI.put hne hno;obtain⟨e,hf,j,m,hj,hi,hm,UR,DZ,YF⟩:=HN.out.step Oe;rw [←DZ]at YF;have cn:=fun (W7:World) (Cl:Ab w W7)=>AlU (IM.out.ext Cl) s hf hj hi hm UR (LA.out e (List.mem_of_find?_eq_some hf));rw [←DZ]at cn;obtain⟨t,ht⟩:=Asw (Oq R0 s);rw [←ht]at YF hrun' cn;have y0:=Aa (o:=0) N7.box rfl;have y1:=Aa (o:=1) N7.box rfl;have y2:=Aa (o:=2) N7.box rfl;have y3:=Aa (o:=3) N7.box rfl;have FU:=hI.used.size;have HMS:=Asx (And.intro FU (And.intro iG WG.out));have HR:=Asx (And.intro hrun' (And.intro iH (And.intro iJ YF)));have Ap:W4.heap.size<=Wp.heap.size:=N7.but.size;have IB:=N7.row;have HIP:=Asx N7;unfold A8 at YE hput cn;clear hrun hrun' XW iH XX iJ YF FU ew iG hI N7 ht DZ UR hm hi hj hf hno tj hu cd
     go_wp2_with (at_builtin;go_loud (refine Afo rfl _ _ rfl _ W4.heap.size (.slice cA c.length cc) c.length c rfl (An IB ((Ab.refl Wp).alloc _)) hcl s Wp.heap.size (Asz Wp _) rfl (by simp;omega) ?_);intro v7 w7 CU DJ;have EO:=IP.app HIP.out YT DJ CU;have x0:=Aa (o:=0) EO.box rfl;have x1:=Aa (o:=1) EO.box rfl;have x2:=Aa (o:=2) EO.box rfl;have x3:=Aa (o:=3) EO.box rfl)
     have Cl:Ab w w7:=(hB.trans (vQ E4 EO.but NF)).toExt JI (fun j e=>by subst e;exact Jq);(with_reducible refine(cn w7 Cl).mono ?_);rintro e w8 ⟨rfl,Be⟩;have Cz:=(Be.block bs (Asy EO.box)).trans EO.box;have y0:=Ah (o:=0) Cz;have y1:=Ah (o:=1) Cz;have y2:=Ah (o:=2) Cz;have y3:=Ah (o:=3) Cz;have q0:=Aa (o:=0) Cz rfl;have q1:=Aa (o:=1) Cz rfl;have q2:=Aa (o:=2) Cz rfl;have q3:=Aa (o:=3) Cz rfl;have QH:=EO.nxt Be hne YT t;have rX:=Asx QH;clear QH Cz x0 x1 x2 x3 Cl Be EO CU DJ IB cn;go_wp2;go_roundw
     case rel=>exact⟨U ++ [s],t,c ++ [s],rX.out,HR.out.2.2.2,HR.out.2.1,HR.out.2.2.1,HR.out.1⟩
     case measure=>have h1:=rX.out.used.size;have h2:=HMS.out;rw [List.length_append,List.length_singleton]at h1;rw [h1,h2.1];omega
  ·have hk2:k=L.length:=by omega
   have AQ:st.2=C:=by rw [HC.out];unfold Ix;rw [HST.out,hk2,←J3.out,List.take_length]
   have hle:(L.length:Int)<=(k:Int):=(by omega);rw [AQ]at hO;obtain⟨A,cap,rfl,hcs⟩:=hO.cycs;have OC:=Asx hcs;clear hcs hO hU D5 hB hk2;go_wp2;go_ret;exact⟨A,cap,rfl,OC.out,BG⟩
def D7(C:List (List Sg)):List (Sg×Int):=C.zipIdx.flatMap (fun ci=>ci.1.map (fun s=>(s,(ci.2:Int))))
theorem AaN(C:List (List Sg))(c:List Sg):D7 (C ++ [c])=D7 C++c.map (fun s=>(s,(C.length:Int))):=by
 unfold D7;rw [List.zipIdx_append,List.flatMap_append];simp
theorem AaM(C:List (List Sg)):(D7 C).map (·.1)=C.flatten:=by
 have main:∀n,n<=C.length→(D7 (C.take n)).map (·.1)=(C.take n).flatten:=by
  intro n
  induction n with
  | zero=>intro _;simp [D7]
  | succ n ih=>
   intro hn;rw [As3 (by omega),AaN,List.map_append,ih (by omega),List.flatten_append,List.map_map]
   congr 1
   simp [Function.comp_def]
 have:=main C.length (As0 _)
 rwa [List.take_length]at this
theorem AmK{C:List (List Sg)}{e:Sg×Int}(h:e∈D7 C):∃i,∃hi:i<C.length,e.2=(i:Int)/\e.1∈C[i]:=by
 unfold D7 at h;rw [List.mem_flatMap]at h;obtain⟨ci,h1,h2⟩:=h;rw [List.mem_map]at h2;obtain⟨s,hs,rfl⟩:=h2;obtain⟨c,i⟩:=ci;rw [List.mem_zipIdx_iff_getElem?]at h1;simp only at h1 hs;rw [AsD]at h1;obtain⟨hi,rfl⟩:=h1;exact⟨i,hi,rfl,hs⟩
def Q7(C:List (List Sg))(s:Sg):Int:=match (D7 C).find? (fun e=>AU s e.1)with|some e=>e.2|none=>0
theorem AgF{C:List (List Sg)}{s:Sg}(h:s∈C.flatten):∃i,∃hi:i<C.length,Q7 C s=(i:Int)/\s∈C[i]:=by
 unfold Q7;rw [←AaM,List.mem_map]at h;obtain⟨e,he,rfl⟩:=h
 cases hf:(D7 C).find? (fun x=>AU e.1 x.1)with
 | none=>
  rw [List.find?_eq_none]at hf;exact absurd (IG.2 rfl) (hf e he)
 | some x=>obtain⟨i,hi,h1,h2⟩:=AmK (List.mem_of_find?_eq_some hf);have h3:=List.find?_some hf;rw [IG]at h3;exact⟨i,hi,h1,h3▸h2⟩
def findNext(f:Nat→Int)(C:List (List Sg)):Option (Sg×Rat)→Int
 | none=>-1
 | some x=>f (Q7 C x.1).toNat
def CC(W:List Sg)(C:List (List Sg)):Nat→Nat→Int
 | 0,_=>-1
 | n+1,i=>
  if 0<Ir (C.getD i [])then (i:Int)
  else findNext (fun j=>CC W C n j) C (Dc (aOf (C.getD i [])) W)
where aOf:List Sg→Pt
 | []=>⟨0,0⟩
 | s::_=>s.a
def leftOf(W:List Sg)(X:Rat):Nat:=W.countP (fun s=>decide (s.a.x<X))
theorem xH{α:Type}{p q:α→Bool} : ∀{l:List α},(∀x∈l,p x=true→q x=true)→(∃x∈l,q x=true/\p x=false)→l.countP p<l.countP q
 | [],_,h=>by obtain⟨x,hx,_⟩:=h;cases hx
 | a::l,h1,h2=>by
  have hle:l.countP p<=l.countP q:=List.countP_mono_left (fun x hx=>h1 x (List.mem_cons_of_mem _ hx));obtain⟨x,hx,hq,hp⟩:=h2
  rcases List.mem_cons.1 hx with rfl|hx
  ·rw [List.countP_cons,List.countP_cons,hq,hp];simp;omega
  ·have:=xH (fun x hx=>h1 x (List.mem_cons_of_mem _ hx)) ⟨x,hx,hq,hp⟩;have ha:=h1 a List.mem_cons_self;rw [List.countP_cons,List.countP_cons]
   cases FA:p a
   ·cases q a<;>simp<;>omega
   ·rw [ha FA];simp;omega
theorem uA{c:List Sg}(h:0<c.length):CC.aOf c=c[0].a:=by
 cases c with
 | nil=>simp at h
 | cons s c=>rfl
theorem Ah9{W U:List Sg}{C:List (List Sg)}(hC:Wc W U C)(hall:∀s∈W,s∈U)(hG:L6 W){i:Nat}(hi:i<C.length){x:Sg×Rat}(hb:Dc (CC.aOf C[i]) W=some x) :
  x.1∈W/\∃j,∃hj:j<C.length,Q7 C x.1=(j:Int)/\leftOf W (CC.aOf C[j]).x<leftOf W (CC.aOf C[i]).x:=by
 have h1:=dK hG (CC.aOf C[i]) W (fun _ h=>h);rw [hb]at h1;obtain⟨s,Jh⟩:=x;obtain⟨hs,hc,-,-⟩:=h1;obtain⟨j,hj,e,hm⟩:=AgF (C:=C) (s:=s) (by rw [hC.flat];exact hall s hs);refine⟨hs,j,hj,e,?_⟩;have hl0:0<C[j].length:=List.length_pos_iff.2 (hC.ne _ (As1 hj));have hle:=hC.least _ (As1 hj) s hm hl0;rw [RP]at hle;rw [uA hl0];refine xH (fun y _ hy=>?_) ⟨s,hs,?_,?_⟩
 ·simp only [decide_eq_true_eq]at hy ⊢;have:=hc.1
  grind
 ·simp only [decide_eq_true_eq];exact hc.1
 ·simp only [decide_eq_false_iff_not];grind
theorem zC(s:Sg):∀(L:List (Sg×Int)) (k:Nat),(L.mapIdx (fun i e=>(e.1,Value.int .i64 e.2,i+k))).find? (fun e=>AU s e.1)=none/\L.find? (fun e=>AU s e.1)=none∨∃x e,(L.mapIdx (fun i e=>(e.1,Value.int .i64 e.2,i+k))).find? (fun e=>AU s e.1)=some x/\L.find? (fun e=>AU s e.1)=some e/\x.2.1=.int .i64 e.2
 | [],_=>.inl ⟨by simp,by simp⟩
 | e::L,k=>by
  rw [List.mapIdx_cons,List.find?_cons,List.find?_cons]
  cases h:AU s e.1
  ·have:=zC s L (k+1)
   simpa only [Nat.add_assoc,Nat.add_comm 1 k]using this
  ·exact .inr ⟨_,e,rfl,rfl,rfl⟩
theorem named{a b:World}(_:Ab a b):∃x,x=b:=⟨b,rfl⟩
def AM(s:Sg)(L:List (Sg×Int)):Int:=match L.find? (fun e=>AU s e.1)with|some e=>e.2|none=>0
theorem zv(s:Sg)(L:List (Sg×Int)):FW AU (.int .i64 0) s (stamp L)=.int .i64 (AM s L):=by
 have h:=zC s L 0;simp only [Nat.add_zero]at h;unfold FW AM stamp
 rcases h with⟨h1,h2⟩|⟨x,e,h1,h2,h3⟩
 ·rw [h1,h2]
 ·rw [h1,h2];exact h3
theorem O3(s:Sg)(L:List (Sg×Int)){b:Nat}{W:World}(hb:W.heap[b]?=some (.map (AK A8 (stamp L)).toArray L.length)) :
  (Instr.lookup 95 (.map (some b)) (A8 s) false).run Tryz.prog W=.ok (.int .i64 (AM s L)) W:=by
 rw [Sp Za s (stamp L) hb,zv]
structure Tm(B:Nat)(w:World)(r b1 b2:Nat)(L:List (Sg×Int))(E:List (Pt×Value×Nat))(R0:List (Pt×List Pt))(bc bn bf ba bm:Nat)(A:Option Addr)(cap:Nat)(C:List (List Sg)):Prop where
 net:B7 B w r b1 b2 L E R0
 cyc:MU w A cap C
 cc:w.cell? ⟨bc,0,none⟩=some (.slice A C.length cap)
 cn:w.cell? ⟨bn,0,none⟩=some (.pointer (some ⟨r,0,none⟩))
 cf:w.cell? ⟨bf,0,none⟩=some (.func (.func 154) #[] #[.pointer (some ⟨bc,0,none⟩),.pointer (some ⟨bn,0,none⟩),.pointer (some ⟨bf,0,none⟩),.pointer (some ⟨ba,0,none⟩)])
 ca:w.cell? ⟨ba,0,none⟩=some (.map (some bm))
 m:w.heap[bm]?=some (.map (AK A8 (stamp (D7 C))).toArray (D7 C).length)
theorem Tm.ext{B:Nat}{w w':World}{r b1 b2:Nat}{L:List (Sg×Int)}{E:List (Pt×Value×Nat)}{R0:List (Pt×List Pt)}{bc bn bf ba bm:Nat}{A:Option Addr}{cap:Nat}{C:List (List Sg)}(h:Tm B w r b1 b2 L E R0 bc bn bf ba bm A cap C)(hx:Ab w w'):Tm B w' r b1 b2 L E R0 bc bn bf ba bm A cap C:=
 ⟨h.net.ext hx,h.cyc.ext hx,hx.cellS h.cc,hx.cellS h.cn,hx.cellS h.cf,hx.cellS h.ca,(hx.block _ (Asy h.m)).trans h.m⟩
structure Qh(W:List Sg)(U:List Sg)(C:List (List Sg)):Prop where
 ok:Wc W U C
 all:∀s∈W,s∈U
 good:L6 W
 grid:∀s∈W,G5 s
 len:W.length<=100000
theorem Acp{α:Type} : ∀{l:List (List α)} {i:Nat} (h:i<l.length),l[i].length<=l.flatten.length
 | a::l,0,_=>by simp
 | a::l,i+1,h=>by have:=Acp (l:=l) (i:=i) (by simpa using h);simp only [List.getElem_cons_succ,List.flatten_cons,List.length_append];omega
theorem Qh.row{W U:List Sg}{C:List (List Sg)}(h:Qh W U C){i:Nat}(hi:i<C.length):(∀s∈C[i],G5 s)/\0<C[i].length/\C[i].length<=100000:=by
 refine⟨fun s hs=>h.grid s (h.ok.sub s ?_),List.length_pos_iff.2 (h.ok.ne _ (As1 hi)),?_⟩
 ·rw [←h.ok.flat];exact List.mem_flatten.2 ⟨_,As1 hi,hs⟩
 ·have h1:=Acp hi;rw [h.ok.flat]at h1;have h2:=Lg h.ok.nd h.ok.sub;have:=h.len;omega
theorem Ah8{B:Nat}{r b1 b2:Nat}{L:List (Sg×Int)}{E:List (Pt×Value×Nat)}{R0:List (Pt×List Pt)}{bc bn bf ba bm:Nat}{A:Option Addr}{cap:Nat}{C:List (List Sg)}{W U:List Sg}(hW:W=L.map (·.1))(hG:Qh W U C) :
  ∀(n i:Nat) (hi:i<C.length),leftOf W (CC.aOf C[i]).x<n→∀w,Aj w→Tm B w r b1 b2 L E R0 bc bn bf ba bm A cap C→
  Calls Tryz.prog 154 #[.int .i64 (i:Nat),.pointer (some ⟨bc,0,none⟩),.pointer (some ⟨bn,0,none⟩),.pointer (some ⟨bf,0,none⟩),.pointer (some ⟨ba,0,none⟩)] w (AI (CC W C n i) w):=by
 intro n
 induction n with
 | zero=>intro i hi hlt;omega
 | succ n ih=>
  intro i hi hlt w hw h;obtain⟨g1,g2,g3⟩:=hG.row hi;obtain⟨bA,oA,A',c',rfl,hcell,Bi,hc1,hc2⟩:=h.cyc.row i hi;have uR:=uY C[i] A' c' g1 g2 g3 hc1 hc2;have ar:=fun (w1:World) (hw1:Aj w1) (hE:Ab w w1)=>uR w1 hw1 (Bi.ext hE);clear uR;have sg:=PU (Ir C[i]);have hd:=fun x=>Ah9 hG.ok hG.all hG.good hi (x:=x);have mi:C.getD i []=C[i]:=by rw [List.getD_eq_getElem?_getD,As5 hi];rfl
  have Ri:CC W C (n+1) i=if 0<Ir C[i] then (i:Int)else findNext (CC W C n) C (Dc (CC.aOf C[i]) W):=by rw [CC,mi]
  have hc0:(0:Int)<(c':Int):=(by omega);have hl0:(0:Int)<(C[i].length:Int):=(by omega);have EW:(0:Int)<=(i:Int):=(by omega);have Ji:(i:Int)<(C.length:Int):=(by omega);have FA:=uA g2;have lL:=(g1 _ (As1 g2)).a;rw [←FA]at lL;have bl:=fun (w1:World) (hw1:Aj w1) (h1:B7 B w1 r b1 b2 L E R0)=>vD h1 (CC.aOf C[i]) (fun e he=>hG.grid e.1 (by rw [hW];exact List.mem_map_of_mem he)) lL hw1
  have Ap:∀l:List Sg,l.Perm (L.map (·.1))→Dc (CC.aOf C[i]) l=Dc (CC.aOf C[i]) W:=fun l hl=>by rw [←hW]at hl;exact vE hG.good _ hl (fun t ht=>hl.mem_iff.1 ht)
  have r6:=Lq Bi g2;have hsp:=ZK (Ir C[i])
  have jX:∀x,Dc (CC.aOf C[i]) W=some x→∃j,∃hj:j<C.length,AM x.1 (D7 C)=(j:Int)/\(Q7 C x.1).toNat=j/\leftOf W (CC.aOf C[j]).x<n:=by intro x hx;obtain⟨-,j,hj,e,hl⟩:=hd x hx;exact⟨j,hj,e,by rw [e];omega,by omega⟩
  obtain⟨st,hst⟩:=Asw (Dc (CC.aOf C[i]) W);rw [←hst]at Ri Ap jX;obtain⟨p,hp⟩:=Asw (CC.aOf C[i]);rw [←hp]at bl Ap;rw [←FA,←hp]at r6;obtain⟨q,hq⟩:=Asw (Ir C[i]);rw [←hq]at ar sg hsp Ri;obtain⟨m,hm⟩:=Asw (C[i].length);rw [←hm]at ar hl0 hcell;obtain⟨z,hz⟩:=Asw (CC W C (n+1) i);rw [←hz]at Ri ⊢;obtain⟨bB,oB,hAB,k1,k2,-,-⟩:=r6;subst hAB;obtain⟨sq,Ee⟩:=Asw (AN q);rw [←Ee]at sg hsp;have aJ:=Asx Ri;have rQ:=Asx jX;have Wm:=Asx Ap;have m1:=h.cc;have m2:=h.cn;clear Ri jX Ap hp hq hm hz FA lL hd hst Ee g1 g2 g3 mi Bi hlt;rw [Nat.zero_mul,Nat.add_zero]at k1 k2;go_enter Tryz.func154,Tryz.ntmps154;(go_wp2_with fail);(with_reducible refine(ar w hw (Ab.refl w)).mono ?_);rintro e w1 ⟨rfl,hx1⟩;(go_wp2_with fail);(with_reducible refine(sg _).mono ?_);rintro e w2 ⟨rfl,hx2⟩;have Cc:=hx1.trans hx2;replace m1:=Cc.cellS m1;replace m2:=Cc.cellS m2;replace hcell:=Cc.cellS hcell;replace k1:=Cc.cellS k1;replace k2:=Cc.cellS k2;clear ar sg hx1 hx2;by_cases C7:0<q
  ·have AjY:0<sq:=hsp.2 C7;have hz:z=(i:Int):=(by rw [aJ.out,if_pos C7]);subst hz;go_wp2;go_ret;exact⟨rfl,Cc⟩
  ·have AjY:¬0<sq:=fun h=>C7 (hsp.1 h);have HZ:=Asx (show z=findNext (CC W C n) C st by rw [aJ.out,if_neg C7]);obtain⟨c0,c1,c2,c3,hc⟩:=dM st;obtain⟨eW,kC⟩:=Asw st.isSome;have hw2:=hw.ext Cc;have h2:=h.ext Cc
   have bl':∀w',Ab w2 w'→Calls Tryz.prog 113 #[.pointer (some ⟨r,0,none⟩),.agg #[S (R p.x),S (R p.y)]] w' (BA (.tuple #[.agg #[S c0,S c1,S c2,S c3],.bool eW]) w'):=fun w' hx=>(bl w' (hw2.ext hx) (h2.net.ext hx)).mono fun e w'' ⟨l,hl,he,hx'⟩=>⟨by rw [he,Wm.out l hl];unfold Ty;rw [hc,kC],hx'⟩
   have Wu:=Asx kC;clear aJ hsp C7 bl kC
   have SO:∀w',Ab w2 w'→(w'.cell? ⟨bc,0,none⟩=some (.slice (some ⟨bA,oA,none⟩) C.length cap)/\w'.cell? ⟨bn,0,none⟩=some (.pointer (some ⟨r,0,none⟩))/\w'.cell? ⟨bA,oA+i,none⟩=some (.slice (some ⟨bB,oB,none⟩) m c')/\w'.cell? ⟨bB,oB,none⟩=some (S (R p.x))/\w'.cell? ⟨bB,oB+1,none⟩=some (S (R p.y))):=fun w' h=>⟨h.cellS m1,h.cellS m2,h.cellS hcell,h.cellS k1,h.cellS k2⟩
   have X:Ab w2 w2:=Ab.refl w2;have e0:(0:Int)<(m:Int):=hl0;have e00:0<m:=by omega
   go_upto_region 3 with fail
   go_cut [7,8] (fun v7 v8 wx=>∃b,v7=.pointer (some ⟨b,0,none⟩)/\v8=.bool eW/\wx.heap[b]?=some (.cells #[S c0,S c1,S c2,S c3] 140)/\Ab w2 wx)
   case first=>
    go_region_held3 (fun w'=>w'.cell? ⟨bc,0,none⟩=some (.slice (some ⟨bA,oA,none⟩) C.length cap)/\w'.cell? ⟨bn,0,none⟩=some (.pointer (some ⟨r,0,none⟩))/\w'.cell? ⟨bA,oA+i,none⟩=some (.slice (some ⟨bB,oB,none⟩) m c')/\w'.cell? ⟨bB,oB,none⟩=some (S (R p.x))/\w'.cell? ⟨bB,oB+1,none⟩=some (S (R p.y)))
     (first|with_reducible exact SO _ X|with_reducible exact SO _ X.drew|with_reducible exact SO _ (X.alloc _)|with_reducible exact SO _ (X.alloc _).drew|exact SO _ ((((X.setCell (As0 _) _).setCell (As0 _) _).setCell (As0 _) _).setCell (As0 _) _)|exact SO _ (((((X.alloc _).setCell X.size _).setCell X.size _).setCell X.size _).setCell X.size _))
     (first|((with_reducible refine(bl' _ (by first|exact X|exact X.alloc _|exact X.drew|exact(X.alloc _).drew)).mono ?_);rintro e w5 ⟨rfl,As⟩;(first|(have Z:=(As.block _ (Asy (Asz _ _))).trans (Asz _ _))|skip);replace X:Ab w2 w5:=(by first|exact X.trans As|exact(X.alloc _).trans As|exact X.drew.trans As|exact(X.alloc _).drew.trans As);(first|(have y1:=Aa (o:=0) Z rfl;have y2:=Aa (o:=1) Z rfl;have y3:=Aa (o:=2) Z rfl;have y4:=Aa (o:=3) Z rfl;have z1:=Ah (o:=0) Z;have z2:=Ah (o:=1) Z;have z3:=Ah (o:=2) Z;have z4:=Ah (o:=3) Z)|skip)))
    all_goals go_wp2
    all_goals go_meet
    all_goals first
     | exact⟨w5.heap.size,rfl,rfl,by unfold S;exact Asz w5 _,X.alloc _⟩
     | exact⟨w2.heap.size,rfl,rfl,by unfold S;exact Qz _ _ _ _ Z,(((X.setCell (p:=⟨w2.heap.size,0,none⟩) (As0 _) _).setCell (p:=⟨w2.heap.size,1,none⟩) (As0 _) _).setCell (p:=⟨w2.heap.size,2,none⟩) (As0 _) _).setCell (p:=⟨w2.heap.size,3,none⟩) (As0 _) _⟩
   case rest=>
    obtain⟨b,rfl,rfl,Ax,Vn⟩:=hcut;obtain⟨wx,rfl⟩:=named Vn;have XZ:=Cc.trans Vn;have XQ:=h.ext XZ;have hwc:=hw.ext XZ;clear SO X m1 m2 hcell k1 k2
    cases eW
    ·have hz:z = -1:=by
      rw [HZ.out]
      cases st with
      | none=>rfl
      | some x=>have:=Wu.out;cases this
     subst hz;go_wp2;go_ret;exact⟨rfl,XZ⟩
    ·obtain⟨x,rfl⟩:∃x,st=some x:=by
      cases st with
      | none=>have:=Wu.out;cases this
      | some x=>exact⟨x,rfl⟩
     obtain⟨j,hj,hl,hjn,hlt⟩:=rQ.out x rfl;have hz:z=CC W C n j:=(by rw [HZ.out];show CC W C n (Q7 C x.1).toNat=_;rw [hjn]);have hq:=fun (q:Ac wx)=>O3 x.1 (D7 C) (XQ.ext q.h).m;rw [hl]at hq;have hcc:#[S c0,S c1,S c2,S c3]=(#[S (R x.1.a.x),S (R x.1.a.y),S (R x.1.b.x),S (R x.1.b.y)]:Array Value):=(by rw [←hc];rfl);rw [hcc]at Ax;have q1:∀q:Ac wx,q.w.cell? ⟨bf,0,none⟩=some (.func (.func 154) #[] #[.pointer (some ⟨bc,0,none⟩),.pointer (some ⟨bn,0,none⟩),.pointer (some ⟨bf,0,none⟩),.pointer (some ⟨ba,0,none⟩)]):=Ac.cell XQ.cf;have q2:∀q:Ac wx,q.w.cell? ⟨ba,0,none⟩=some (.map (some bm)):=Ac.cell XQ.ca;have q3:∀q:Ac wx,q.w.cell? ⟨b,0,none⟩=some (S (R x.1.a.x)):=Ac.cell (Aa Ax rfl);have q4:∀q:Ac wx,q.w.cell? ⟨b,1,none⟩=some (S (R x.1.a.y)):=Ac.cell (Aa Ax rfl);have q5:∀q:Ac wx,q.w.cell? ⟨b,2,none⟩=some (S (R x.1.b.x)):=Ac.cell (Aa Ax rfl);have q6:∀q:Ac wx,q.w.cell? ⟨b,3,none⟩=some (S (R x.1.b.y)):=Ac.cell (Aa Ax rfl);have cs:=fun (q:Ac wx)=>ih j hj hlt q.w (hwc.ext q.h) (XQ.ext q.h);rw [←hz]at cs;unfold A8 at hq;clear hc hz hl hjn hlt rQ Wm HZ Ax hcc ih
     go_upto_region 6 with fail
     refine Bh (by kernel_rfl) (by kernel_rfl) ?_
     repeat (go_big_quiet_step (first|(with_reducible refine EN (cs _))|(go_simp;with_reducible refine EN (cs _))))
     refine wpQuiet_nil ?_;rintro _ ⟨q,rfl⟩;go_wp2;go_ret;exact⟨rfl,XZ.trans q.h⟩
def Lr(W:List Sg)(C:List (List Sg)):List Int:=(List.range C.length).map (CC W C (W.length+1))
structure Et where
 ok:Bool
 op:Bool
 face:List (Int×Int)
 seen:List Bool
def DR(r left:Int)(st:Et):Et:=
 match Ct r st.face with
 | some old=>⟨st.ok && decide (old=left),st.op,st.face,st.seen⟩
 | none=>
  if left<0 then ⟨false,true,st.face ++ [(r,left)],st.seen⟩
  else ⟨st.ok && !(st.seen.getD left.toNat false),st.op,st.face ++ [(r,left)],st.seen.set left.toNat true⟩
def IT(L:List (Sg×Int))(r:Int)(st:Et)(c:List Sg):Et:=c.foldl (fun st s=>DR r (AM s L) st) st
def Iq(L:List (Sg×Int))(l:List (List Sg×Int))(st:Et):Et:=l.foldl (fun st cr=>IT L cr.2 st cr.1) st
def IU(nf:Nat):Et:=⟨true,false,[(-1,-1)],List.replicate nf false⟩
def LG(L:List (Sg×Int))(nf:Nat)(C:List (List Sg))(rg:List Int):Et:=Iq L (C.zip rg) (IU nf)
theorem AeX(r left:Int)(st:Et):(DR r left st).seen.length=st.seen.length:=by
 unfold DR
 split
 ·rfl
 ·split
  ·rfl
  ·simp
theorem AeV(L:List (Sg×Int))(r:Int)(st:Et)(c:List Sg)(s:Sg):IT L r st (c ++ [s])=DR r (AM s L) (IT L r st c):=by simp [IT]
theorem AeW(L:List (Sg×Int))(l:List (List Sg×Int))(st:Et)(x:List Sg×Int):Iq L (l ++ [x]) st=IT L x.2 (Iq L l st) x.1:=by simp [Iq]
theorem uJ(L:List (Sg×Int))(r:Int)(c:List Sg):∀st:Et,(IT L r st c).seen.length=st.seen.length:=by
 induction c with
 | nil=>intro st;rfl
 | cons s c ih=>intro st;show (IT L r (DR r (AM s L) st) c).seen.length=_;rw [ih,AeX]
theorem uK(L:List (Sg×Int))(l:List (List Sg×Int)):∀st:Et,(Iq L l st).seen.length=st.seen.length:=by
 induction l with
 | nil=>intro st;rfl
 | cons x l ih=>intro st;show (Iq L l (IT L x.2 st x.1)).seen.length=_;rw [ih,uJ]
def Np(L:List (Sg×Int))(nf:Nat)(C:List (List Sg))(rg:List Int):Bool:=(LG L nf C rg).ok && !((LG L nf C rg).seen.contains false)
end Go.Proofs.YtnddllipjippnaaGreatDoor
