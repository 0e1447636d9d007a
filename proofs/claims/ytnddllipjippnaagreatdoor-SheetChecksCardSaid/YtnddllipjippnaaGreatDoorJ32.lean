/- J32: C3 C4 D1 D3 D6. -/
import Derived.Test.YtnddllipjippnaaGreatDoorJ30
import Derived.Test.YtnddllipjippnaaGreatDoorJ26
set_option maxRecDepth 100000
set_option maxHeartbeats 16000000
namespace Go.Proofs.YtnddllipjippnaaGreatDoor
open Go.RowKit Kl
theorem Cg{K:Nat→Prop}{W W':World}{B:Nat}{e:TypeId}{s n:Nat}{v:Value}{xs:List Value}(h:W.ownsRow B e s v n xs)(hb:AD K W W')(hK:∀k,v.ownBlock=some k→¬K k):W'.ownsRow B e s v n xs:=by
 refine⟨h.1,?_⟩
 rcases h.2 with h'|⟨g,cap,cur,rfl,hg,hgb,h4⟩
 ·exact .inl h'
 ·exact .inr ⟨g,cap,cur,rfl,hg,hb.cells hgb (hK g rfl),h4⟩
theorem ol{W:World}{B:Nat}{e:TypeId}{s n:Nat}{v:Value}{xs:List Value}(h:W.ownsRow B e s v n xs){j:Nat}{o:Obj}(hj:W.heap[j]?=some o)(hno:∀cur,o≠.cells cur e (0,0)):∀k,v.ownBlock=some k→k≠j:=by
 intro k hk e;subst e
 rcases ownsRow_ne h hj hno with h1|h1
 ·rw [h1]at hk;cases hk
 ·exact h1 hk
def JP(B:Nat)(W:World)(out:Value)(C:List (List Sg)):Prop:=
 ∃vs,W.ownsRow B 143 1 out C.length vs/\∀j (h:j<C.length),∃v,vs[j]?=some v/\W.ownsRow B 140 4 v C[j].length (Cu C[j])
theorem JP.keep{K:Nat→Prop}{W W':World}{B:Nat}{out:Value}{C:List (List Sg)}(h:JP B W out C)(hb:AD K W W')(hK:∀k,k<W.heap.size→K k→∀cs e,W.heap[k]?≠some (.cells cs e (0,0))):JP B W' out C:=by
 obtain⟨vs,ho,hr⟩:=h
 have main:∀{e:TypeId} {s n:Nat} {v:Value} {xs:List Value},W.ownsRow B e s v n xs→W'.ownsRow B e s v n xs:=by
  intro e s n v xs h;refine Cg h hb ?_;intro k hk hKk
  rcases h.2 with⟨h',_⟩|⟨g,cap,cur,h',_,hgb,_⟩
  ·rw [h']at hk;cases hk
  ·rw [h']at hk;simp only [Value.ownBlock,AoB]at hk;subst hk;exact hK g (Ao5 hgb) hKk _ _ hgb
 exact⟨vs,main ho,fun j hj=>by obtain⟨v,h1,h2⟩:=hr j hj;exact⟨v,h1,main h2⟩⟩
theorem JP.nil(B:Nat)(W:World):JP B W (.slice none 0 0) []:=⟨[],⟨rfl,.inl ⟨rfl,rfl⟩⟩,fun j h=>by simp at h⟩
theorem AiJ{W W':World}{B:Nat}{out out' cv:Value}{C:List (List Sg)}{c:List Sg}{vs:List Value}(ho:W.ownsRow B 143 1 out C.length vs)(hr:∀j (h:j<C.length),∃v,vs[j]?=some v/\W.ownsRow B 140 4 v C[j].length (Cu C[j]))
  (hc:W.ownsRow B 140 4 cv c.length (Cu c)) (hg:W.grownBy W' out.ownBlock) (Qs:W'.ownsRow B 143 1 out' (C.length+1) (vs ++ [cv])):JP B W' out' (C ++ [c]):=by
 have hne:140≠143:=by decide
 have main:∀{n:Nat} {v:Value} {xs:List Value},W.ownsRow B 140 4 v n xs→W'.ownsRow B 140 4 v n xs:=by
  intro n v xs h;refine h.kept hg ?_
  rcases ho.2 with⟨h',_⟩|⟨g,cap,cur,h',_,hgb,_⟩
  ·rw [h']
   cases v.ownBlock with
   | none=>exact .inl rfl
   | some k=>exact .inr (by simp [Value.ownBlock])
  ·rcases ownsRow_ne h hgb (fun cur e=>hne (Obj.cells.inj e).2.1.symm)with h1|h1
   ·exact .inl h1
   ·right;rw [h'];exact h1
 have hl:vs.length=C.length:=(by have:=ho.1;omega);refine⟨vs ++ [cv],by rw [List.length_append];exact Qs,fun j hj=>?_⟩;by_cases Bc:j<C.length
 ·obtain⟨v,h1,h2⟩:=hr j Bc;refine⟨v,by rw [List.getElem?_append_left (by omega)];exact h1,?_⟩;rw [List.getElem_append_left Bc];exact main h2
 ·have:j=C.length:=(by simp at hj;omega);subst this;refine⟨cv,by rw [List.getElem?_append_right (by omega)];simp [hl],?_⟩;rw [List.getElem_append_right (Ao7 _)];simp only [Nat.sub_self,List.getElem_cons_zero];exact main hc
structure Ms(W:World)(A:Option Addr)(cap:Nat)(C:List (List Sg)):Prop where
 cap1:C.length<=cap
 cap2:cap<=9223372036854775807
 row:∀j (h:j<C.length),∃b o A' c',A=some ⟨b,o,none⟩/\W.cell? ⟨b,o+j,none⟩=some (.slice A' C[j].length c')/\Af W A' (Cu C[j])/\C[j].length<=c'/\c'<=9223372036854775807
theorem Ms.ext{W W':World}{A:Option Addr}{cap:Nat}{C:List (List Sg)}(h:Ms W A cap C)(hx:Ab W W'):Ms W' A cap C:=
 ⟨h.cap1,h.cap2,fun j hj=>by
  obtain⟨b,o,A',c',h1,h2,h3,h4,h5⟩:=h.row j hj
  exact⟨b,o,A',c',h1,hx.cellS h2,h3.ext hx,h4,h5⟩⟩
theorem JP.cycs{B:Nat}{W:World}{out:Value}{C:List (List Sg)}(h:JP B W out C):∃A cap,out=.slice A C.length cap/\Ms W A cap C:=by
 obtain⟨vs,ho,hr⟩:=h;obtain⟨A,cap,he,Bf,h1,h2⟩:=Af.of_own' (by omega) ho;refine⟨A,cap,he,h1,h2,fun j hj=>?_⟩;have hl:vs.length=C.length:=(by have:=ho.1;omega);obtain⟨b,o,e,hc⟩:=Bf.ad (by omega);obtain⟨v,g1,g2⟩:=hr j hj;obtain⟨A',c',e',r1,r2,r3⟩:=Af.of_own' (by omega) g2;have:=hc j (by omega);rw [AoC (by omega),AoB]at g1;rw [g1,e']at this;exact⟨b,o,A',c',e,this,r1,r2,r3⟩
structure It(w5 wr:World)(bu bs:Nat)(cv:Value)(U:List Sg)(s:Sg)(c:List Sg):Prop where
 used:Eg wr bu U
 box:wr.heap[bs]?=some (.cells #[S (R s.a.x),S (R s.a.y),S (R s.b.x),S (R s.b.y)] 140)
 row:wr.ownsRow w5.heap.size 140 4 cv c.length (Cu c)
 but:AD (fun k=>k=bu∨k=bs) w5 wr
def jG(w:World)(b:Nat):Nat:=match w.heap[b]? with|some (.map es _)=>es.size|_=>0
theorem Eg.size{W:World}{b:Nat}{U:List Sg}(h:Eg W b U):jG W b=U.length:=by
 unfold Eg at h;unfold jG;rw [h];simp [AN,JE,IS]
theorem Eg.far{W W':World}{b:Nat}{U:List Sg}(h:Eg W b U){row:Option Nat}(hg:W.grownBy W' row)(hr:row≠some b):Eg W' b U:=(hg.block b (Ao5 h) (fun e=>hr e.symm)).trans h
theorem oq{W:World}{B:Nat}{e:TypeId}{s n:Nat}{v:Value}{xs:List Value}(h:W.ownsRow B e s v n xs){b:Nat}(hb:b<B):v.ownBlock≠some b:=by
 intro e;have:=(h.lt b e).1;omega
theorem Yg{W:World}{B:Nat}{e:TypeId}{s n:Nat}{v:Value}{xs:List Value}(h:W.ownsRow B e s v n xs){b:Nat}{es:Array MapEntry}{c:Nat}(hb:W.heap[b]?=some (.map es c)):v.ownBlock≠some b:=fun e=>ol h hb (fun _ e=>by cases e) b e rfl
theorem nz{W W':World}{B:Nat}{e:TypeId}{s n:Nat}{v:Value}{xs:List Value}(h:W.ownsRow B e s v n xs){b:Nat}(hg:W.grownBy W' (some b))(hne:v.ownBlock≠some b):W'.ownsRow B e s v n xs:=h.kept hg (.inr hne)
theorem It.put{w5 wr:World}{bu bs:Nat}{cv:Value}{U:List Sg}{s:Sg}{c:List Sg}(h:It w5 wr bu bs cv U s c)(hne:bu≠bs)(hno:U.any (Be s)=false) :
  ∃W',(Instr.mapUpdate 218 (.map (some bu)) (AC s) (.bool true)).run Tryz.prog wr=.ok () W'/\It w5 W' bu bs cv (U ++ [s]) s c:=by
 obtain⟨W',h1,h2,h3,h4⟩:=h.used.put s hno;refine⟨W',h1,h2,?_,nz h.row h3 (Yg h.row h.used),h.but.grown h3 (fun k e=>by cases e;exact .inl (.inl rfl))⟩;exact(h3.block bs (Ao5 h.box) (by simp;exact fun e=>hne e.symm)).trans h.box
theorem It.app{w5 wr W':World}{bu bs:Nat}{cv rX:Value}{U:List Sg}{s t:Sg}{c:List Sg}(h:It w5 wr bu bs cv U s c)(hs:bs<w5.heap.size)(hg:(wr.alloc (.cells #[S (R t.a.x),S (R t.a.y),S (R t.b.x),S (R t.b.y)] 140)).grownBy W' cv.ownBlock)
  (ho:W'.ownsRow w5.heap.size 140 4 rX (c.length+1) (Cu (c ++ [t]))):It w5 W' bu bs rX U s (c ++ [t]):=by
 have hx:=(Ab.refl wr).alloc (.cells #[S (R t.a.x),S (R t.a.y),S (R t.b.x),S (R t.b.y)] 140);have hr:=h.row.kept (GK hx none) (by cases cv.ownBlock with|none=>exact .inl rfl|some k=>exact .inr (by simp));have hu:Eg (wr.alloc (.cells #[S (R t.a.x),S (R t.a.y),S (R t.b.x),S (R t.b.y)] 140)) bu U:=(hx.block bu (Ao5 h.used)).trans h.used;have hb:=(hx.block bs (Ao5 h.box)).trans h.box;refine⟨hu.far hg (Yg hr hu),(hg.block bs (Ao5 hb) (fun e=>oq hr hs e.symm)).trans hb,by simpa using ho,?_⟩;exact(h.but.ext hx).own hg hr (Ao7 _)
theorem It.nxt{w5 wr W':World}{bu bs:Nat}{cv:Value}{U:List Sg}{s:Sg}{c:List Sg}(h:It w5 wr bu bs cv U s c)(hx:Ab wr W')(hne:bu≠bs)(hs:bs<w5.heap.size)(t:Sg) :
  It w5 ((((W'.setCell ⟨bs,0,none⟩ (S (R t.a.x))).setCell ⟨bs,1,none⟩ (S (R t.a.y))).setCell ⟨bs,2,none⟩ (S (R t.b.x))).setCell ⟨bs,3,none⟩ (S (R t.b.y))) bu bs cv U t c:=by
 have hb:=(hx.block bs (Ao5 h.box)).trans h.box;have hr:=h.row.kept (GK hx none) (by cases cv.ownBlock with|none=>exact .inl rfl|some k=>exact .inr (by simp));have hu:Eg W' bu U:=(hx.block bu (Ao5 h.used)).trans h.used;have far:∀(X:World) (o:Nat) (v:Value) (q:Nat),q≠bs→(X.setCell ⟨bs,o,none⟩ v).heap[q]?=X.heap[q]?:=fun X o v q hq=>Below.heap_setCell _ _ _ _ hq;have Br:=((((h.but.ext hx).setCell (p:=⟨bs,0,none⟩) (.inl (.inr rfl)) (S (R t.a.x))).setCell (p:=⟨bs,1,none⟩) (.inl (.inr rfl)) (S (R t.a.y))).setCell (p:=⟨bs,2,none⟩) (.inl (.inr rfl)) (S (R t.b.x))).setCell (p:=⟨bs,3,none⟩) (.inl (.inr rfl)) (S (R t.b.y));refine⟨?_,PD _ _ _ _ hb,?_,Br⟩
 ·unfold Eg;rw [far _ _ _ _ hne,far _ _ _ _ hne,far _ _ _ _ hne,far _ _ _ _ hne];exact hu
 ·refine Cg hr (K:=fun k=>k=bs) ?_ ?_
  ·exact(((((AD.refl (fun k=>k=bs) W').setCell (p:=⟨bs,0,none⟩) (.inl rfl) _).setCell (p:=⟨bs,1,none⟩) (.inl rfl) _).setCell (p:=⟨bs,2,none⟩) (.inl rfl) _).setCell (p:=⟨bs,3,none⟩) (.inl rfl) _)
  ·intro k hk e;subst e;exact oq hr hs hk
theorem qM{a b c:World}{bu bs:Nat}(hx:Ab a b)(h:AD (fun k=>k=bu∨k=bs) b c)(hs:a.heap.size<=bs):AD (fun k=>k=bu) a c:=
 ⟨h.os.trans hx.os,h.tape.trans hx.tape,h.output.trans hx.output,AoH hx.size h.size,fun k hk hn=>(h.block k (AoG hk hx.size) (by rintro(e|e);exact hn e;omega)).trans (hx.block k hk)⟩
theorem sF{w0 w:World}(hw:Am w0)(hx:Ab w0 w){B:Nat}{r b1 b2:Nat}{L:List (Sg×Int)}{E:List (Pt×Value×Nat)}{R0:List (Pt×List Pt)}(h:BD B w r b1 b2 L E R0)(hN:Ft (L.map (·.1)) R0)(hW:P9 (L.map (·.1)))(hlen:L.length<=100000)(hrl:∀e∈R0,e.2.length<100000) :
  Calls Tryz.prog 105 #[.pointer (some ⟨r,0,none⟩)] w fun e w'=>∃A cap,e=.returned (.slice A (Hz (L.map (·.1)) R0).length cap)/\Ms w' A cap (Hz (L.map (·.1)) R0)/\Ab w w':=by
 have hmm:=@run_makeMap Tryz.prog;have n1:=Aa (o:=0) h.cell rfl;obtain⟨Ws,Na⟩:=Ao3 (L.map (·.1));have wK:Ws.length=L.length:=(by rw [Na];simp);obtain⟨C,hC⟩:=Ao3 (Hz Ws R0);rw [←Na]at hN hW ⊢;rw [←hC];have HC:=Ao4 hC;have HN:=Ao4 hN;have HW:=Ao4 hW;have KO:=Ao4 hrl;have Qg:=Ao6 w (.map #[] 0);have CB:=(Ab.refl w).alloc (.map #[] 0);have bO:=h.ext CB;have hs1:(w.alloc (.map #[] 0)).heap.size=w.heap.size+1:=(by simp);have kw:=fun mb W=>iY mb W;have hb0:=h.left;have zY:=Ao5 h.cell;have hsw:∀e∈L,EP 200 e.1:=fun e he=>hW.sz e.1 (by rw [Na];exact List.mem_map_of_mem he);have HSW:=Ao4 hsw;have Vh:=Ao4 wK;have M7:=Ao4 Na;clear hC hN hW hrl hsw wK Na;go_enter Tryz.func105,Tryz.ntmps105
 go_upto_region 3 with fail
 generalize w.alloc (.map #[] 0)=W1 at *;obtain⟨bu,yC⟩:=Ao3 w.heap.size;rw [←yC]at Qg ⊢;have LM:w.heap.size<=bu:=(by omega);have Kq:bu<W1.heap.size:=(by omega);clear yC hs1;have m1:=Aa (o:=0) bO.cell rfl;(go_wp2_with fail);(with_reducible refine(kw _ _).mono ?_);rintro e w2 ⟨rfl,hw2⟩;have Dp:Ab W1 w2:=(by rw [hw2];exact(Ab.refl W1).alloc _);have Cq:=Ao6 W1 (.cells #[.map (some b1)] 95);rw [←hw2]at Cq;have Kc:=bO.ext Dp;have hx2:=(hx.trans CB).trans Dp;have hBm:W1.heap.size<w2.heap.size:=Ao5 Cq;have sk:=lP hw hx2 W1.heap.size b1 L hBm (Aa Cq rfl) Kc.left HSW.out (by omega);clear hw2 m1 n1 kw;(go_wp2_with fail);(with_reducible refine sk.mono ?_);rintro e w3 ⟨sv,rfl,Dw,BV⟩;rw [←M7.out]at Dw;have Jh:Ab w w3:=(CB.trans Dp).trans BV;have GN:=Kc.ext BV;have gV:w3.heap[bu]?=some (.map #[] 0):=((Dp.trans BV).block bu Kq).trans Qg;have hU0:Eg w3 bu []:=gV;have D8:(BO Ws).length=L.length:=(by rw [(JD Ws).length_eq];exact Vh.out);obtain⟨sA,sc,rfl,-,-,-⟩:=Af.of_own' (by omega) Dw;have hx3:Ab w0 w3:=hx.trans Jh;have AmT:bu<w3.heap.size:=Ao5 gV;have IY:=Ao4 D8;have nS:=Ao4 Dw;have Ir:=Ao4 h;clear sk Cq hBm Kc hx2 Dp CB BV Qg Kq bO hb0 D8 Dw h hx GN;have hl0:(0:Int)<=(L.length:Int):=by omega
 go_upto_region 4 with fail
 go_loopw [3,16] (fun out i wr=>∃(k:Nat) (st:List Sg×List (List Sg)),i=.int .i64 (k:Nat)/\k<=L.length/\st=((BO Ws).take k).foldl (Gn Ws.length R0) ([],[])/\JP w3.heap.size wr out st.2/\Eg wr bu st.1/\AD (fun j=>j=bu) w3 wr) (fun _ i _=>L.length-(intOf i).toNat)
 case atStart=>exact⟨0,([],[]),rfl,by omega,by simp,JP.nil _ _,hU0,AD.refl _ _⟩
 case round=>
  obtain⟨k,st,rfl,hk,hst,hO,hU,hB⟩:=hrel;have HST:=Ao4 hst;clear hst;have Dw:=Cg nS.out hB (fun j hj e=>ol nS.out gV (fun _ e=>by cases e) j hj e);have Cd:Ab w wr:=hB.toExt Jh (fun j e=>by subst e;exact LM);by_cases hlt:k<L.length
  ·obtain⟨sA',sc',Qy,Qz,-,-⟩:=Af.of_own' (by omega) Dw;simp only [Value.slice.injEq,true_and]at Qy;obtain⟨rfl,rfl⟩:=Qy;obtain⟨b,o,rfl,g1,g2,g3,g4⟩:=K7 Qz (show k<(BO Ws).length by rw [IY.out];exact hlt);obtain⟨s0,hs0⟩:∃s,s=(BO Ws)[k]'(by rw [IY.out];exact hlt):=⟨_,rfl⟩;rw [←hs0]at g1 g2 g3 g4
   have hstep:((BO Ws).take (k+1)).foldl (Gn Ws.length R0) ([],[])=Gn Ws.length R0 st s0:=by rw [AoA (show k<(BO Ws).length by rw [IY.out];exact hlt),List.foldl_append,←HST.out,←hs0];rfl
   have fY:s0∈Ws:=(JD Ws).mem_iff.1 (by rw [hs0];exact Ao8 _);obtain⟨CN,-⟩:=rZ HN.out k (by rw [IY.out];omega);rw [←HST.out]at CN;have hlU:=Kt CN.nd CN.sub;obtain⟨dd,e1,e2,e3,-,-⟩:=lD HN.out (Ws.length-st.1.length+1) st.1 s0 [] CN.nd CN.sub fY (by omega);have Jr:dd.length<=Ws.length:=Kt (List.nodup_append.1 e2).2.1 e3;have yx:=Ao4 Jr;have RA:=Ao4 e1;have Vg:=Ao4 hstep;have JI:=Ao4 CN;have HS0:=Ao4 fY;have As:=Ao6 wr (.cells #[S (R s0.a.x),S (R s0.a.y),S (R s0.b.x),S (R s0.b.y)] 140);have E4:=(Ab.refl wr).alloc (.cells #[S (R s0.a.x),S (R s0.a.y),S (R s0.b.x),S (R s0.b.y)] 140);have Xq:wr.heap.size<(wr.alloc (.cells #[S (R s0.a.x),S (R s0.a.y),S (R s0.b.x),S (R s0.b.y)] 140)).heap.size:=(by simp);have k0:(0:Int)<=(k:Int):=(by omega);have k1:(k:Int)<(L.length:Int):=(by omega);clear hs0 hstep CN e1 e2 e3 Jr fY Dw Qz hlU
   go_upto_region 6 with fail
   unfold S at As E4 Xq;generalize cY:wr.alloc (.cells #[.string ⟨(R s0.a.x).toArray⟩,.string ⟨(R s0.a.y).toArray⟩,.string ⟨(R s0.b.x).toArray⟩,.string ⟨(R s0.b.y).toArray⟩] 140)=W4 at *;obtain⟨bs,Tn⟩:=Ao3 wr.heap.size;rw [←Tn]at As Xq ⊢;have Agt:bu<wr.heap.size:=Ao5 hU;have hne:bu≠bs:=(by omega);have Na:wr.heap.size<=bs:=(by omega);have AnS:=hB.size;clear cY Tn g1 g2 g3 g4;have I6:It W4 W4 bu bs (.slice none 0 0) st.1 s0 []:=⟨(E4.block bu Agt).trans hU,As,⟨rfl,.inl ⟨rfl,rfl⟩⟩,AD.refl _ _⟩;have HI0:=Ao4 I6;clear I6 As
   go_upto_region 7 with fail
   go_loopw [7] (fun cv wi=>∃(U:List Sg) (s:Sg) (c:List Sg),It W4 wi bu bs cv U s c/\s∈Ws/\U.Nodup/\(∀t∈U,t∈Ws)/\Hk R0 (Ws.length-U.length+1) U s c=(st.1++dd,dd)) (fun _ wi=>L.length-jG wi bu)
   case atStart=>exact⟨st.1,s0,[],HI0.out,HS0.out,JI.out.nd,JI.out.sub,by rw [RA.out];simp⟩
   case round=>
    obtain⟨U,s,c,hI,Ny,Wr,Wt,hrun⟩:=hrel;have uS:=qM E4 hI.but Na;have CM:=hB.trans uS;have Ww:Ab w wr:=CM.toExt Jh (fun j e=>by subst e;exact LM);have vQ:=Ir.out.ext Ww;have z0:=Aa (o:=0) hI.box rfl;have z1:=Aa (o:=1) hI.box rfl;have z2:=Aa (o:=2) hI.box rfl;have z3:=Aa (o:=3) hI.box rfl;have Xf:=hI.used.look s;obtain⟨cA,cc,rfl,-,-,-⟩:=Af.of_own' (by omega) hI.row;have wJ:=Kt Wr Wt;by_cases hu:U.any (Be s)=true
    ·rw [hu]at Xf
     have CC:U=st.1++dd/\c=dd:=by unfold Hk at hrun;rw [if_pos hu]at hrun;simp only [Prod.mk.injEq]at hrun;exact hrun
     obtain⟨rfl,rfl⟩:=CC
     have vS:=hO.keep uS (fun j _ e cs ee h=>by
      subst e;have h1:=hU;unfold Eg at h1;rw [h1]at h
      cases h)
     have cJ:=hI.used;unfold AC at Xf;have HI:=Ao4 hI;clear hrun hI hO wJ Wr Wt vQ;by_cases hc0:c.length=0
     ·have Tt:c = []:=List.eq_nil_of_length_eq_zero hc0
      have hcs:Gn Ws.length R0 st s0=(st.1++c,st.2):=by unfold Gn;rw [RA.out,Tt];rfl
      have NR:=Ao4 hcs;have hcz:(c.length:Int)=0:=(by omega);rw [hc0];clear hc0 Tt hcs hcz;go_wp2;go_roundw
      case rel=>exact⟨k+1,(st.1++c,st.2),by go_num,hlt,by rw [Vg.out,NR.out],vS,cJ,CM⟩
      case measure=>simp [intOf];omega
     ·have hcs:Gn Ws.length R0 st s0=(st.1++c,st.2 ++ [c]):=by unfold Gn;rw [RA.out];simp only [List.nil_append];rw [if_pos (by omega)]
      have NR:=Ao4 hcs;have Lu:(0:Int)<(c.length:Int):=(by omega);have hcd:decide ((c.length:Int)>0)=true:=decide_eq_true Lu;obtain⟨vs,Ud,Xt⟩:=vS
      have Agj:st.2.length<200000:=by have h1:=JI.out.flat;have h2:=Kt JI.out.nd JI.out.sub;have h3:st.2.length<=st.2.flatten.length:=XC JI.out.ne;rw [h1]at h3;have:=Vh.out;omega
      have hrow:=om HI.out.row (B':=w3.heap.size) (by have:=hB.size;have:=E4.size;omega);have hbase:w3.heap.size<=wr.heap.size:=CM.size;have HVR:=Ao4 Xt;clear hc0 hcs Xt
      go_wp2_with (at_builtin;go_loud (refine appRow rfl _ _ rfl _ w3.heap.size u3 st.2.length vs rfl (AL Ud ((Ab.refl wr).alloc _)) Agj (.slice cA c.length cc) rfl wr.heap.size (Ao6 wr _) rfl (by simp;omega) ?_);intro v9 w9 CE DW)
      have Ng:=(Ab.refl wr).alloc (.cells #[.slice cA c.length cc] 143);have hO9:=AiJ (AL Ud Ng) (fun j hj=>by obtain⟨v,q1,q2⟩:=HVR.out j hj;exact⟨v,q1,AL q2 Ng⟩) (AL hrow Ng) DW CE;have cK:Eg (wr.alloc (.cells #[.slice cA c.length cc] 143)) bu (st.1++c):=(Ng.block bu (Ao5 cJ)).trans cJ;have hU9:=cK.far DW (Yg (AL Ud Ng) cK);have PS:=(CM.ext Ng).own DW (AL Ud Ng) (Ao7 _);clear Ng cK CE DW Ud hrow;go_wp2;go_roundw
      case rel=>exact⟨k+1,(st.1++c,st.2 ++ [c]),by go_num,hlt,by rw [Vg.out,NR.out],hO9,hU9,PS⟩
      case measure=>simp [intOf];omega
    ·have hno:U.any (Be s)=false:=(by simpa using hu);rw [hno]at Xf
     have hcl:c.length<200000:=by have h1:=ri R0 (Ws.length-U.length+1) U s c;rw [hrun]at h1;have:=yx.out;have:=Vh.out;simp only at h1;omega
     have gb:s∉U:=pJ.1 hno
     have cQ:(U ++ [s]).Nodup:=by rw [List.nodup_append];refine⟨Wr,by simp,?_⟩;intro a ha b hb;simp only [AoJ]at hb;subst hb;rintro rfl;exact gb ha
     have cT:∀t∈U ++ [s],t∈Ws:=by
      intro t ht
      rcases List.mem_append.1 ht with ht|ht
      ·exact Wt t ht
      ·simp only [AoJ]at ht;exact ht▸Ny
     have cL:=Kt cQ cT;rw [List.length_append,List.length_singleton]at cL
     have hrun':Hk R0 (Ws.length-(U ++ [s]).length+1) (U ++ [s]) (NB R0 s) (c ++ [s])=(st.1++dd,dd):=by unfold Hk at hrun;rw [if_neg (by rw [hno];simp)]at hrun;rw [List.length_append,List.length_singleton,show Ws.length-(U.length+1)+1=Ws.length-U.length by omega];exact hrun
     obtain⟨Wp,hput,MU⟩:=hI.put hne hno;obtain⟨e,hf,j,m,hj,hi,hm,TL,Fc,Xi⟩:=HN.out.step Ny;rw [←Fc]at Xi;have cn:=fun (W7:World) (O6:Ab w W7)=>Aik (Ir.out.ext O6) s hf hj hi hm TL (KO.out e (List.mem_of_find?_eq_some hf));rw [←Fc]at cn;obtain⟨t,ht⟩:=Ao3 (NB R0 s);rw [←ht]at Xi hrun' cn;have y0:=Aa (o:=0) MU.box rfl;have y1:=Aa (o:=1) MU.box rfl;have y2:=Aa (o:=2) MU.box rfl;have y3:=Aa (o:=3) MU.box rfl;have FA:=hI.used.size;have HMS:=Ao4 (And.intro FA (And.intro cL Vh.out));have HR:=Ao4 (And.intro hrun' (And.intro cQ (And.intro cT Xi)));have Au:W4.heap.size<=Wp.heap.size:=MU.but.size;have Ij:=MU.row;have HIP:=Ao4 MU;unfold AC at Xf hput cn;clear hrun hrun' Wr cQ Wt cT Xi FA wJ cL hI MU ht Fc TL hm hi hj hf hno gb hu vQ
     go_wp2_with (at_builtin;go_loud (refine AbB rfl _ _ rfl _ W4.heap.size (.slice cA c.length cc) c.length c rfl (AL Ij ((Ab.refl Wp).alloc _)) hcl s Wp.heap.size (Ao6 Wp _) rfl (by simp;omega) ?_);intro v7 w7 Ih Kg;have ED:=It.app HIP.out Xq Kg Ih;have x0:=Aa (o:=0) ED.box rfl;have x1:=Aa (o:=1) ED.box rfl;have x2:=Aa (o:=2) ED.box rfl;have x3:=Aa (o:=3) ED.box rfl)
     have O6:Ab w w7:=(hB.trans (qM E4 ED.but Na)).toExt Jh (fun j e=>by subst e;exact LM);(with_reducible refine(cn w7 O6).mono ?_);rintro e w8 ⟨rfl,AX⟩;have Gt:=(AX.block bs (Ao5 ED.box)).trans ED.box;have y0:=Aj (o:=0) Gt;have y1:=Aj (o:=1) Gt;have y2:=Aj (o:=2) Gt;have y3:=Aj (o:=3) Gt;have q0:=Aa (o:=0) Gt rfl;have q1:=Aa (o:=1) Gt rfl;have q2:=Aa (o:=2) Gt rfl;have q3:=Aa (o:=3) Gt rfl;have PW:=ED.nxt AX hne Xq t;have nB:=Ao4 PW;clear PW Gt x0 x1 x2 x3 O6 AX ED Ih Kg Ij cn;go_wp2;go_roundw
     case rel=>exact⟨U ++ [s],t,c ++ [s],nB.out,HR.out.2.2.2,HR.out.2.1,HR.out.2.2.1,HR.out.1⟩
     case measure=>have h1:=nB.out.used.size;have h2:=HMS.out;rw [List.length_append,List.length_singleton]at h1;rw [h1,h2.1];omega
  ·have hk2:k=L.length:=by omega
   have CC:st.2=C:=by rw [HC.out];unfold Hz;rw [HST.out,hk2,←IY.out,List.take_length]
   have hle:(L.length:Int)<=(k:Int):=(by omega);rw [CC]at hO;obtain⟨A,cap,rfl,hcs⟩:=hO.cycs;have NR:=Ao4 hcs;clear hcs hO hU Dw hB hk2;go_wp2;go_ret;exact⟨A,cap,rfl,NR.out,Cd⟩
def Dx(C:List (List Sg)):List (Sg×Int):=C.zipIdx.flatMap (fun ci=>ci.1.map (fun s=>(s,(ci.2:Int))))
theorem ow(C:List (List Sg))(c:List Sg):Dx (C ++ [c])=Dx C++c.map (fun s=>(s,(C.length:Int))):=by
 unfold Dx;rw [List.zipIdx_append,List.flatMap_append];simp
theorem ou(C:List (List Sg)):(Dx C).map (·.1)=C.flatten:=by
 have main:∀n,n<=C.length→(Dx (C.take n)).map (·.1)=(C.take n).flatten:=by
  intro n
  induction n with
  | zero=>intro _;simp [Dx]
  | succ n ih=>
   intro hn;rw [AoA (by omega),ow,List.map_append,ih (by omega),List.flatten_append,List.map_map]
   congr 1
   simp [Function.comp_def]
 have:=main C.length (Ao7 _)
 rwa [List.take_length]at this
theorem AiR{C:List (List Sg)}{e:Sg×Int}(h:e∈Dx C):∃i,∃hi:i<C.length,e.2=(i:Int)/\e.1∈C[i]:=by
 unfold Dx at h;rw [List.mem_flatMap]at h;obtain⟨ci,h1,h2⟩:=h;rw [List.mem_map]at h2;obtain⟨s,hs,rfl⟩:=h2;obtain⟨c,i⟩:=ci;rw [List.mem_zipIdx_iff_getElem?]at h1;simp only at h1 hs;rw [AoK]at h1;obtain⟨hi,rfl⟩:=h1;exact⟨i,hi,rfl,hs⟩
def PM(C:List (List Sg))(s:Sg):Int:=match (Dx C).find? (fun e=>Be s e.1)with|some e=>e.2|none=>0
theorem AcZ{C:List (List Sg)}{s:Sg}(h:s∈C.flatten):∃i,∃hi:i<C.length,PM C s=(i:Int)/\s∈C[i]:=by
 unfold PM;rw [←ou,List.mem_map]at h;obtain⟨e,he,rfl⟩:=h
 cases hf:(Dx C).find? (fun x=>Be e.1 x.1)with
 | none=>
  rw [List.find?_eq_none]at hf;exact absurd (Ip.2 rfl) (hf e he)
 | some x=>obtain⟨i,hi,h1,h2⟩:=AiR (List.mem_of_find?_eq_some hf);have h3:=List.find?_some hf;rw [Ip]at h3;exact⟨i,hi,h1,h3▸h2⟩
def findNext(f:Nat→Int)(C:List (List Sg)):Option (Sg×Rat)→Int
 | none=>-1
 | some x=>f (PM C x.1).toNat
def C4(W:List Sg)(C:List (List Sg)):Nat→Nat→Int
 | 0,_=>-1
 | n+1,i=>
  if 0<Hu (C.getD i [])then (i:Int)
  else findNext (fun j=>C4 W C n j) C (CS (aOf (C.getD i [])) W)
where aOf:List Sg→Pt
 | []=>⟨0,0⟩
 | s::_=>s.a
def leftOf(W:List Sg)(X:Rat):Nat:=W.countP (fun s=>decide (s.a.x<X))
theorem rS{α:Type}{p q:α→Bool} : ∀{l:List α},(∀x∈l,p x=true→q x=true)→(∃x∈l,q x=true/\p x=false)→l.countP p<l.countP q
 | [],_,h=>by obtain⟨x,hx,_⟩:=h;cases hx
 | a::l,h1,h2=>by
  have hle:l.countP p<=l.countP q:=List.countP_mono_left (fun x hx=>h1 x (List.mem_cons_of_mem _ hx));obtain⟨x,hx,hq,hp⟩:=h2
  rcases List.mem_cons.1 hx with rfl|hx
  ·rw [List.countP_cons,List.countP_cons,hq,hp];simp;omega
  ·have:=rS (fun x hx=>h1 x (List.mem_cons_of_mem _ hx)) ⟨x,hx,hq,hp⟩;have ha:=h1 a List.mem_cons_self;rw [List.countP_cons,List.countP_cons]
   cases Gd:p a
   ·cases q a<;>simp<;>omega
   ·rw [ha Gd];simp;omega
theorem oO{c:List Sg}(h:0<c.length):C4.aOf c=c[0].a:=by
 cases c with
 | nil=>simp at h
 | cons s c=>rfl
theorem AdS{W U:List Sg}{C:List (List Sg)}(hC:UK W U C)(hall:∀s∈W,s∈U)(hG:KN W){i:Nat}(hi:i<C.length){x:Sg×Rat}(hb:CS (C4.aOf C[i]) W=some x) :
  x.1∈W/\∃j,∃hj:j<C.length,PM C x.1=(j:Int)/\leftOf W (C4.aOf C[j]).x<leftOf W (C4.aOf C[i]).x:=by
 have h1:=Z9 hG (C4.aOf C[i]) W (fun _ h=>h);rw [hb]at h1;obtain⟨s,Fb⟩:=x;obtain⟨hs,hc,-,-⟩:=h1;obtain⟨j,hj,e,hm⟩:=AcZ (C:=C) (s:=s) (by rw [hC.flat];exact hall s hs);refine⟨hs,j,hj,e,?_⟩;have hl0:0<C[j].length:=List.length_pos_iff.2 (hC.ne _ (Ao8 hj));have hle:=hC.least _ (Ao8 hj) s hm hl0;rw [QH]at hle;rw [oO hl0];refine rS (fun y _ hy=>?_) ⟨s,hs,?_,?_⟩
 ·simp only [decide_eq_true_eq]at hy ⊢;have:=hc.1
  grind
 ·simp only [decide_eq_true_eq];exact hc.1
 ·simp only [decide_eq_false_iff_not];grind
theorem uA(s:Sg):∀(L:List (Sg×Int)) (k:Nat),(L.mapIdx (fun i e=>(e.1,Value.int .i64 e.2,i+k))).find? (fun e=>Be s e.1)=none/\L.find? (fun e=>Be s e.1)=none∨∃x e,(L.mapIdx (fun i e=>(e.1,Value.int .i64 e.2,i+k))).find? (fun e=>Be s e.1)=some x/\L.find? (fun e=>Be s e.1)=some e/\x.2.1=.int .i64 e.2
 | [],_=>.inl ⟨by simp,by simp⟩
 | e::L,k=>by
  rw [List.mapIdx_cons,List.find?_cons,List.find?_cons]
  cases h:Be s e.1
  ·have:=uA s L (k+1)
   simpa only [Nat.add_assoc,Nat.add_comm 1 k]using this
  ·exact .inr ⟨_,e,rfl,rfl,rfl⟩
theorem named{a b:World}(_:Ab a b):∃x,x=b:=⟨b,rfl⟩
def AS(s:Sg)(L:List (Sg×Int)):Int:=match L.find? (fun e=>Be s e.1)with|some e=>e.2|none=>0
theorem ky(s:Sg)(L:List (Sg×Int)):FI Be (.int .i64 0) s (stamp L)=.int .i64 (AS s L):=by
 have h:=uA s L 0;simp only [Nat.add_zero]at h;unfold FI AS stamp
 rcases h with⟨h1,h2⟩|⟨x,e,h1,h2,h3⟩
 ·rw [h1,h2]
 ·rw [h1,h2];exact h3
theorem NJ(s:Sg)(L:List (Sg×Int)){b:Nat}{W:World}(hb:W.heap[b]?=some (.map (AN AC (stamp L)).toArray L.length)) :
  (Instr.lookup 95 (.map (some b)) (AC s) false).run Tryz.prog W=.ok (.int .i64 (AS s L)) W:=by
 rw [Rf XB s (stamp L) hb,ky]
structure RN(B:Nat)(w:World)(r b1 b2:Nat)(L:List (Sg×Int))(E:List (Pt×Value×Nat))(R0:List (Pt×List Pt))(bc bn bf ba bm:Nat)(A:Option Addr)(cap:Nat)(C:List (List Sg)):Prop where
 net:BD B w r b1 b2 L E R0
 cyc:Ms w A cap C
 cc:w.cell? ⟨bc,0,none⟩=some (.slice A C.length cap)
 cn:w.cell? ⟨bn,0,none⟩=some (.pointer (some ⟨r,0,none⟩))
 cf:w.cell? ⟨bf,0,none⟩=some (.func (.func 154) #[] #[.pointer (some ⟨bc,0,none⟩),.pointer (some ⟨bn,0,none⟩),.pointer (some ⟨bf,0,none⟩),.pointer (some ⟨ba,0,none⟩)])
 ca:w.cell? ⟨ba,0,none⟩=some (.map (some bm))
 m:w.heap[bm]?=some (.map (AN AC (stamp (Dx C))).toArray (Dx C).length)
theorem RN.ext{B:Nat}{w w':World}{r b1 b2:Nat}{L:List (Sg×Int)}{E:List (Pt×Value×Nat)}{R0:List (Pt×List Pt)}{bc bn bf ba bm:Nat}{A:Option Addr}{cap:Nat}{C:List (List Sg)}(h:RN B w r b1 b2 L E R0 bc bn bf ba bm A cap C)(hx:Ab w w'):RN B w' r b1 b2 L E R0 bc bn bf ba bm A cap C:=
 ⟨h.net.ext hx,h.cyc.ext hx,hx.cellS h.cc,hx.cellS h.cn,hx.cellS h.cf,hx.cellS h.ca,(hx.block _ (Ao5 h.m)).trans h.m⟩
structure Pm(W:List Sg)(U:List Sg)(C:List (List Sg)):Prop where
 ok:UK W U C
 all:∀s∈W,s∈U
 good:KN W
 grid:∀s∈W,IZ s
 len:W.length<=100000
theorem vh{α:Type} : ∀{l:List (List α)} {i:Nat} (h:i<l.length),l[i].length<=l.flatten.length
 | a::l,0,_=>by simp
 | a::l,i+1,h=>by have:=vh (l:=l) (i:=i) (by simpa using h);simp only [List.getElem_cons_succ,List.flatten_cons,List.length_append];omega
theorem Pm.row{W U:List Sg}{C:List (List Sg)}(h:Pm W U C){i:Nat}(hi:i<C.length):(∀s∈C[i],IZ s)/\0<C[i].length/\C[i].length<=100000:=by
 refine⟨fun s hs=>h.grid s (h.ok.sub s ?_),List.length_pos_iff.2 (h.ok.ne _ (Ao8 hi)),?_⟩
 ·rw [←h.ok.flat];exact List.mem_flatten.2 ⟨_,Ao8 hi,hs⟩
 ·have h1:=vh hi;rw [h.ok.flat]at h1;have h2:=Kt h.ok.nd h.ok.sub;have:=h.len;omega
theorem AdR{B:Nat}{r b1 b2:Nat}{L:List (Sg×Int)}{E:List (Pt×Value×Nat)}{R0:List (Pt×List Pt)}{bc bn bf ba bm:Nat}{A:Option Addr}{cap:Nat}{C:List (List Sg)}{W U:List Sg}(hW:W=L.map (·.1))(hG:Pm W U C) :
  ∀(n i:Nat) (hi:i<C.length),leftOf W (C4.aOf C[i]).x<n→∀w,Am w→RN B w r b1 b2 L E R0 bc bn bf ba bm A cap C→
  Calls Tryz.prog 154 #[.int .i64 (i:Nat),.pointer (some ⟨bc,0,none⟩),.pointer (some ⟨bn,0,none⟩),.pointer (some ⟨bf,0,none⟩),.pointer (some ⟨ba,0,none⟩)] w (AI (C4 W C n i) w):=by
 intro n
 induction n with
 | zero=>intro i hi hlt;omega
 | succ n ih=>
  intro i hi hlt w hw h;obtain⟨g1,g2,g3⟩:=hG.row hi;obtain⟨bA,oA,A',c',rfl,hcell,Bf,hc1,hc2⟩:=h.cyc.row i hi;have pL:=pS C[i] A' c' g1 g2 g3 hc1 hc2;have ar:=fun (w1:World) (hw1:Am w1) (hE:Ab w w1)=>pL w1 hw1 (Bf.ext hE);clear pL;have sg:=Ra (Hu C[i]);have hd:=fun x=>AdS hG.ok hG.all hG.good hi (x:=x);have zD:C.getD i []=C[i]:=by rw [List.getD_eq_getElem?_getD,AoC hi];rfl
  have Qm:C4 W C (n+1) i=if 0<Hu C[i] then (i:Int)else findNext (C4 W C n) C (CS (C4.aOf C[i]) W):=by rw [C4,zD]
  have hc0:(0:Int)<(c':Int):=(by omega);have hl0:(0:Int)<(C[i].length:Int):=(by omega);have Kh:(0:Int)<=(i:Int):=(by omega);have OF:(i:Int)<(C.length:Int):=(by omega);have Gd:=oO g2;have fM:=(g1 _ (Ao8 g2)).a;rw [←Gd]at fM;have bl:=fun (w1:World) (hw1:Am w1) (h1:BD B w1 r b1 b2 L E R0)=>pW h1 (C4.aOf C[i]) (k:=200) (fun e he=>(hG.grid e.1 (by rw [hW];exact List.mem_map_of_mem he)).sz (by omega)) (fM.sz (by omega)) (by omega) (by omega) hw1
  have Au:∀l:List Sg,l.Perm (L.map (·.1))→CS (C4.aOf C[i]) l=CS (C4.aOf C[i]) W:=fun l hl=>by rw [←hW]at hl;exact pX hG.good _ hl (fun t ht=>hl.mem_iff.1 ht)
  have ej:=K7 Bf g2;have hsp:=Yu (Hu C[i])
  have Ib:∀x,CS (C4.aOf C[i]) W=some x→∃j,∃hj:j<C.length,AS x.1 (Dx C)=(j:Int)/\(PM C x.1).toNat=j/\leftOf W (C4.aOf C[j]).x<n:=by intro x hx;obtain⟨-,j,hj,e,hl⟩:=hd x hx;exact⟨j,hj,e,by rw [e];omega,by omega⟩
  obtain⟨st,hst⟩:=Ao3 (CS (C4.aOf C[i]) W);rw [←hst]at Qm Au Ib;obtain⟨p,hp⟩:=Ao3 (C4.aOf C[i]);rw [←hp]at bl Au;rw [←Gd,←hp]at ej;obtain⟨q,hq⟩:=Ao3 (Hu C[i]);rw [←hq]at ar sg hsp Qm;obtain⟨m,hm⟩:=Ao3 (C[i].length);rw [←hm]at ar hl0 hcell;obtain⟨z,hz⟩:=Ao3 (C4 W C (n+1) i);rw [←hz]at Qm ⊢;obtain⟨bB,oB,hAB,k1,k2,-,-⟩:=ej;subst hAB;obtain⟨sq,Bp⟩:=Ao3 (AZ q);rw [←Bp]at sg hsp;have YI:=Ao4 Qm;have UX:=Ao4 Ib;have UU:=Ao4 Au;have m1:=h.cc;have m2:=h.cn;clear Qm Ib Au hp hq hm hz Gd fM hd hst Bp g1 g2 g3 zD Bf hlt;rw [Nat.zero_mul,Nat.add_zero]at k1 k2;go_enter Tryz.func154,Tryz.ntmps154;(go_wp2_with fail);(with_reducible refine(ar w hw (Ab.refl w)).mono ?_);rintro e w1 ⟨rfl,hx1⟩;(go_wp2_with fail);(with_reducible refine(sg _).mono ?_);rintro e w2 ⟨rfl,hx2⟩;have Ca:=hx1.trans hx2;replace m1:=Ca.cellS m1;replace m2:=Ca.cellS m2;replace hcell:=Ca.cellS hcell;replace k1:=Ca.cellS k1;replace k2:=Ca.cellS k2;clear ar sg hx1 hx2;by_cases Cl:0<q
  ·have Agk:0<sq:=hsp.2 Cl;have hz:z=(i:Int):=(by rw [YI.out,if_pos Cl]);subst hz;go_wp2;go_ret;exact⟨rfl,Ca⟩
  ·have Agk:¬0<sq:=fun h=>Cl (hsp.1 h);have HZ:=Ao4 (show z=findNext (C4 W C n) C st by rw [YI.out,if_neg Cl]);obtain⟨c0,c1,c2,c3,hc⟩:=ZA st;obtain⟨aJ,eE⟩:=Ao3 st.isSome;have hw2:=hw.ext Ca;have h2:=h.ext Ca
   have bl':∀w',Ab w2 w'→Calls Tryz.prog 113 #[.pointer (some ⟨r,0,none⟩),.agg #[S (R p.x),S (R p.y)]] w' (BG (.tuple #[.agg #[S c0,S c1,S c2,S c3],.bool aJ]) w'):=fun w' hx=>(bl w' (hw2.ext hx) (h2.net.ext hx)).mono fun e w'' ⟨l,hl,he,hx'⟩=>⟨by rw [he,UU.out l hl];unfold Sa;rw [hc,eE],hx'⟩
   have mY:=Ao4 eE;clear YI hsp Cl bl eE
   have SO:∀w',Ab w2 w'→(w'.cell? ⟨bc,0,none⟩=some (.slice (some ⟨bA,oA,none⟩) C.length cap)/\w'.cell? ⟨bn,0,none⟩=some (.pointer (some ⟨r,0,none⟩))/\w'.cell? ⟨bA,oA+i,none⟩=some (.slice (some ⟨bB,oB,none⟩) m c')/\w'.cell? ⟨bB,oB,none⟩=some (S (R p.x))/\w'.cell? ⟨bB,oB+1,none⟩=some (S (R p.y))):=fun w' h=>⟨h.cellS m1,h.cellS m2,h.cellS hcell,h.cellS k1,h.cellS k2⟩
   have X:Ab w2 w2:=Ab.refl w2;have e0:(0:Int)<(m:Int):=hl0;have e00:0<m:=by omega
   go_upto_region 3 with fail
   go_cut [7,8] (fun v7 v8 wx=>∃b,v7=.pointer (some ⟨b,0,none⟩)/\v8=.bool aJ/\wx.heap[b]?=some (.cells #[S c0,S c1,S c2,S c3] 140)/\Ab w2 wx)
   case first=>
    go_region_held3 (fun w'=>w'.cell? ⟨bc,0,none⟩=some (.slice (some ⟨bA,oA,none⟩) C.length cap)/\w'.cell? ⟨bn,0,none⟩=some (.pointer (some ⟨r,0,none⟩))/\w'.cell? ⟨bA,oA+i,none⟩=some (.slice (some ⟨bB,oB,none⟩) m c')/\w'.cell? ⟨bB,oB,none⟩=some (S (R p.x))/\w'.cell? ⟨bB,oB+1,none⟩=some (S (R p.y)))
     (first|with_reducible exact SO _ X|with_reducible exact SO _ X.drew|with_reducible exact SO _ (X.alloc _)|with_reducible exact SO _ (X.alloc _).drew|exact SO _ ((((X.setCell (Ao7 _) _).setCell (Ao7 _) _).setCell (Ao7 _) _).setCell (Ao7 _) _)|exact SO _ (((((X.alloc _).setCell X.size _).setCell X.size _).setCell X.size _).setCell X.size _))
     (first|((with_reducible refine(bl' _ (by first|exact X|exact X.alloc _|exact X.drew|exact(X.alloc _).drew)).mono ?_);rintro e w5 ⟨rfl,Ae⟩;(first|(have Z:=(Ae.block _ (Ao5 (Ao6 _ _))).trans (Ao6 _ _))|skip);replace X:Ab w2 w5:=(by first|exact X.trans Ae|exact(X.alloc _).trans Ae|exact X.drew.trans Ae|exact(X.alloc _).drew.trans Ae);(first|(have y1:=Aa (o:=0) Z rfl;have y2:=Aa (o:=1) Z rfl;have y3:=Aa (o:=2) Z rfl;have y4:=Aa (o:=3) Z rfl;have z1:=Aj (o:=0) Z;have z2:=Aj (o:=1) Z;have z3:=Aj (o:=2) Z;have z4:=Aj (o:=3) Z)|skip)))
    all_goals go_wp2
    all_goals go_meet
    all_goals first
     | exact⟨w5.heap.size,rfl,rfl,by unfold S;exact Ao6 w5 _,X.alloc _⟩
     | exact⟨w2.heap.size,rfl,rfl,by unfold S;exact PD _ _ _ _ Z,(((X.setCell (p:=⟨w2.heap.size,0,none⟩) (Ao7 _) _).setCell (p:=⟨w2.heap.size,1,none⟩) (Ao7 _) _).setCell (p:=⟨w2.heap.size,2,none⟩) (Ao7 _) _).setCell (p:=⟨w2.heap.size,3,none⟩) (Ao7 _) _⟩
   case rest=>
    obtain⟨b,rfl,rfl,As,N4⟩:=hcut;obtain⟨wx,rfl⟩:=named N4;have Wv:=Ca.trans N4;have Wn:=h.ext Wv;have hwc:=hw.ext Wv;clear SO X m1 m2 hcell k1 k2
    cases aJ
    ·have hz:z = -1:=by
      rw [HZ.out]
      cases st with
      | none=>rfl
      | some x=>have:=mY.out;cases this
     subst hz;go_wp2;go_ret;exact⟨rfl,Wv⟩
    ·obtain⟨x,rfl⟩:∃x,st=some x:=by
      cases st with
      | none=>have:=mY.out;cases this
      | some x=>exact⟨x,rfl⟩
     obtain⟨j,hj,hl,hjn,hlt⟩:=UX.out x rfl;have hz:z=C4 W C n j:=(by rw [HZ.out];show C4 W C n (PM C x.1).toNat=_;rw [hjn]);have hq:=fun (q:Ad wx)=>NJ x.1 (Dx C) (Wn.ext q.h).m;rw [hl]at hq;have hcc:#[S c0,S c1,S c2,S c3]=(#[S (R x.1.a.x),S (R x.1.a.y),S (R x.1.b.x),S (R x.1.b.y)]:Array Value):=(by rw [←hc];rfl);rw [hcc]at As;have q1:∀q:Ad wx,q.w.cell? ⟨bf,0,none⟩=some (.func (.func 154) #[] #[.pointer (some ⟨bc,0,none⟩),.pointer (some ⟨bn,0,none⟩),.pointer (some ⟨bf,0,none⟩),.pointer (some ⟨ba,0,none⟩)]):=Ad.cell Wn.cf;have q2:∀q:Ad wx,q.w.cell? ⟨ba,0,none⟩=some (.map (some bm)):=Ad.cell Wn.ca;have q3:∀q:Ad wx,q.w.cell? ⟨b,0,none⟩=some (S (R x.1.a.x)):=Ad.cell (Aa As rfl);have q4:∀q:Ad wx,q.w.cell? ⟨b,1,none⟩=some (S (R x.1.a.y)):=Ad.cell (Aa As rfl);have q5:∀q:Ad wx,q.w.cell? ⟨b,2,none⟩=some (S (R x.1.b.x)):=Ad.cell (Aa As rfl);have q6:∀q:Ad wx,q.w.cell? ⟨b,3,none⟩=some (S (R x.1.b.y)):=Ad.cell (Aa As rfl);have cs:=fun (q:Ad wx)=>ih j hj hlt q.w (hwc.ext q.h) (Wn.ext q.h);rw [←hz]at cs;unfold AC at hq;clear hc hz hl hjn hlt UX UU HZ As hcc ih
     go_upto_region 6 with fail
     refine Di (by kernel_rfl) (by kernel_rfl) ?_
     repeat (go_big_quiet_step (first|(with_reducible refine Gq (cs _))|(go_simp;with_reducible refine Gq (cs _))))
     refine wpQuiet_nil ?_;rintro _ ⟨q,rfl⟩;go_wp2;go_ret;exact⟨rfl,Wv.trans q.h⟩
def K8(W:List Sg)(C:List (List Sg)):List Int:=(List.range C.length).map (C4 W C (W.length+1))
structure Ec where
 ok:Bool
 op:Bool
 face:List (Int×Int)
 seen:List Bool
def D9(r left:Int)(st:Ec):Ec:=
 match Cm r st.face with
 | some old=>⟨st.ok && decide (old=left),st.op,st.face,st.seen⟩
 | none=>
  if left<0 then ⟨false,true,st.face ++ [(r,left)],st.seen⟩
  else ⟨st.ok && !(st.seen.getD left.toNat false),st.op,st.face ++ [(r,left)],st.seen.set left.toNat true⟩
def Ix(L:List (Sg×Int))(r:Int)(st:Ec)(c:List Sg):Ec:=c.foldl (fun st s=>D9 r (AS s L) st) st
def Ht(L:List (Sg×Int))(l:List (List Sg×Int))(st:Ec):Ec:=l.foldl (fun st cr=>Ix L cr.2 st cr.1) st
def Iy(nf:Nat):Ec:=⟨true,false,[(-1,-1)],List.replicate nf false⟩
def KX(L:List (Sg×Int))(nf:Nat)(C:List (List Sg))(rg:List Int):Ec:=Ht L (C.zip rg) (Iy nf)
theorem Abv(r left:Int)(st:Ec):(D9 r left st).seen.length=st.seen.length:=by
 unfold D9
 split
 ·rfl
 ·split
  ·rfl
  ·simp
theorem Abt(L:List (Sg×Int))(r:Int)(st:Ec)(c:List Sg)(s:Sg):Ix L r st (c ++ [s])=D9 r (AS s L) (Ix L r st c):=by simp [Ix]
theorem Abu(L:List (Sg×Int))(l:List (List Sg×Int))(st:Ec)(x:List Sg×Int):Ht L (l ++ [x]) st=Ix L x.2 (Ht L l st) x.1:=by simp [Ht]
theorem pC(L:List (Sg×Int))(r:Int)(c:List Sg):∀st:Ec,(Ix L r st c).seen.length=st.seen.length:=by
 induction c with
 | nil=>intro st;rfl
 | cons s c ih=>intro st;show (Ix L r (D9 r (AS s L) st) c).seen.length=_;rw [ih,Abv]
theorem pD(L:List (Sg×Int))(l:List (List Sg×Int)):∀st:Ec,(Ht L l st).seen.length=st.seen.length:=by
 induction l with
 | nil=>intro st;rfl
 | cons x l ih=>intro st;show (Ht L l (Ix L x.2 st x.1)).seen.length=_;rw [ih,pC]
def MF(L:List (Sg×Int))(nf:Nat)(C:List (List Sg))(rg:List Int):Bool:=(KX L nf C rg).ok && !((KX L nf C rg).seen.contains false)
end Go.Proofs.YtnddllipjippnaaGreatDoor
