/- U27: ShC3 ShC4 ShD1 ShD3 ShD6. -/
import Derived.Test.YtbejphgbbpplbaaGreatDoorU26
set_option maxRecDepth 100000
set_option maxHeartbeats 16000000
namespace Go.Proofs.YtbejphgbbpplbaaGreatDoor
open Go.RowKit Kl
theorem BG{K:Nat→Prop}{W W':World}{B:Nat}{e:TypeId}{s n:Nat}{v:Value}{xs:List Value}(h:W.ownsRow B e s v n xs)(hb:Ar K W W')(hK:∀k,v.ownBlock=some k→¬K k):W'.ownsRow B e s v n xs:=by
 refine⟨h.1,?_⟩
 rcases h.2 with h'|⟨g,cap,cur,rfl,hg,hgb,h4⟩
 ·exact .inl h'
 ·exact .inr ⟨g,cap,cur,rfl,hg,hb.cells hgb (hK g rfl),h4⟩
theorem yh{W:World}{B:Nat}{e:TypeId}{s n:Nat}{v:Value}{xs:List Value}(h:W.ownsRow B e s v n xs){j:Nat}{o:Obj}(hj:W.heap[j]?=some o)(hno:∀cur,o≠.cells cur e (0,0)):∀k,v.ownBlock=some k→k≠j:=by
 intro k hk e;subst e
 rcases ownsRow_ne h hj hno with h1|h1
 ·rw [h1]at hk;cases hk
 ·exact h1 hk
def Hn(B:Nat)(W:World)(out:Value)(C:List (List Sg)):Prop:=
 ∃vs,W.ownsRow B 160 1 out C.length vs/\∀j (h:j<C.length),∃v,vs[j]?=some v/\W.ownsRow B 155 4 v C[j].length (Ck C[j])
theorem Hn.keep{K:Nat→Prop}{W W':World}{B:Nat}{out:Value}{C:List (List Sg)}(h:Hn B W out C)(hb:Ar K W W')(hK:∀k,k<W.heap.size→K k→∀cs e,W.heap[k]?≠some (.cells cs e (0,0))):Hn B W' out C:=by
 obtain⟨vs,ho,hr⟩:=h
 have main:∀{e:TypeId} {s n:Nat} {v:Value} {xs:List Value},W.ownsRow B e s v n xs→W'.ownsRow B e s v n xs:=by
  intro e s n v xs h;refine BG h hb ?_;intro k hk hKk
  rcases h.2 with⟨h',_⟩|⟨g,cap,cur,h',_,hgb,_⟩
  ·rw [h']at hk;cases hk
  ·rw [h']at hk;simp only [Value.ownBlock,Ase]at hk;subst hk;exact hK g (ArX hgb) hKk _ _ hgb
 exact⟨vs,main ho,fun j hj=>by obtain⟨v,h1,h2⟩:=hr j hj;exact⟨v,h1,main h2⟩⟩
theorem Hn.nil(B:Nat)(W:World):Hn B W (.slice none 0 0) []:=⟨[],⟨rfl,.inl ⟨rfl,rfl⟩⟩,fun j h=>by simp at h⟩
theorem AlW{W W':World}{B:Nat}{out out' cv:Value}{C:List (List Sg)}{c:List Sg}{vs:List Value}(ho:W.ownsRow B 160 1 out C.length vs)(hr:∀j (h:j<C.length),∃v,vs[j]?=some v/\W.ownsRow B 155 4 v C[j].length (Ck C[j]))
  (hc:W.ownsRow B 155 4 cv c.length (Ck c)) (hg:W.grownBy W' out.ownBlock) (ho':W'.ownsRow B 160 1 out' (C.length+1) (vs ++ [cv])):Hn B W' out' (C ++ [c]):=by
 have hne:155≠160:=by decide
 have main:∀{n:Nat} {v:Value} {xs:List Value},W.ownsRow B 155 4 v n xs→W'.ownsRow B 155 4 v n xs:=by
  intro n v xs h;refine h.kept hg ?_
  rcases ho.2 with⟨h',_⟩|⟨g,cap,cur,h',_,hgb,_⟩
  ·rw [h']
   cases v.ownBlock with
   | none=>exact .inl rfl
   | some k=>exact .inr (by simp [Value.ownBlock])
  ·rcases ownsRow_ne h hgb (fun cur e=>hne (Obj.cells.inj e).2.1.symm)with h1|h1
   ·exact .inl h1
   ·right;rw [h'];exact h1
 have hl:vs.length=C.length:=(by have:=ho.1;omega);refine⟨vs ++ [cv],by rw [List.length_append];exact ho',fun j hj=>?_⟩;by_cases A7:j<C.length
 ·obtain⟨v,h1,h2⟩:=hr j A7;refine⟨v,by rw [List.getElem?_append_left (by omega)];exact h1,?_⟩;rw [List.getElem_append_left A7];exact main h2
 ·have:j=C.length:=(by simp at hj;omega);subst this;refine⟨cv,by rw [List.getElem?_append_right (by omega)];simp [hl],?_⟩;rw [List.getElem_append_right (ArZ _)];simp only [Nat.sub_self,List.getElem_cons_zero];exact main hc
def ZQ(W:World)(v:Value)(l:List Sg):Prop:=∃A c,v=.slice A l.length c/\Ae W A (Ck l)/\l.length<=c/\c<=9223372036854775807
theorem ZQ.ext{W W':World}{v:Value}{l:List Sg}(h:ZQ W v l)(hx:Aa W W'):ZQ W' v l:=by
 obtain⟨A,c,e,hr,h1,h2⟩:=h;exact⟨A,c,e,hr.ext hx,h1,h2⟩
structure Mz(W:World)(A:Option Addr)(cap:Nat)(C:List (List Sg)):Prop where
 cap1:C.length<=cap
 cap2:cap<=9223372036854775807
 row:∀j (h:j<C.length),∃b o A' c',A=some ⟨b,o,none⟩/\W.cell? ⟨b,o+j,none⟩=some (.slice A' C[j].length c')/\Ae W A' (Ck C[j])/\C[j].length<=c'/\c'<=9223372036854775807
theorem Mz.ext{W W':World}{A:Option Addr}{cap:Nat}{C:List (List Sg)}(h:Mz W A cap C)(hx:Aa W W'):Mz W' A cap C:=
 ⟨h.cap1,h.cap2,fun j hj=>by
  obtain⟨b,o,A',c',h1,h2,h3,h4,h5⟩:=h.row j hj
  exact⟨b,o,A',c',h1,hx.cellS h2,h3.ext hx,h4,h5⟩⟩
theorem Hn.cycs{B:Nat}{W:World}{out:Value}{C:List (List Sg)}(h:Hn B W out C):∃A cap,out=.slice A C.length cap/\Mz W A cap C:=by
 obtain⟨vs,ho,hr⟩:=h;obtain⟨A,cap,he,Bh,h1,h2⟩:=Ae.of_own' (by omega) ho;refine⟨A,cap,he,h1,h2,fun j hj=>?_⟩;have hl:vs.length=C.length:=(by have:=ho.1;omega);obtain⟨b,o,e,hc⟩:=Bh.ad (by omega);obtain⟨v,g1,g2⟩:=hr j hj;obtain⟨A',c',e',r1,r2,r3⟩:=Ae.of_own' (by omega) g2;have:=hc j (by omega);rw [Asf (by omega),Ase]at g1;rw [g1,e']at this;exact⟨b,o,A',c',e,this,r1,r2,r3⟩
structure Iu(w5 wr:World)(bu bs:Nat)(cv:Value)(U:List Sg)(s:Sg)(c:List Sg):Prop where
 used:Ej wr bu U
 box:wr.heap[bs]?=some (.cells #[S (R s.a.x),S (R s.a.y),S (R s.b.x),S (R s.b.y)] 155)
 row:wr.ownsRow w5.heap.size 155 4 cv c.length (Ck c)
 but:Ar (fun k=>k=bu∨k=bs) w5 wr
def lI(w:World)(b:Nat):Nat:=match w.heap[b]? with|some (.map es _)=>es.size|_=>0
theorem Ej.size{W:World}{b:Nat}{U:List Sg}(h:Ej W b U):lI W b=U.length:=by
 unfold Ej at h;unfold lI;rw [h];simp [AG,JF,IW]
theorem Ej.far{W W':World}{b:Nat}{U:List Sg}(h:Ej W b U){row:Option Nat}(hg:W.grownBy W' row)(hr:row≠some b):Ej W' b U:=(hg.block b (ArX h) (fun e=>hr e.symm)).trans h
theorem yj{W:World}{B:Nat}{e:TypeId}{s n:Nat}{v:Value}{xs:List Value}(h:W.ownsRow B e s v n xs){b:Nat}(hb:b<B):v.ownBlock≠some b:=by
 intro e;have:=(h.lt b e).1;omega
theorem Y8{W:World}{B:Nat}{e:TypeId}{s n:Nat}{v:Value}{xs:List Value}(h:W.ownsRow B e s v n xs){b:Nat}{es:Array MapEntry}{c:Nat}(hb:W.heap[b]?=some (.map es c)):v.ownBlock≠some b:=fun e=>yh h hb (fun _ e=>by cases e) b e rfl
theorem ye{W W':World}{B:Nat}{e:TypeId}{s n:Nat}{v:Value}{xs:List Value}(h:W.ownsRow B e s v n xs){b:Nat}(hg:W.grownBy W' (some b))(hne:v.ownBlock≠some b):W'.ownsRow B e s v n xs:=h.kept hg (.inr hne)
theorem Iu.put{w5 wr:World}{bu bs:Nat}{cv:Value}{U:List Sg}{s:Sg}{c:List Sg}(h:Iu w5 wr bu bs cv U s c)(hne:bu≠bs)(hno:U.any (AO s)=false) :
  ∃W',(Instr.mapUpdate 285 (.map (some bu)) (AA s) (.bool true)).run Tryz.prog wr=.ok () W'/\Iu w5 W' bu bs cv (U ++ [s]) s c:=by
 obtain⟨W',h1,h2,h3,h4⟩:=h.used.put s hno;refine⟨W',h1,h2,?_,ye h.row h3 (Y8 h.row h.used),h.but.grown h3 (fun k e=>by cases e;exact .inl (.inl rfl))⟩;exact(h3.block bs (ArX h.box) (by simp;exact fun e=>hne e.symm)).trans h.box
theorem Iu.app{w5 wr W':World}{bu bs:Nat}{cv vH:Value}{U:List Sg}{s t:Sg}{c:List Sg}(h:Iu w5 wr bu bs cv U s c)(hs:bs<w5.heap.size)(hg:(wr.alloc (.cells #[S (R t.a.x),S (R t.a.y),S (R t.b.x),S (R t.b.y)] 155)).grownBy W' cv.ownBlock)
  (ho:W'.ownsRow w5.heap.size 155 4 vH (c.length+1) (Ck (c ++ [t]))):Iu w5 W' bu bs vH U s (c ++ [t]):=by
 have hx:=(Aa.refl wr).alloc (.cells #[S (R t.a.x),S (R t.a.y),S (R t.b.x),S (R t.b.y)] 155);have hr:=h.row.kept (GG hx none) (by cases cv.ownBlock with|none=>exact .inl rfl|some k=>exact .inr (by simp));have hu:Ej (wr.alloc (.cells #[S (R t.a.x),S (R t.a.y),S (R t.b.x),S (R t.b.y)] 155)) bu U:=(hx.block bu (ArX h.used)).trans h.used;have hb:=(hx.block bs (ArX h.box)).trans h.box;refine⟨hu.far hg (Y8 hr hu),(hg.block bs (ArX hb) (fun e=>yj hr hs e.symm)).trans hb,by simpa using ho,?_⟩;exact(h.but.ext hx).own hg hr (ArZ _)
theorem Iu.nxt{w5 wr W':World}{bu bs:Nat}{cv:Value}{U:List Sg}{s:Sg}{c:List Sg}(h:Iu w5 wr bu bs cv U s c)(hx:Aa wr W')(hne:bu≠bs)(hs:bs<w5.heap.size)(t:Sg) :
  Iu w5 ((((W'.setCell ⟨bs,0,none⟩ (S (R t.a.x))).setCell ⟨bs,1,none⟩ (S (R t.a.y))).setCell ⟨bs,2,none⟩ (S (R t.b.x))).setCell ⟨bs,3,none⟩ (S (R t.b.y))) bu bs cv U t c:=by
 have hb:=(hx.block bs (ArX h.box)).trans h.box;have hr:=h.row.kept (GG hx none) (by cases cv.ownBlock with|none=>exact .inl rfl|some k=>exact .inr (by simp));have hu:Ej W' bu U:=(hx.block bu (ArX h.used)).trans h.used;have far:∀(X:World) (o:Nat) (v:Value) (q:Nat),q≠bs→(X.setCell ⟨bs,o,none⟩ v).heap[q]?=X.heap[q]?:=fun X o v q hq=>Below.heap_setCell _ _ _ _ hq;have Bq:=((((h.but.ext hx).setCell (p:=⟨bs,0,none⟩) (.inl (.inr rfl)) (S (R t.a.x))).setCell (p:=⟨bs,1,none⟩) (.inl (.inr rfl)) (S (R t.a.y))).setCell (p:=⟨bs,2,none⟩) (.inl (.inr rfl)) (S (R t.b.x))).setCell (p:=⟨bs,3,none⟩) (.inl (.inr rfl)) (S (R t.b.y));refine⟨?_,PY _ _ _ _ hb,?_,Bq⟩
 ·unfold Ej;rw [far _ _ _ _ hne,far _ _ _ _ hne,far _ _ _ _ hne,far _ _ _ _ hne];exact hu
 ·refine BG hr (K:=fun k=>k=bs) ?_ ?_
  ·exact(((((Ar.refl (fun k=>k=bs) W').setCell (p:=⟨bs,0,none⟩) (.inl rfl) _).setCell (p:=⟨bs,1,none⟩) (.inl rfl) _).setCell (p:=⟨bs,2,none⟩) (.inl rfl) _).setCell (p:=⟨bs,3,none⟩) (.inl rfl) _)
  ·intro k hk e;subst e;exact yj hr hs hk
theorem tN{a b c:World}{bu bs:Nat}(hx:Aa a b)(h:Ar (fun k=>k=bu∨k=bs) b c)(hs:a.heap.size<=bs):Ar (fun k=>k=bu) a c:=
 ⟨h.os.trans hx.os,h.tape.trans hx.tape,h.output.trans hx.output,Asl hx.size h.size,fun k hk hn=>(h.block k (Asj hk hx.size) (by rintro(e|e);exact hn e;omega)).trans (hx.block k hk)⟩
theorem Hn.alloc{B:Nat}{W:World}{out:Value}{C:List (List Sg)}(h:Hn B W out C)(o:Obj):Hn B (W.alloc o) out C:=
 h.keep ((Ar.refl (fun _=>False) W).ext ((Aa.refl W).alloc o)) (fun _ _ h=>h.elim)
theorem Afw{w0 w:World}(hw:Al w0)(hx:Aa w0 w){B:Nat}{r b1 b2:Nat}{L:List (Sg×Int)}{E:List (Pt×Value×Nat)}{R0:List (Pt×List Pt)}(h:B5 B w r b1 b2 L E R0)(hN:Fq (L.map (·.1)) R0)(hW:PT (L.map (·.1)))(hlen:L.length<=100000)(hrl:∀e∈R0,e.2.length<100000) :
  Calls Tryz.prog 155 #[.pointer (some ⟨r,0,none⟩)] w fun e w'=>∃A cap,e=.returned (.slice A (I3 (L.map (·.1)) R0).length cap)/\Mz w' A cap (I3 (L.map (·.1)) R0)/\Aa w w':=by
 have hmm:=@run_makeMap Tryz.prog;have n1:=Ab (o:=0) h.cell rfl;obtain⟨Ws,Nh⟩:=ArV (L.map (·.1));have zG:Ws.length=L.length:=(by rw [Nh];simp);obtain⟨C,hC⟩:=ArV (I3 Ws R0);rw [←Nh]at hN hW ⊢;rw [←hC];have HC:=ArW hC;have HN:=ArW hN;have HW:=ArW hW;have KW:=ArW hrl;have L1:=ArY w (.map #[] 0);have CG:=(Aa.refl w).alloc (.map #[] 0);have eD:=h.ext CG;have hs1:(w.alloc (.map #[] 0)).heap.size=w.heap.size+1:=(by simp);have kw:=fun mb W=>lB mb W;have hb0:=h.left;have jp:=ArX h.cell;have hsw:∀e∈L,Gk 1 e.1:=fun e he=>hW.sz e.1 (by rw [Nh];exact List.mem_map_of_mem he);have HSW:=ArW hsw;have Vr:=ArW zG;have MB:=ArW Nh;clear hC hN hW hrl hsw zG Nh;go_enter Tryz.func155,Tryz.ntmps155
 go_upto_region 3 with fail
 generalize w.alloc (.map #[] 0)=W1 at *;obtain⟨bu,ek⟩:=ArV w.heap.size;rw [←ek]at L1 ⊢;have LS:w.heap.size<=bu:=(by omega);have D2:bu<W1.heap.size:=(by omega);clear ek hs1;have m1:=Ab (o:=0) eD.cell rfl;(go_wp2_with fail);(with_reducible refine(kw _ _).mono ?_);rintro e w2 ⟨rfl,hw2⟩;have Em:Aa W1 w2:=(by rw [hw2];exact(Aa.refl W1).alloc _);have CH:=ArY W1 (.cells #[.map (some b1)] 131);rw [←hw2]at CH;have Kk:=eD.ext Em;have hx2:=(hx.trans CG).trans Em;have hBm:W1.heap.size<w2.heap.size:=ArX CH;have sk:=nY hw hx2 W1.heap.size b1 L hBm (Ab CH rfl) Kk.left HSW.out (by omega);clear hw2 m1 n1 kw;(go_wp2_with fail);(with_reducible refine sk.mono ?_);rintro e w3 ⟨sv,rfl,Dp,GH⟩;rw [←MB.out]at Dp;have Jm:Aa w w3:=(CG.trans Em).trans GH;have GK:=Kk.ext GH;have kA:w3.heap[bu]?=some (.map #[] 0):=((Em.trans GH).block bu D2).trans L1;have WA:Ej w3 bu []:=kA;have Do:(BH Ws).length=L.length:=(by rw [(JD Ws).length_eq];exact Vr.out);obtain⟨sA,sc,rfl,-,-,-⟩:=Ae.of_own' (by omega) Dp;have hx3:Aa w0 w3:=hx.trans Jm;have Aq5:bu<w3.heap.size:=ArX kA;have IY:=ArW Do;have qO:=ArW Dp;have Ip:=ArW h;clear sk CH hBm Kk hx2 Em CG GH L1 D2 eD hb0 Do Dp h hx GK;have hl0:(0:Int)<=(L.length:Int):=by omega
 go_upto_region 4 with fail
 go_loopw [3,16] (fun out i wr=>∃(k:Nat) (st:List Sg×List (List Sg)),i=.int .i64 (k:Nat)/\k<=L.length/\st=((BH Ws).take k).foldl (Gm Ws.length R0) ([],[])/\Hn w3.heap.size wr out st.2/\Ej wr bu st.1/\Ar (fun j=>j=bu) w3 wr) (fun _ i _=>L.length-(intOf i).toNat)
 case atStart=>exact⟨0,([],[]),rfl,by omega,by simp,Hn.nil _ _,WA,Ar.refl _ _⟩
 case round=>
  obtain⟨k,st,rfl,hk,hst,hO,hU,hB⟩:=hrel;have HST:=ArW hst;clear hst;have Dp:=BG qO.out hB (fun j hj e=>yh qO.out kA (fun _ e=>by cases e) j hj e);have BD:Aa w wr:=hB.toExt Jm (fun j e=>by subst e;exact LS);by_cases hlt:k<L.length
  ·obtain⟨sA',sc',m8,nj,-,-⟩:=Ae.of_own' (by omega) Dp;simp only [Value.slice.injEq,true_and]at m8;obtain⟨rfl,rfl⟩:=m8;obtain⟨b,o,rfl,g1,g2,g3,g4⟩:=NV nj (show k<(BH Ws).length by rw [IY.out];exact hlt);obtain⟨s0,hs0⟩:∃s,s=(BH Ws)[k]'(by rw [IY.out];exact hlt):=⟨_,rfl⟩;rw [←hs0]at g1 g2 g3 g4
   have hstep:((BH Ws).take (k+1)).foldl (Gm Ws.length R0) ([],[])=Gm Ws.length R0 st s0:=by rw [Asd (show k<(BH Ws).length by rw [IY.out];exact hlt),List.foldl_append,←HST.out,←hs0];rfl
   have jU:s0∈Ws:=(JD Ws).mem_iff.1 (by rw [hs0];exact Asa _);obtain⟨Jt,-⟩:=vI HN.out k (by rw [IY.out];omega);rw [←HST.out]at Jt;have hlU:=Kz Jt.nd Jt.sub;obtain⟨dd,e1,e2,e3,-,-⟩:=nE HN.out (Ws.length-st.1.length+1) st.1 s0 [] Jt.nd Jt.sub jU (by omega);have L2:dd.length<=Ws.length:=Kz (List.nodup_append.1 e2).2.1 e3;have HDL:=ArW L2;have ZB:=ArW e1;have Vq:=ArW hstep;have M4:=ArW Jt;have HS0:=ArW jU;have Ap:=ArY wr (.cells #[S (R s0.a.x),S (R s0.a.y),S (R s0.b.x),S (R s0.b.y)] 155);have E4:=(Aa.refl wr).alloc (.cells #[S (R s0.a.x),S (R s0.a.y),S (R s0.b.x),S (R s0.b.y)] 155);have XN:wr.heap.size<(wr.alloc (.cells #[S (R s0.a.x),S (R s0.a.y),S (R s0.b.x),S (R s0.b.y)] 155)).heap.size:=(by simp);have k0:(0:Int)<=(k:Int):=(by omega);have k1:(k:Int)<(L.length:Int):=(by omega);clear hs0 hstep Jt e1 e2 e3 L2 jU Dp nj hlU
   go_upto_region 6 with fail
   unfold S at Ap E4 XN;generalize eX:wr.alloc (.cells #[.string ⟨(R s0.a.x).toArray⟩,.string ⟨(R s0.a.y).toArray⟩,.string ⟨(R s0.b.x).toArray⟩,.string ⟨(R s0.b.y).toArray⟩] 155)=W4 at *;obtain⟨bs,TC⟩:=ArV wr.heap.size;rw [←TC]at Ap XN ⊢;have Ajj:bu<wr.heap.size:=ArX hU;have hne:bu≠bs:=(by omega);have Nh:wr.heap.size<=bs:=(by omega);have Arw:=hB.size;clear eX TC g1 g2 g3 g4;have I7:Iu W4 W4 bu bs (.slice none 0 0) st.1 s0 []:=⟨(E4.block bu Ajj).trans hU,Ap,⟨rfl,.inl ⟨rfl,rfl⟩⟩,Ar.refl _ _⟩;have HI0:=ArW I7;clear I7 Ap
   go_upto_region 7 with fail
   go_loopw [7] (fun cv wi=>∃(U:List Sg) (s:Sg) (c:List Sg),Iu W4 wi bu bs cv U s c/\s∈Ws/\U.Nodup/\(∀t∈U,t∈Ws)/\Hi R0 (Ws.length-U.length+1) U s c=(st.1++dd,dd)) (fun _ wi=>L.length-lI wi bu)
   case atStart=>exact⟨st.1,s0,[],HI0.out,HS0.out,M4.out.nd,M4.out.sub,by rw [ZB.out];simp⟩
   case round=>
    obtain⟨U,s,c,hI,N7,WC,WE,hrun⟩:=hrel;have xT:=tN E4 hI.but Nh;have BM:=hB.trans xT;have WN:Aa w wr:=BM.toExt Jm (fun j e=>by subst e;exact LS);have yL:=Ip.out.ext WN;have z0:=Ab (o:=0) hI.box rfl;have z1:=Ab (o:=1) hI.box rfl;have z2:=Ab (o:=2) hI.box rfl;have z3:=Ab (o:=3) hI.box rfl;have Xu:=hI.used.look s;obtain⟨cA,cc,rfl,-,-,-⟩:=Ae.of_own' (by omega) hI.row;have zE:=Kz WC WE;by_cases hu:U.any (AO s)=true
    ·rw [hu]at Xu
     have Ay:U=st.1++dd/\c=dd:=by unfold Hi at hrun;rw [if_pos hu]at hrun;simp only [Prod.mk.injEq]at hrun;exact hrun
     obtain⟨rfl,rfl⟩:=Ay
     have yN:=hO.keep xT (fun j _ e cs ee h=>by
      subst e;have h1:=hU;unfold Ej at h1;rw [h1]at h
      cases h)
     have eP:=hI.used;unfold AA at Xu;have HI:=ArW hI;clear hrun hI hO zE WC WE yL;by_cases hc0:c.length=0
     ·have Bl:c = []:=List.eq_nil_of_length_eq_zero hc0
      have hcs:Gm Ws.length R0 st s0=(st.1++c,st.2):=by unfold Gm;rw [ZB.out,Bl];rfl
      have G6:=ArW hcs;have hcz:(c.length:Int)=0:=(by omega);rw [hc0];clear hc0 Bl hcs hcz;go_wp2;go_roundw
      case rel=>exact⟨k+1,(st.1++c,st.2),by go_num,hlt,by rw [Vq.out,G6.out],yN,eP,BM⟩
      case measure=>simp [intOf];omega
     ·have hcs:Gm Ws.length R0 st s0=(st.1++c,st.2 ++ [c]):=by unfold Gm;rw [ZB.out];simp only [List.nil_append];rw [if_pos (by omega)]
      have G6:=ArW hcs;have WZ:(0:Int)<(c.length:Int):=(by omega);have hcd:decide ((c.length:Int)>0)=true:=decide_eq_true WZ;obtain⟨vs,Ut,EG⟩:=yN
      have AiW:st.2.length<200000:=by have h1:=M4.out.flat;have h2:=Kz M4.out.nd M4.out.sub;have h3:st.2.length<=st.2.flatten.length:=Ya M4.out.ne;rw [h1]at h3;have:=Vr.out;omega
      have hrow:=yi HI.out.row (B':=w3.heap.size) (by have:=hB.size;have:=E4.size;omega);have hbase:w3.heap.size<=wr.heap.size:=BM.size;have HVR:=ArW EG;clear hc0 hcs EG
      go_wp2_with (at_builtin;go_loud (refine appRow rfl _ _ rfl _ w3.heap.size u3 st.2.length vs rfl (Ao Ut ((Aa.refl wr).alloc _)) AiW (.slice cA c.length cc) rfl wr.heap.size (ArY wr _) rfl (by simp;omega) ?_);intro v9 w9 Bc Be)
      have Ni:=(Aa.refl wr).alloc (.cells #[.slice cA c.length cc] 160);have hO9:=AlW (Ao Ut Ni) (fun j hj=>by obtain⟨v,q1,q2⟩:=HVR.out j hj;exact⟨v,q1,Ao q2 Ni⟩) (Ao hrow Ni) Be Bc;have eQ:Ej (wr.alloc (.cells #[.slice cA c.length cc] 160)) bu (st.1++c):=(Ni.block bu (ArX eP)).trans eP;have hU9:=eQ.far Be (Y8 (Ao Ut Ni) eQ);have FV:=(BM.ext Ni).own Be (Ao Ut Ni) (ArZ _);clear Ni eQ Bc Be Ut hrow;go_wp2;go_roundw
      case rel=>exact⟨k+1,(st.1++c,st.2 ++ [c]),by go_num,hlt,by rw [Vq.out,G6.out],hO9,hU9,FV⟩
      case measure=>simp [intOf];omega
    ·have hno:U.any (AO s)=false:=(by simpa using hu);rw [hno]at Xu
     have hcl:c.length<200000:=by have h1:=Aaw R0 (Ws.length-U.length+1) U s c;rw [hrun]at h1;have:=HDL.out;have:=Vr.out;simp only at h1;omega
     have mz:s∉U:=sN.1 hno
     have eS:(U ++ [s]).Nodup:=by rw [List.nodup_append];refine⟨WC,by simp,?_⟩;intro a ha b hb;simp only [Asn]at hb;subst hb;rintro rfl;exact mz ha
     have eU:∀t∈U ++ [s],t∈Ws:=by
      intro t ht
      rcases List.mem_append.1 ht with ht|ht
      ·exact WE t ht
      ·simp only [Asn]at ht;exact ht▸N7
     have eR:=Kz eS eU;rw [List.length_append,List.length_singleton]at eR
     have hrun':Hi R0 (Ws.length-(U ++ [s]).length+1) (U ++ [s]) (NK R0 s) (c ++ [s])=(st.1++dd,dd):=by unfold Hi at hrun;rw [if_neg (by rw [hno];simp)]at hrun;rw [List.length_append,List.length_singleton,show Ws.length-(U.length+1)+1=Ws.length-U.length by omega];exact hrun
     obtain⟨Wp,hput,MX⟩:=hI.put hne hno;obtain⟨e,hf,j,m,hj,hi,hm,Ud,GW,Xy⟩:=HN.out.step N7;rw [←GW]at Xy;have cn:=fun (W7:World) (BP:Aa w W7)=>Alm (Ip.out.ext BP) s hf hj hi hm Ud (KW.out e (List.mem_of_find?_eq_some hf));rw [←GW]at cn;obtain⟨t,ht⟩:=ArV (NK R0 s);rw [←ht]at Xy hrun' cn;have y0:=Ab (o:=0) MX.box rfl;have y1:=Ab (o:=1) MX.box rfl;have y2:=Ab (o:=2) MX.box rfl;have y3:=Ab (o:=3) MX.box rfl;have CB:=hI.used.size;have Z5:=ArW (And.intro CB (And.intro eR Vr.out));have HR:=ArW (And.intro hrun' (And.intro eS (And.intro eU Xy)));have AK:W4.heap.size<=Wp.heap.size:=MX.but.size;have Ie:=MX.row;have HIP:=ArW MX;unfold AA at Xu hput cn;clear hrun hrun' WC eS WE eU Xy CB zE eR hI MX ht GW Ud hm hi hj hf hno mz hu yL
     go_wp2_with (at_builtin;go_loud (refine AdI rfl _ _ rfl _ W4.heap.size (.slice cA c.length cc) c.length c rfl (Ao Ie ((Aa.refl Wp).alloc _)) hcl s Wp.heap.size (ArY Wp _) rfl (by simp;omega) ?_);intro v7 w7 Dm EB;have Ey:=Iu.app HIP.out XN EB Dm;have x0:=Ab (o:=0) Ey.box rfl;have x1:=Ab (o:=1) Ey.box rfl;have x2:=Ab (o:=2) Ey.box rfl;have x3:=Ab (o:=3) Ey.box rfl)
     have BP:Aa w w7:=(hB.trans (tN E4 Ey.but Nh)).toExt Jm (fun j e=>by subst e;exact LS);(with_reducible refine(cn w7 BP).mono ?_);rintro e w8 ⟨rfl,Ch⟩;have DF:=(Ch.block bs (ArX Ey.box)).trans Ey.box;have y0:=AB (o:=0) DF;have y1:=AB (o:=1) DF;have y2:=AB (o:=2) DF;have y3:=AB (o:=3) DF;have q0:=Ab (o:=0) DF rfl;have q1:=Ab (o:=1) DF rfl;have q2:=Ab (o:=2) DF rfl;have q3:=Ab (o:=3) DF rfl;have Qm:=Ey.nxt Ch hne XN t;have qA:=ArW Qm;clear Qm DF x0 x1 x2 x3 BP Ch Ey Dm EB Ie cn;go_wp2;go_roundw
     case rel=>exact⟨U ++ [s],t,c ++ [s],qA.out,HR.out.2.2.2,HR.out.2.1,HR.out.2.2.1,HR.out.1⟩
     case measure=>have h1:=qA.out.used.size;have h2:=Z5.out;rw [List.length_append,List.length_singleton]at h1;rw [h1,h2.1];omega
  ·have hk2:k=L.length:=by omega
   have Ay:st.2=C:=by rw [HC.out];unfold I3;rw [HST.out,hk2,←IY.out,List.take_length]
   have hle:(L.length:Int)<=(k:Int):=(by omega);rw [Ay]at hO;obtain⟨A,cap,rfl,hcs⟩:=hO.cycs;have G6:=ArW hcs;clear hcs hO hU Dp hB hk2;go_wp2;go_ret;exact⟨A,cap,rfl,G6.out,BD⟩
def Dq(C:List (List Sg)):List (Sg×Int):=C.zipIdx.flatMap (fun ci=>ci.1.map (fun s=>(s,(ci.2:Int))))
theorem yn(C:List (List Sg))(c:List Sg):Dq (C ++ [c])=Dq C++c.map (fun s=>(s,(C.length:Int))):=by
 unfold Dq;rw [List.zipIdx_append,List.flatMap_append];simp
theorem ym(C:List (List Sg)):(Dq C).map (·.1)=C.flatten:=by
 have main:∀n,n<=C.length→(Dq (C.take n)).map (·.1)=(C.take n).flatten:=by
  intro n
  induction n with
  | zero=>intro _;simp [Dq]
  | succ n ih=>
   intro hn;rw [Asd (by omega),yn,List.map_append,ih (by omega),List.flatten_append,List.map_map]
   congr 1
   simp [Function.comp_def]
 have:=main C.length (ArZ _)
 rwa [List.take_length]at this
theorem Amd{C:List (List Sg)}{e:Sg×Int}(h:e∈Dq C):∃i,∃hi:i<C.length,e.2=(i:Int)/\e.1∈C[i]:=by
 unfold Dq at h;rw [List.mem_flatMap]at h;obtain⟨ci,h1,h2⟩:=h;rw [List.mem_map]at h2;obtain⟨s,hs,rfl⟩:=h2;obtain⟨c,i⟩:=ci;rw [List.mem_zipIdx_iff_getElem?]at h1;simp only at h1 hs;rw [Aso]at h1;obtain⟨hi,rfl⟩:=h1;exact⟨i,hi,rfl,hs⟩
def Qe(C:List (List Sg))(s:Sg):Int:=match (Dq C).find? (fun e=>AO s e.1)with|some e=>e.2|none=>0
theorem Afu{C:List (List Sg)}{s:Sg}(h:s∈C.flatten):∃i,∃hi:i<C.length,Qe C s=(i:Int)/\s∈C[i]:=by
 unfold Qe;rw [←ym,List.mem_map]at h;obtain⟨e,he,rfl⟩:=h
 cases hf:(Dq C).find? (fun x=>AO e.1 x.1)with
 | none=>
  rw [List.find?_eq_none]at hf;exact absurd (IS.2 rfl) (hf e he)
 | some x=>obtain⟨i,hi,h1,h2⟩:=Amd (List.mem_of_find?_eq_some hf);have h3:=List.find?_some hf;rw [IS]at h3;exact⟨i,hi,h1,h3▸h2⟩
def findNext(f:Nat→Int)(C:List (List Sg)):Option (Sg×Rat)→Int
 | none=>-1
 | some x=>f (Qe C x.1).toNat
def C5(W:List Sg)(C:List (List Sg)):Nat→Nat→Int
 | 0,_=>-1
 | n+1,i=>
  if 0<MI (C.getD i [])then (i:Int)
  else findNext (fun j=>C5 W C n j) C (D7 (aOf (C.getD i [])) W)
where aOf:List Sg→Pt
 | []=>⟨0,0⟩
 | s::_=>s.a
def leftOf(W:List Sg)(X:Rat):Nat:=W.countP (fun s=>decide (s.a.x<X))
theorem vD{α:Type}{p q:α→Bool} : ∀{l:List α},(∀x∈l,p x=true→q x=true)→(∃x∈l,q x=true/\p x=false)→l.countP p<l.countP q
 | [],_,h=>by obtain⟨x,hx,_⟩:=h;cases hx
 | a::l,h1,h2=>by
  have hle:l.countP p<=l.countP q:=List.countP_mono_left (fun x hx=>h1 x (List.mem_cons_of_mem _ hx));obtain⟨x,hx,hq,hp⟩:=h2
  rcases List.mem_cons.1 hx with rfl|hx
  ·rw [List.countP_cons,List.countP_cons,hq,hp];simp;omega
  ·have:=vD (fun x hx=>h1 x (List.mem_cons_of_mem _ hx)) ⟨x,hx,hq,hp⟩;have ha:=h1 a List.mem_cons_self;rw [List.countP_cons,List.countP_cons]
   cases DK:p a
   ·cases q a<;>simp<;>omega
   ·rw [ha DK];simp;omega
theorem rV{c:List Sg}(h:0<c.length):C5.aOf c=c[0].a:=by
 cases c with
 | nil=>simp at h
 | cons s c=>rfl
theorem Ag3{W U:List Sg}{C:List (List Sg)}(hC:UW W U C)(hall:∀s∈W,s∈U)(hG:KT W){i:Nat}(hi:i<C.length){x:Sg×Rat}(hb:D7 (C5.aOf C[i]) W=some x) :
  x.1∈W/\∃j,∃hj:j<C.length,Qe C x.1=(j:Int)/\leftOf W (C5.aOf C[j]).x<leftOf W (C5.aOf C[i]).x:=by
 have h1:=aK hG (C5.aOf C[i]) W (fun _ h=>h);rw [hb]at h1;obtain⟨s,IB⟩:=x;obtain⟨hs,hc,-,-⟩:=h1;obtain⟨j,hj,e,hm⟩:=Afu (C:=C) (s:=s) (by rw [hC.flat];exact hall s hs);refine⟨hs,j,hj,e,?_⟩;have hl0:0<C[j].length:=List.length_pos_iff.2 (hC.ne _ (Asa hj));have hle:=hC.least _ (Asa hj) s hm hl0;rw [Rj]at hle;rw [rV hl0];refine vD (fun y _ hy=>?_) ⟨s,hs,?_,?_⟩
 ·simp only [decide_eq_true_eq]at hy ⊢;have:=hc.1
  grind
 ·simp only [decide_eq_true_eq];exact hc.1
 ·simp only [decide_eq_false_iff_not];grind
theorem xC(s:Sg):∀(L:List (Sg×Int)) (k:Nat),(L.mapIdx (fun i e=>(e.1,Value.int .i64 e.2,i+k))).find? (fun e=>AO s e.1)=none/\L.find? (fun e=>AO s e.1)=none∨∃x e,(L.mapIdx (fun i e=>(e.1,Value.int .i64 e.2,i+k))).find? (fun e=>AO s e.1)=some x/\L.find? (fun e=>AO s e.1)=some e/\x.2.1=.int .i64 e.2
 | [],_=>.inl ⟨by simp,by simp⟩
 | e::L,k=>by
  rw [List.mapIdx_cons,List.find?_cons,List.find?_cons]
  cases h:AO s e.1
  ·have:=xC s L (k+1)
   simpa only [Nat.add_assoc,Nat.add_comm 1 k]using this
  ·exact .inr ⟨_,e,rfl,rfl,rfl⟩
theorem named{a b:World}(_:Aa a b):∃x,x=b:=⟨b,rfl⟩
def AL(s:Sg)(L:List (Sg×Int)):Int:=match L.find? (fun e=>AO s e.1)with|some e=>e.2|none=>0
theorem uf(s:Sg)(L:List (Sg×Int)):F5 AO (.int .i64 0) s (stamp L)=.int .i64 (AL s L):=by
 have h:=xC s L 0;simp only [Nat.add_zero]at h;unfold F5 AL stamp
 rcases h with⟨h1,h2⟩|⟨x,e,h1,h2,h3⟩
 ·rw [h1,h2]
 ·rw [h1,h2];exact h3
theorem R7(s:Sg)(L:List (Sg×Int)){b:Nat}{W:World}(hb:W.heap[b]?=some (.map (AG AA (stamp L)).toArray L.length)) :
  (Instr.lookup 131 (.map (some b)) (AA s) false).run Tryz.prog W=.ok (.int .i64 (AL s L)) W:=by
 rw [R9 XX s (stamp L) hb,uf]
structure S2(B:Nat)(w:World)(r b1 b2:Nat)(L:List (Sg×Int))(E:List (Pt×Value×Nat))(R0:List (Pt×List Pt))(bc bn bf ba bm:Nat)(A:Option Addr)(cap:Nat)(C:List (List Sg)):Prop where
 net:B5 B w r b1 b2 L E R0
 cyc:Mz w A cap C
 cc:w.cell? ⟨bc,0,none⟩=some (.slice A C.length cap)
 cn:w.cell? ⟨bn,0,none⟩=some (.pointer (some ⟨r,0,none⟩))
 cf:w.cell? ⟨bf,0,none⟩=some (.func (.func 233) #[] #[.pointer (some ⟨bc,0,none⟩),.pointer (some ⟨bn,0,none⟩),.pointer (some ⟨bf,0,none⟩),.pointer (some ⟨ba,0,none⟩)])
 ca:w.cell? ⟨ba,0,none⟩=some (.map (some bm))
 m:w.heap[bm]?=some (.map (AG AA (stamp (Dq C))).toArray (Dq C).length)
theorem S2.ext{B:Nat}{w w':World}{r b1 b2:Nat}{L:List (Sg×Int)}{E:List (Pt×Value×Nat)}{R0:List (Pt×List Pt)}{bc bn bf ba bm:Nat}{A:Option Addr}{cap:Nat}{C:List (List Sg)}(h:S2 B w r b1 b2 L E R0 bc bn bf ba bm A cap C)(hx:Aa w w'):S2 B w' r b1 b2 L E R0 bc bn bf ba bm A cap C:=
 ⟨h.net.ext hx,h.cyc.ext hx,hx.cellS h.cc,hx.cellS h.cn,hx.cellS h.cf,hx.cellS h.ca,(hx.block _ (ArX h.m)).trans h.m⟩
structure RX(W:List Sg)(U:List Sg)(C:List (List Sg)):Prop where
 ok:UW W U C
 all:∀s∈W,s∈U
 good:KT W
 grid:∀s∈W,G8 s
 len:W.length<=100000
theorem Abi{α:Type} : ∀{l:List (List α)} {i:Nat} (h:i<l.length),l[i].length<=l.flatten.length
 | a::l,0,_=>by simp
 | a::l,i+1,h=>by have:=Abi (l:=l) (i:=i) (by simpa using h);simp only [List.getElem_cons_succ,List.flatten_cons,List.length_append];omega
theorem RX.row{W U:List Sg}{C:List (List Sg)}(h:RX W U C){i:Nat}(hi:i<C.length):(∀s∈C[i],G8 s)/\0<C[i].length/\C[i].length<=100000:=by
 refine⟨fun s hs=>h.grid s (h.ok.sub s ?_),List.length_pos_iff.2 (h.ok.ne _ (Asa hi)),?_⟩
 ·rw [←h.ok.flat];exact List.mem_flatten.2 ⟨_,Asa hi,hs⟩
 ·have h1:=Abi hi;rw [h.ok.flat]at h1;have h2:=Kz h.ok.nd h.ok.sub;have:=h.len;omega
theorem Ag2{B:Nat}{r b1 b2:Nat}{L:List (Sg×Int)}{E:List (Pt×Value×Nat)}{R0:List (Pt×List Pt)}{bc bn bf ba bm:Nat}{A:Option Addr}{cap:Nat}{C:List (List Sg)}{W U:List Sg}(hW:W=L.map (·.1))(hG:RX W U C) :
  ∀(n i:Nat) (hi:i<C.length),leftOf W (C5.aOf C[i]).x<n→∀w,Al w→S2 B w r b1 b2 L E R0 bc bn bf ba bm A cap C→
  Calls Tryz.prog 233 #[.int .i64 (i:Nat),.pointer (some ⟨bc,0,none⟩),.pointer (some ⟨bn,0,none⟩),.pointer (some ⟨bf,0,none⟩),.pointer (some ⟨ba,0,none⟩)] w (Av (C5 W C n i) w):=by
 intro n
 induction n with
 | zero=>intro i hi hlt;omega
 | succ n ih=>
  intro i hi hlt w hw h;obtain⟨g1,g2,g3⟩:=hG.row hi;obtain⟨bA,oA,A',c',rfl,hcell,Bh,hc1,hc2⟩:=h.cyc.row i hi;have sR:=AdP C[i] A' c' g1 g2 g3 hc1 hc2;have ar:=fun (w1:World) (hw1:Al w1) (hE:Aa w w1)=>sR w1 hw1 (Bh.ext hE);clear sR;have sg:=Pv (MI C[i]);have hd:=fun x=>Ag3 hG.ok hG.all hG.good hi (x:=x);have il:C.getD i []=C[i]:=by rw [List.getD_eq_getElem?_getD,Asf hi];rfl
  have TO:C5 W C (n+1) i=if 0<MI C[i] then (i:Int)else findNext (C5 W C n) C (D7 (C5.aOf C[i]) W):=by rw [C5,il]
  have hc0:(0:Int)<(c':Int):=(by omega);have hl0:(0:Int)<(C[i].length:Int):=(by omega);have GR:(0:Int)<=(i:Int):=(by omega);have Jw:(i:Int)<(C.length:Int):=(by omega);have DK:=rV g2;have jJ:=(g1 _ (Asa g2)).a;rw [←DK]at jJ;have bl:=fun (w1:World) (hw1:Al w1) (h1:B5 B w1 r b1 b2 L E R0)=>Aeg h1 (C5.aOf C[i]) (fun e he=>hG.grid e.1 (by rw [hW];exact List.mem_map_of_mem he)) jJ hw1
  have AK:∀l:List Sg,l.Perm (L.map (·.1))→D7 (C5.aOf C[i]) l=D7 (C5.aOf C[i]) W:=fun l hl=>by rw [←hW]at hl;exact Aeh hG.good _ hl (fun t ht=>hl.mem_iff.1 ht)
  have l8:=NV Bh g2;have hsp:=YN (MI C[i])
  have gY:∀x,D7 (C5.aOf C[i]) W=some x→∃j,∃hj:j<C.length,AL x.1 (Dq C)=(j:Int)/\(Qe C x.1).toNat=j/\leftOf W (C5.aOf C[j]).x<n:=by intro x hx;obtain⟨-,j,hj,e,hl⟩:=hd x hx;exact⟨j,hj,e,by rw [e];omega,by omega⟩
  obtain⟨st,hst⟩:=ArV (D7 (C5.aOf C[i]) W);rw [←hst]at TO AK gY;obtain⟨p,hp⟩:=ArV (C5.aOf C[i]);rw [←hp]at bl AK;rw [←DK,←hp]at l8;obtain⟨q,hq⟩:=ArV (MI C[i]);rw [←hq]at ar sg hsp TO;obtain⟨m,hm⟩:=ArV (C[i].length);rw [←hm]at ar hl0 hcell;obtain⟨z,hz⟩:=ArV (C5 W C (n+1) i);rw [←hz]at TO ⊢;obtain⟨bB,oB,hAB,k1,k2,-,-⟩:=l8;subst hAB;obtain⟨sq,EE⟩:=ArV (AI q);rw [←EE]at sg hsp;have Sc:=ArW TO;have pS:=ArW gY;have pP:=ArW AK;have m1:=h.cc;have m2:=h.cn;clear TO gY AK hp hq hm hz DK jJ hd hst EE g1 g2 g3 il Bh hlt;rw [Nat.zero_mul,Nat.add_zero]at k1 k2;go_enter Tryz.func233,Tryz.ntmps233;(go_wp2_with fail);(with_reducible refine(ar w hw (Aa.refl w)).mono ?_);rintro e w1 ⟨rfl,hx1⟩;(go_wp2_with fail);(with_reducible refine(sg _).mono ?_);rintro e w2 ⟨rfl,hx2⟩;have Cg:=hx1.trans hx2;replace m1:=Cg.cellS m1;replace m2:=Cg.cellS m2;replace hcell:=Cg.cellS hcell;replace k1:=Cg.cellS k1;replace k2:=Cg.cellS k2;clear ar sg hx1 hx2;by_cases Cp:0<q
  ·have AiY:0<sq:=hsp.2 Cp;have hz:z=(i:Int):=(by rw [Sc.out,if_pos Cp]);subst hz;go_wp2;go_ret;exact⟨rfl,Cg⟩
  ·have AiY:¬0<sq:=fun h=>Cp (hsp.1 h);have HZ:=ArW (show z=findNext (C5 W C n) C st by rw [Sc.out,if_neg Cp]);obtain⟨c0,c1,c2,c3,hc⟩:=aO st;obtain⟨dB,iG⟩:=ArV st.isSome;have hw2:=hw.ext Cg;have h2:=h.ext Cg
   have bl':∀w',Aa w2 w'→Calls Tryz.prog 235 #[.pointer (some ⟨r,0,none⟩),.agg #[S (R p.x),S (R p.y)]] w' (Cy (.tuple #[.agg #[S c0,S c1,S c2,S c3],.bool dB]) w'):=fun w' hx=>(bl w' (hw2.ext hx) (h2.net.ext hx)).mono fun e w'' ⟨l,hl,he,hx'⟩=>⟨by rw [he,pP.out l hl];unfold VM;rw [hc,iG],hx'⟩
   have pY:=ArW iG;clear Sc hsp Cp bl iG
   have SO:∀w',Aa w2 w'→(w'.cell? ⟨bc,0,none⟩=some (.slice (some ⟨bA,oA,none⟩) C.length cap)/\w'.cell? ⟨bn,0,none⟩=some (.pointer (some ⟨r,0,none⟩))/\w'.cell? ⟨bA,oA+i,none⟩=some (.slice (some ⟨bB,oB,none⟩) m c')/\w'.cell? ⟨bB,oB,none⟩=some (S (R p.x))/\w'.cell? ⟨bB,oB+1,none⟩=some (S (R p.y))):=fun w' h=>⟨h.cellS m1,h.cellS m2,h.cellS hcell,h.cellS k1,h.cellS k2⟩
   have X:Aa w2 w2:=Aa.refl w2;have e0:(0:Int)<(m:Int):=hl0;have e00:0<m:=by omega
   go_upto_region 3 with fail
   go_cut [7,8] (fun v7 v8 wx=>∃b,v7=.pointer (some ⟨b,0,none⟩)/\v8=.bool dB/\wx.heap[b]?=some (.cells #[S c0,S c1,S c2,S c3] 155)/\Aa w2 wx)
   case first=>
    go_region_held3 (fun w'=>w'.cell? ⟨bc,0,none⟩=some (.slice (some ⟨bA,oA,none⟩) C.length cap)/\w'.cell? ⟨bn,0,none⟩=some (.pointer (some ⟨r,0,none⟩))/\w'.cell? ⟨bA,oA+i,none⟩=some (.slice (some ⟨bB,oB,none⟩) m c')/\w'.cell? ⟨bB,oB,none⟩=some (S (R p.x))/\w'.cell? ⟨bB,oB+1,none⟩=some (S (R p.y)))
     (first|with_reducible exact SO _ X|with_reducible exact SO _ X.drew|with_reducible exact SO _ (X.alloc _)|with_reducible exact SO _ (X.alloc _).drew|exact SO _ ((((X.setCell (ArZ _) _).setCell (ArZ _) _).setCell (ArZ _) _).setCell (ArZ _) _)|exact SO _ (((((X.alloc _).setCell X.size _).setCell X.size _).setCell X.size _).setCell X.size _))
     (first|((with_reducible refine(bl' _ (by first|exact X|exact X.alloc _|exact X.drew|exact(X.alloc _).drew)).mono ?_);rintro e w5 ⟨rfl,Ax⟩;(first|(have Z:=(Ax.block _ (ArX (ArY _ _))).trans (ArY _ _))|skip);replace X:Aa w2 w5:=(by first|exact X.trans Ax|exact(X.alloc _).trans Ax|exact X.drew.trans Ax|exact(X.alloc _).drew.trans Ax);(first|(have y1:=Ab (o:=0) Z rfl;have y2:=Ab (o:=1) Z rfl;have y3:=Ab (o:=2) Z rfl;have y4:=Ab (o:=3) Z rfl;have z1:=AB (o:=0) Z;have z2:=AB (o:=1) Z;have z3:=AB (o:=2) Z;have z4:=AB (o:=3) Z)|skip)))
    all_goals go_wp2
    all_goals go_meet
    all_goals first
     | exact⟨w5.heap.size,rfl,rfl,by unfold S;exact ArY w5 _,X.alloc _⟩
     | exact⟨w2.heap.size,rfl,rfl,by unfold S;exact PY _ _ _ _ Z,(((X.setCell (p:=⟨w2.heap.size,0,none⟩) (ArZ _) _).setCell (p:=⟨w2.heap.size,1,none⟩) (ArZ _) _).setCell (p:=⟨w2.heap.size,2,none⟩) (ArZ _) _).setCell (p:=⟨w2.heap.size,3,none⟩) (ArZ _) _⟩
   case rest=>
    obtain⟨b,rfl,rfl,Ap,Ux⟩:=hcut;obtain⟨wx,rfl⟩:=named Ux;have WM:=Cg.trans Ux;have Wx:=h.ext WM;have hwc:=hw.ext WM;clear SO X m1 m2 hcell k1 k2
    cases dB
    ·have hz:z = -1:=by
      rw [HZ.out]
      cases st with
      | none=>rfl
      | some x=>have:=pY.out;cases this
     subst hz;go_wp2;go_ret;exact⟨rfl,WM⟩
    ·obtain⟨x,rfl⟩:∃x,st=some x:=by
      cases st with
      | none=>have:=pY.out;cases this
      | some x=>exact⟨x,rfl⟩
     obtain⟨j,hj,hl,hjn,hlt⟩:=pS.out x rfl;have hz:z=C5 W C n j:=(by rw [HZ.out];show C5 W C n (Qe C x.1).toNat=_;rw [hjn]);have hq:=fun (q:Ac wx)=>R7 x.1 (Dq C) (Wx.ext q.h).m;rw [hl]at hq;have hcc:#[S c0,S c1,S c2,S c3]=(#[S (R x.1.a.x),S (R x.1.a.y),S (R x.1.b.x),S (R x.1.b.y)]:Array Value):=(by rw [←hc];rfl);rw [hcc]at Ap;have q1:∀q:Ac wx,q.w.cell? ⟨bf,0,none⟩=some (.func (.func 233) #[] #[.pointer (some ⟨bc,0,none⟩),.pointer (some ⟨bn,0,none⟩),.pointer (some ⟨bf,0,none⟩),.pointer (some ⟨ba,0,none⟩)]):=Ac.cell Wx.cf;have q2:∀q:Ac wx,q.w.cell? ⟨ba,0,none⟩=some (.map (some bm)):=Ac.cell Wx.ca;have q3:∀q:Ac wx,q.w.cell? ⟨b,0,none⟩=some (S (R x.1.a.x)):=Ac.cell (Ab Ap rfl);have q4:∀q:Ac wx,q.w.cell? ⟨b,1,none⟩=some (S (R x.1.a.y)):=Ac.cell (Ab Ap rfl);have q5:∀q:Ac wx,q.w.cell? ⟨b,2,none⟩=some (S (R x.1.b.x)):=Ac.cell (Ab Ap rfl);have q6:∀q:Ac wx,q.w.cell? ⟨b,3,none⟩=some (S (R x.1.b.y)):=Ac.cell (Ab Ap rfl);have cs:=fun (q:Ac wx)=>ih j hj hlt q.w (hwc.ext q.h) (Wx.ext q.h);rw [←hz]at cs;unfold AA at hq;clear hc hz hl hjn hlt pS pP HZ Ap hcc ih
     go_upto_region 6 with fail
     refine Bp (by kernel_rfl) (by kernel_rfl) ?_
     repeat (go_big_quiet_step (first|(with_reducible refine Di (cs _))|(go_simp;with_reducible refine Di (cs _))))
     refine wpQuiet_nil ?_;rintro _ ⟨q,rfl⟩;go_wp2;go_ret;exact⟨rfl,WM.trans q.h⟩
def KF(W:List Sg)(C:List (List Sg)):List Int:=(List.range C.length).map (C5 W C (W.length+1))
structure Eh where
 ok:Bool
 op:Bool
 face:List (Int×Int)
 seen:List Bool
def D6(r left:Int)(st:Eh):Eh:=
 match CU r st.face with
 | some old=>⟨st.ok && decide (old=left),st.op,st.face,st.seen⟩
 | none=>
  if left<0 then ⟨false,true,st.face ++ [(r,left)],st.seen⟩
  else ⟨st.ok && !(st.seen.getD left.toNat false),st.op,st.face ++ [(r,left)],st.seen.set left.toNat true⟩
def Iw(L:List (Sg×Int))(r:Int)(st:Eh)(c:List Sg):Eh:=c.foldl (fun st s=>D6 r (AL s L) st) st
def Hq(L:List (Sg×Int))(l:List (List Sg×Int))(st:Eh):Eh:=l.foldl (fun st cr=>Iw L cr.2 st cr.1) st
def Ix(nf:Nat):Eh:=⟨true,false,[(-1,-1)],List.replicate nf false⟩
def Le(L:List (Sg×Int))(nf:Nat)(C:List (List Sg))(rg:List Int):Eh:=Hq L (C.zip rg) (Ix nf)
theorem Ad8(r left:Int)(st:Eh):(D6 r left st).seen.length=st.seen.length:=by
 unfold D6
 split
 ·rfl
 ·split
  ·rfl
  ·simp
theorem Ad6(L:List (Sg×Int))(r:Int)(st:Eh)(c:List Sg)(s:Sg):Iw L r st (c ++ [s])=D6 r (AL s L) (Iw L r st c):=by simp [Iw]
theorem Ad7(L:List (Sg×Int))(l:List (List Sg×Int))(st:Eh)(x:List Sg×Int):Hq L (l ++ [x]) st=Iw L x.2 (Hq L l st) x.1:=by simp [Hq]
theorem sF(L:List (Sg×Int))(r:Int)(c:List Sg):∀st:Eh,(Iw L r st c).seen.length=st.seen.length:=by
 induction c with
 | nil=>intro st;rfl
 | cons s c ih=>intro st;show (Iw L r (D6 r (AL s L) st) c).seen.length=_;rw [ih,Ad8]
theorem sH(L:List (Sg×Int))(l:List (List Sg×Int)):∀st:Eh,(Hq L l st).seen.length=st.seen.length:=by
 induction l with
 | nil=>intro st;rfl
 | cons x l ih=>intro st;show (Hq L l (Iw L x.2 st x.1)).seen.length=_;rw [ih,sF]
def MH(L:List (Sg×Int))(nf:Nat)(C:List (List Sg))(rg:List Int):Bool:=(Le L nf C rg).ok && !((Le L nf C rg).seen.contains false)
end Go.Proofs.YtbejphgbbpplbaaGreatDoor
