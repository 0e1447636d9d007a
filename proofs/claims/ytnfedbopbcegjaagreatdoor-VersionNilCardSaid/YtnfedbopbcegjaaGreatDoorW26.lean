/- W26. -/
import Derived.Test.YtnfedbopbcegjaaGreatDoorW24
import Derived.Test.YtnfedbopbcegjaaGreatDoorW20
set_option maxRecDepth 100000
set_option maxHeartbeats 16000000
namespace Go.Proofs.YtnfedbopbcegjaaGreatDoor
open Go.RowKit Kl
theorem Bf{K:Nat→Prop}{W W':World}{B:Nat}{e:TypeId}{s n:Nat}{v:Value}{xs:List Value}(h:W.ownsRow B e s v n xs)(hb:Al K W W')(hK:∀k,v.ownBlock=some k→¬K k):W'.ownsRow B e s v n xs:=by
 refine⟨h.1,?_⟩
 rcases h.2 with h'|⟨g,cap,cur,rfl,hg,hgb,h4⟩
 ·exact .inl h'
 ·exact .inr ⟨g,cap,cur,rfl,hg,hb.cells hgb (hK g rfl),h4⟩
theorem vW{W:World}{B:Nat}{e:TypeId}{s n:Nat}{v:Value}{xs:List Value}(h:W.ownsRow B e s v n xs){j:Nat}{o:Obj}(hj:W.heap[j]?=some o)(hno:∀cur,o≠.cells cur e (0,0)):∀k,v.ownBlock=some k→k≠j:=by
 intro k hk e;subst e
 rcases ownsRow_ne h hj hno with h1|h1
 ·rw [h1]at hk;cases hk
 ·exact h1 hk
def I7(B:Nat)(W:World)(out:Value)(C:List (List Sg)):Prop:=
 ∃vs,W.ownsRow B 208 1 out C.length vs/\∀j (h:j<C.length),∃v,vs[j]?=some v/\W.ownsRow B 176 4 v C[j].length (BQ C[j])
theorem I7.keep{K:Nat→Prop}{W W':World}{B:Nat}{out:Value}{C:List (List Sg)}(h:I7 B W out C)(hb:Al K W W')(hK:∀k,k<W.heap.size→K k→∀cs e,W.heap[k]?≠some (.cells cs e (0,0))):I7 B W' out C:=by
 obtain⟨vs,ho,hr⟩:=h
 have main:∀{e:TypeId} {s n:Nat} {v:Value} {xs:List Value},W.ownsRow B e s v n xs→W'.ownsRow B e s v n xs:=by
  intro e s n v xs h;refine Bf h hb ?_;intro k hk hKk
  rcases h.2 with⟨h',_⟩|⟨g,cap,cur,h',_,hgb,_⟩
  ·rw [h']at hk;cases hk
  ·rw [h']at hk;simp only [Value.ownBlock,AjR]at hk;subst hk;exact hK g (AjL hgb) hKk _ _ hgb
 exact⟨vs,main ho,fun j hj=>by obtain⟨v,h1,h2⟩:=hr j hj;exact⟨v,h1,main h2⟩⟩
theorem I7.nil(B:Nat)(W:World):I7 B W (.slice none 0 0) []:=⟨[],⟨rfl,.inl ⟨rfl,rfl⟩⟩,fun j h=>by simp at h⟩
theorem AeY{W W':World}{B:Nat}{out out' cv:Value}{C:List (List Sg)}{c:List Sg}{vs:List Value}(ho:W.ownsRow B 208 1 out C.length vs)(hr:∀j (h:j<C.length),∃v,vs[j]?=some v/\W.ownsRow B 176 4 v C[j].length (BQ C[j]))
  (hc:W.ownsRow B 176 4 cv c.length (BQ c)) (hg:W.grownBy W' out.ownBlock) (JZ:W'.ownsRow B 208 1 out' (C.length+1) (vs ++ [cv])):I7 B W' out' (C ++ [c]):=by
 have hne:176≠208:=by decide
 have main:∀{n:Nat} {v:Value} {xs:List Value},W.ownsRow B 176 4 v n xs→W'.ownsRow B 176 4 v n xs:=by
  intro n v xs h;refine h.kept hg ?_
  rcases ho.2 with⟨h',_⟩|⟨g,cap,cur,h',_,hgb,_⟩
  ·rw [h']
   cases v.ownBlock with
   | none=>exact .inl rfl
   | some k=>exact .inr (by simp [Value.ownBlock])
  ·rcases ownsRow_ne h hgb (fun cur e=>hne (Obj.cells.inj e).2.1.symm)with h1|h1
   ·exact .inl h1
   ·right;rw [h'];exact h1
 have hl:vs.length=C.length:=(by have:=ho.1;omega);refine⟨vs ++ [cv],by rw [List.length_append];exact JZ,fun j hj=>?_⟩;by_cases Ay:j<C.length
 ·obtain⟨v,h1,h2⟩:=hr j Ay;refine⟨v,by rw [List.getElem?_append_left (by omega)];exact h1,?_⟩;rw [List.getElem_append_left Ay];exact main h2
 ·have:j=C.length:=(by simp at hj;omega);subst this;refine⟨cv,by rw [List.getElem?_append_right (by omega)];simp [hl],?_⟩;rw [List.getElem_append_right (AjN _)];simp only [Nat.sub_self,List.getElem_cons_zero];exact main hc
structure K1(W:World)(A:Option Addr)(cap:Nat)(C:List (List Sg)):Prop where
 cap1:C.length<=cap
 cap2:cap<=9223372036854775807
 row:∀j (h:j<C.length),∃b o A' c',A=some ⟨b,o,none⟩/\W.cell? ⟨b,o+j,none⟩=some (.slice A' C[j].length c')/\Ad W A' (BQ C[j])/\C[j].length<=c'/\c'<=9223372036854775807
theorem K1.ext{W W':World}{A:Option Addr}{cap:Nat}{C:List (List Sg)}(h:K1 W A cap C)(hx:Aa W W'):K1 W' A cap C:=
 ⟨h.cap1,h.cap2,fun j hj=>by
  obtain⟨b,o,A',c',h1,h2,h3,h4,h5⟩:=h.row j hj
  exact⟨b,o,A',c',h1,hx.cellS h2,h3.ext hx,h4,h5⟩⟩
theorem I7.cycs{B:Nat}{W:World}{out:Value}{C:List (List Sg)}(h:I7 B W out C):∃A cap,out=.slice A C.length cap/\K1 W A cap C:=by
 obtain⟨vs,ho,hr⟩:=h;obtain⟨A,cap,he,C5,h1,h2⟩:=Ad.of_own' (by omega) ho;refine⟨A,cap,he,h1,h2,fun j hj=>?_⟩;have hl:vs.length=C.length:=(by have:=ho.1;omega);obtain⟨b,o,e,hc⟩:=C5.ad (by omega);obtain⟨v,g1,g2⟩:=hr j hj;obtain⟨A',c',e',r1,r2,r3⟩:=Ad.of_own' (by omega) g2;have:=hc j (by omega);rw [AjS (by omega),AjR]at g1;rw [g1,e']at this;exact⟨b,o,A',c',e,this,r1,r2,r3⟩
structure G3(w5 wr:World)(bu bs:Nat)(cv:Value)(U:List Sg)(s:Sg)(c:List Sg):Prop where
 used:Dt wr bu U
 box:wr.heap[bs]?=some (.cells #[S (R s.a.x),S (R s.a.y),S (R s.b.x),S (R s.b.y)] 176)
 row:wr.ownsRow w5.heap.size 176 4 cv c.length (BQ c)
 but:Al (fun k=>k=bu∨k=bs) w5 wr
def Z4(w:World)(b:Nat):Nat:=match w.heap[b]? with|some (.map es _)=>es.size|_=>0
theorem Dt.size{W:World}{b:Nat}{U:List Sg}(h:Dt W b U):Z4 W b=U.length:=by
 unfold Dt at h;unfold Z4;rw [h];simp [Az,Iw,Hj]
theorem Dt.far{W W':World}{b:Nat}{U:List Sg}(h:Dt W b U){row:Option Nat}(hg:W.grownBy W' row)(hr:row≠some b):Dt W' b U:=(hg.block b (AjL h) (fun e=>hr e.symm)).trans h
theorem vY{W:World}{B:Nat}{e:TypeId}{s n:Nat}{v:Value}{xs:List Value}(h:W.ownsRow B e s v n xs){b:Nat}(hb:b<B):v.ownBlock≠some b:=by
 intro e;have:=(h.lt b e).1;omega
theorem UP{W:World}{B:Nat}{e:TypeId}{s n:Nat}{v:Value}{xs:List Value}(h:W.ownsRow B e s v n xs){b:Nat}{es:Array MapEntry}{c:Nat}(hb:W.heap[b]?=some (.map es c)):v.ownBlock≠some b:=fun e=>vW h hb (fun _ e=>by cases e) b e rfl
theorem vT{W W':World}{B:Nat}{e:TypeId}{s n:Nat}{v:Value}{xs:List Value}(h:W.ownsRow B e s v n xs){b:Nat}(hg:W.grownBy W' (some b))(hne:v.ownBlock≠some b):W'.ownsRow B e s v n xs:=h.kept hg (.inr hne)
theorem G3.put{w5 wr:World}{bu bs:Nat}{cv:Value}{U:List Sg}{s:Sg}{c:List Sg}(h:G3 w5 wr bu bs cv U s c)(hne:bu≠bs)(hno:U.any (AK s)=false) :
  ∃W',(Instr.mapUpdate 294 (.map (some bu)) (Ax s) (.bool true)).run Tryz.prog wr=.ok () W'/\G3 w5 W' bu bs cv (U ++ [s]) s c:=by
 obtain⟨W',h1,h2,h3,h4⟩:=h.used.put s hno;refine⟨W',h1,h2,?_,vT h.row h3 (UP h.row h.used),h.but.grown h3 (fun k e=>by cases e;exact .inl (.inl rfl))⟩;exact(h3.block bs (AjL h.box) (by simp;exact fun e=>hne e.symm)).trans h.box
theorem G3.app{w5 wr W':World}{bu bs:Nat}{cv iP:Value}{U:List Sg}{s t:Sg}{c:List Sg}(h:G3 w5 wr bu bs cv U s c)(hs:bs<w5.heap.size)(hg:(wr.alloc (.cells #[S (R t.a.x),S (R t.a.y),S (R t.b.x),S (R t.b.y)] 176)).grownBy W' cv.ownBlock)
  (ho:W'.ownsRow w5.heap.size 176 4 iP (c.length+1) (BQ (c ++ [t]))):G3 w5 W' bu bs iP U s (c ++ [t]):=by
 have hx:=(Aa.refl wr).alloc (.cells #[S (R t.a.x),S (R t.a.y),S (R t.b.x),S (R t.b.y)] 176);have hr:=h.row.kept (DJ hx none) (by cases cv.ownBlock with|none=>exact .inl rfl|some k=>exact .inr (by simp));have hu:Dt (wr.alloc (.cells #[S (R t.a.x),S (R t.a.y),S (R t.b.x),S (R t.b.y)] 176)) bu U:=(hx.block bu (AjL h.used)).trans h.used;have hb:=(hx.block bs (AjL h.box)).trans h.box;refine⟨hu.far hg (UP hr hu),(hg.block bs (AjL hb) (fun e=>vY hr hs e.symm)).trans hb,by simpa using ho,?_⟩;exact(h.but.ext hx).own hg hr (AjN _)
theorem G3.nxt{w5 wr W':World}{bu bs:Nat}{cv:Value}{U:List Sg}{s:Sg}{c:List Sg}(h:G3 w5 wr bu bs cv U s c)(hx:Aa wr W')(hne:bu≠bs)(hs:bs<w5.heap.size)(t:Sg) :
  G3 w5 ((((W'.setCell ⟨bs,0,none⟩ (S (R t.a.x))).setCell ⟨bs,1,none⟩ (S (R t.a.y))).setCell ⟨bs,2,none⟩ (S (R t.b.x))).setCell ⟨bs,3,none⟩ (S (R t.b.y))) bu bs cv U t c:=by
 have hb:=(hx.block bs (AjL h.box)).trans h.box;have hr:=h.row.kept (DJ hx none) (by cases cv.ownBlock with|none=>exact .inl rfl|some k=>exact .inr (by simp));have hu:Dt W' bu U:=(hx.block bu (AjL h.used)).trans h.used;have far:∀(X:World) (o:Nat) (v:Value) (q:Nat),q≠bs→(X.setCell ⟨bs,o,none⟩ v).heap[q]?=X.heap[q]?:=fun X o v q hq=>Below.heap_setCell _ _ _ _ hq;have BH:=((((h.but.ext hx).setCell (p:=⟨bs,0,none⟩) (.inl (.inr rfl)) (S (R t.a.x))).setCell (p:=⟨bs,1,none⟩) (.inl (.inr rfl)) (S (R t.a.y))).setCell (p:=⟨bs,2,none⟩) (.inl (.inr rfl)) (S (R t.b.x))).setCell (p:=⟨bs,3,none⟩) (.inl (.inr rfl)) (S (R t.b.y));refine⟨?_,Nz _ _ _ _ hb,?_,BH⟩
 ·unfold Dt;rw [far _ _ _ _ hne,far _ _ _ _ hne,far _ _ _ _ hne,far _ _ _ _ hne];exact hu
 ·refine Bf hr (K:=fun k=>k=bs) ?_ ?_
  ·exact(((((Al.refl (fun k=>k=bs) W').setCell (p:=⟨bs,0,none⟩) (.inl rfl) _).setCell (p:=⟨bs,1,none⟩) (.inl rfl) _).setCell (p:=⟨bs,2,none⟩) (.inl rfl) _).setCell (p:=⟨bs,3,none⟩) (.inl rfl) _)
  ·intro k hk e;subst e;exact vY hr hs hk
theorem fZ{a b c:World}{bu bs:Nat}(hx:Aa a b)(h:Al (fun k=>k=bu∨k=bs) b c)(hs:a.heap.size<=bs):Al (fun k=>k=bu) a c:=
 ⟨h.os.trans hx.os,h.tape.trans hx.tape,h.output.trans hx.output,AjX hx.size h.size,fun k hk hn=>(h.block k (AjW hk hx.size) (by rintro(e|e);exact hn e;omega)).trans (hx.block k hk)⟩
theorem xw{w0 w:World}(hw:Ak w0)(hx:Aa w0 w){B:Nat}{r b1 b2:Nat}{L:List (Sg×Int)}{E:List (Pt×Value×Nat)}{R0:List (Pt×List Pt)}(h:Bn B w r b1 b2 L E R0)(hN:Er (L.map (·.1)) R0)(hW:P2 (L.map (·.1)))(hlen:L.length<=100000)(hrl:∀e∈R0,e.2.length<100000) :
  Calls Tryz.prog 151 #[.pointer (some ⟨r,0,none⟩)] w fun e w'=>∃A cap,e=.returned (.slice A (IF (L.map (·.1)) R0).length cap)/\K1 w' A cap (IF (L.map (·.1)) R0)/\Aa w w':=by
 have hmm:=@run_makeMap Tryz.prog;have n1:=Ab (o:=0) h.cell rfl;obtain⟨Ws,Lj⟩:=AjJ (L.map (·.1));have lR:Ws.length=L.length:=(by rw [Lj];simp);obtain⟨C,hC⟩:=AjJ (IF Ws R0);rw [←Lj]at hN hW ⊢;rw [←hC];have HC:=AjK hC;have HN:=AjK hN;have HW:=AjK hW;have Mc:=AjK hrl;have JP:=AjM w (.map #[] 0);have BA:=(Aa.refl w).alloc (.map #[] 0);have WZ:=h.ext BA;have hs1:(w.alloc (.map #[] 0)).heap.size=w.heap.size+1:=(by simp);have kw:=fun mb W=>tZ mb W;have hb0:=h.left;have Q0:=AjL h.cell;have hsw:∀e∈L,G7 1 e.1:=fun e he=>hW.sz e.1 (by rw [Lj];exact List.mem_map_of_mem he);have VC:=AjK hsw;have RU:=AjK lR;have Pk:=AjK Lj;clear hC hN hW hrl hsw lR Lj;go_enter Tryz.func151,Tryz.ntmps151
 go_upto_region 3 with fail
 generalize w.alloc (.map #[] 0)=W1 at *;obtain⟨bu,nK⟩:=AjJ w.heap.size;rw [←nK]at JP ⊢;have DV:w.heap.size<=bu:=(by omega);have Cd:bu<W1.heap.size:=(by omega);clear nK hs1;have m1:=Ab (o:=0) WZ.cell rfl;(go_wp2_with fail);(with_reducible refine(kw _ _).mono ?_);rintro e w2 ⟨rfl,hw2⟩;have CG:Aa W1 w2:=(by rw [hw2];exact(Aa.refl W1).alloc _);have DN:=AjM W1 (.cells #[.map (some b1)] 160);rw [←hw2]at DN;have Gj:=WZ.ext CG;have hx2:=(hx.trans BA).trans CG;have hBm:W1.heap.size<w2.heap.size:=AjL DN;have sk:=zI hw hx2 W1.heap.size b1 L hBm (Ab DN rfl) Gj.left VC.out (by omega);clear hw2 m1 n1 kw;(go_wp2_with fail);(with_reducible refine sk.mono ?_);rintro e w3 ⟨sv,rfl,D5,BW⟩;rw [←Pk.out]at D5;have Hw:Aa w w3:=(BA.trans CG).trans BW;have IO:=Gj.ext BW;have LA:w3.heap[bu]?=some (.map #[] 0):=((CG.trans BW).block bu Cd).trans JP;have Tt:Dt w3 bu []:=LA;have D4:(BD Ws).length=L.length:=(by rw [(Kv Ws).length_eq];exact RU.out);obtain⟨sA,sc,rfl,-,-,-⟩:=Ad.of_own' (by omega) D5;have hx3:Aa w0 w3:=hx.trans Hw;have Ai0:bu<w3.heap.size:=AjL LA;have Jv:=AjK D4;have dV:=AjK D5;have G1:=AjK h;clear sk DN hBm Gj hx2 CG BA BW JP Cd WZ hb0 D4 D5 h hx IO;have hl0:(0:Int)<=(L.length:Int):=by omega
 go_upto_region 4 with fail
 go_loopw [3,16] (fun out i wr=>∃(k:Nat) (st:List Sg×List (List Sg)),i=.int .i64 (k:Nat)/\k<=L.length/\st=((BD Ws).take k).foldl (Fc Ws.length R0) ([],[])/\I7 w3.heap.size wr out st.2/\Dt wr bu st.1/\Al (fun j=>j=bu) w3 wr) (fun _ i _=>L.length-(intOf i).toNat)
 case atStart=>exact⟨0,([],[]),rfl,by omega,by simp,I7.nil _ _,Tt,Al.refl _ _⟩
 case round=>
  obtain⟨k,st,rfl,hk,hst,hO,hU,hB⟩:=hrel;have HST:=AjK hst;clear hst;have D5:=Bf dV.out hB (fun j hj e=>vW dV.out LA (fun _ e=>by cases e) j hj e);have BV:Aa w wr:=hB.toExt Hw (fun j e=>by subst e;exact DV);by_cases hlt:k<L.length
  ·obtain⟨sA',sc',rP,rW,-,-⟩:=Ad.of_own' (by omega) D5;simp only [Value.slice.injEq,true_and]at rP;obtain⟨rfl,rfl⟩:=rP;obtain⟨b,o,rfl,g1,g2,g3,g4⟩:=MZ rW (show k<(BD Ws).length by rw [Jv.out];exact hlt);obtain⟨s0,hs0⟩:∃s,s=(BD Ws)[k]'(by rw [Jv.out];exact hlt):=⟨_,rfl⟩;rw [←hs0]at g1 g2 g3 g4
   have hstep:((BD Ws).take (k+1)).foldl (Fc Ws.length R0) ([],[])=Fc Ws.length R0 st s0:=by rw [AjQ (show k<(BD Ws).length by rw [Jv.out];exact hlt),List.foldl_append,←HST.out,←hs0];rfl
   have YT:s0∈Ws:=(Kv Ws).mem_iff.1 (by rw [hs0];exact AjO _);obtain⟨Hy,-⟩:=iQ HN.out k (by rw [Jv.out];omega);rw [←HST.out]at Hy;have hlU:=Je Hy.nd Hy.sub;obtain⟨dd,e1,e2,e3,-,-⟩:=aH HN.out (Ws.length-st.1.length+1) st.1 s0 [] Hy.nd Hy.sub YT (by omega);have H5:dd.length<=Ws.length:=Je (List.nodup_append.1 e2).2.1 e3;have ia:=AjK H5;have V9:=AjK e1;have RR:=AjK hstep;have K3:=AjK Hy;have kj:=AjK YT;have As:=AjM wr (.cells #[S (R s0.a.x),S (R s0.a.y),S (R s0.b.x),S (R s0.b.y)] 176);have E4:=(Aa.refl wr).alloc (.cells #[S (R s0.a.x),S (R s0.a.y),S (R s0.b.x),S (R s0.b.y)] 176);have U1:wr.heap.size<(wr.alloc (.cells #[S (R s0.a.x),S (R s0.a.y),S (R s0.b.x),S (R s0.b.y)] 176)).heap.size:=(by simp);have k0:(0:Int)<=(k:Int):=(by omega);have k1:(k:Int)<(L.length:Int):=(by omega);clear hs0 hstep Hy e1 e2 e3 H5 YT D5 rW hlU
   go_upto_region 6 with fail
   unfold S at As E4 U1;generalize Xr:wr.alloc (.cells #[.string ⟨(R s0.a.x).toArray⟩,.string ⟨(R s0.a.y).toArray⟩,.string ⟨(R s0.b.x).toArray⟩,.string ⟨(R s0.b.y).toArray⟩] 176)=W4 at *;obtain⟨bs,Qf⟩:=AjJ wr.heap.size;rw [←Qf]at As U1 ⊢;have AcN:bu<wr.heap.size:=AjL hU;have hne:bu≠bs:=(by omega);have Lj:wr.heap.size<=bs:=(by omega);have Ajn:=hB.size;clear Xr Qf g1 g2 g3 g4;have PR:G3 W4 W4 bu bs (.slice none 0 0) st.1 s0 []:=⟨(E4.block bu AcN).trans hU,As,⟨rfl,.inl ⟨rfl,rfl⟩⟩,Al.refl _ _⟩;have iw:=AjK PR;clear PR As
   go_upto_region 7 with fail
   go_loopw [7] (fun cv wi=>∃(U:List Sg) (s:Sg) (c:List Sg),G3 W4 wi bu bs cv U s c/\s∈Ws/\U.Nodup/\(∀t∈U,t∈Ws)/\FX R0 (Ws.length-U.length+1) U s c=(st.1++dd,dd)) (fun _ wi=>L.length-Z4 wi bu)
   case atStart=>exact⟨st.1,s0,[],iw.out,kj.out,K3.out.nd,K3.out.sub,by rw [V9.out];simp⟩
   case round=>
    obtain⟨U,s,c,hI,Uz,Tv,Tw,hrun⟩:=hrel;have kE:=fZ E4 hI.but Lj;have Cq:=hB.trans kE;have T0:Aa w wr:=Cq.toExt Hw (fun j e=>by subst e;exact DV);have kZ:=G1.out.ext T0;have z0:=Ab (o:=0) hI.box rfl;have z1:=Ab (o:=1) hI.box rfl;have z2:=Ab (o:=2) hI.box rfl;have z3:=Ab (o:=3) hI.box rfl;have Uj:=hI.used.look s;obtain⟨cA,cc,rfl,-,-,-⟩:=Ad.of_own' (by omega) hI.row;have lP:=Je Tv Tw;by_cases hu:U.any (AK s)=true
    ·rw [hu]at Uj
     have AU:U=st.1++dd/\c=dd:=by unfold FX at hrun;rw [if_pos hu]at hrun;simp only [Prod.mk.injEq]at hrun;exact hrun
     obtain⟨rfl,rfl⟩:=AU
     have lB:=hO.keep kE (fun j _ e cs ee h=>by
      subst e;have h1:=hU;unfold Dt at h1;rw [h1]at h
      cases h)
     have Xk:=hI.used;unfold Ax at Uj;have HI:=AjK hI;clear hrun hI hO lP Tv Tw kZ;by_cases hc0:c.length=0
     ·have Bo:c = []:=List.eq_nil_of_length_eq_zero hc0
      have hcs:Fc Ws.length R0 st s0=(st.1++c,st.2):=by unfold Fc;rw [V9.out,Bo];rfl
      have OZ:=AjK hcs;have hcz:(c.length:Int)=0:=(by omega);rw [hc0];clear hc0 Bo hcs hcz;go_wp2;go_roundw
      case rel=>exact⟨k+1,(st.1++c,st.2),by go_num,hlt,by rw [RR.out,OZ.out],lB,Xk,Cq⟩
      case measure=>simp [intOf];omega
     ·have hcs:Fc Ws.length R0 st s0=(st.1++c,st.2 ++ [c]):=by unfold Fc;rw [V9.out];simp only [List.nil_append];rw [if_pos (by omega)]
      have OZ:=AjK hcs;have M8:(0:Int)<(c.length:Int):=(by omega);have hcd:decide ((c.length:Int)>0)=true:=decide_eq_true M8;obtain⟨vs,QK,DX⟩:=lB
      have AcC:st.2.length<200000:=by have h1:=K3.out.flat;have h2:=Je K3.out.nd K3.out.sub;have h3:st.2.length<=st.2.flatten.length:=U8 K3.out.ne;rw [h1]at h3;have:=RU.out;omega
      have hrow:=vX HI.out.row (B':=w3.heap.size) (by have:=hB.size;have:=E4.size;omega);have hbase:w3.heap.size<=wr.heap.size:=Cq.size;have ku:=AjK DX;clear hc0 hcs DX
      go_wp2_with (at_builtin;go_loud (refine appRow rfl _ _ rfl _ w3.heap.size u3 st.2.length vs rfl (Am QK ((Aa.refl wr).alloc _)) AcC (.slice cA c.length cc) rfl wr.heap.size (AjM wr _) rfl (by simp;omega) ?_);intro v9 w9 Br AM)
      have Lk:=(Aa.refl wr).alloc (.cells #[.slice cA c.length cc] 208);have hO9:=AeY (Am QK Lk) (fun j hj=>by obtain⟨v,q1,q2⟩:=ku.out j hj;exact⟨v,q1,Am q2 Lk⟩) (Am hrow Lk) AM Br;have Xl:Dt (wr.alloc (.cells #[.slice cA c.length cc] 208)) bu (st.1++c):=(Lk.block bu (AjL Xk)).trans Xk;have hU9:=Xl.far AM (UP (Am QK Lk) Xl);have Hv:=(Cq.ext Lk).own AM (Am QK Lk) (AjN _);clear Lk Xl Br AM QK hrow;go_wp2;go_roundw
      case rel=>exact⟨k+1,(st.1++c,st.2 ++ [c]),by go_num,hlt,by rw [RR.out,OZ.out],hO9,hU9,Hv⟩
      case measure=>simp [intOf];omega
    ·have hno:U.any (AK s)=false:=(by simpa using hu);rw [hno]at Uj
     have hcl:c.length<200000:=by have h1:=yD R0 (Ws.length-U.length+1) U s c;rw [hrun]at h1;have:=ia.out;have:=RU.out;simp only at h1;omega
     have rO:s∉U:=pz.1 hno
     have Xn:(U ++ [s]).Nodup:=by rw [List.nodup_append];refine⟨Tv,by simp,?_⟩;intro a ha b hb;simp only [AjZ]at hb;subst hb;rintro rfl;exact rO ha
     have Xp:∀t∈U ++ [s],t∈Ws:=by
      intro t ht
      rcases List.mem_append.1 ht with ht|ht
      ·exact Tw t ht
      ·simp only [AjZ]at ht;exact ht▸Uz
     have Xm:=Je Xn Xp;rw [List.length_append,List.length_singleton]at Xm
     have hrun':FX R0 (Ws.length-(U ++ [s]).length+1) (U ++ [s]) (LI R0 s) (c ++ [s])=(st.1++dd,dd):=by unfold FX at hrun;rw [if_neg (by rw [hno];simp)]at hrun;rw [List.length_append,List.length_singleton,show Ws.length-(U.length+1)+1=Ws.length-U.length by omega];exact hrun
     obtain⟨Wp,hput,Lf⟩:=hI.put hne hno;obtain⟨e,hf,j,m,hj,hi,hm,Q5,Cj,Uk⟩:=HN.out.step Uz;rw [←Cj]at Uk;have cn:=fun (W7:World) (BU:Aa w W7)=>Aez (G1.out.ext BU) s hf hj hi hm Q5 (Mc.out e (List.mem_of_find?_eq_some hf));rw [←Cj]at cn;obtain⟨t,ht⟩:=AjJ (LI R0 s);rw [←ht]at Uk hrun' cn;have y0:=Ab (o:=0) Lf.box rfl;have y1:=Ab (o:=1) Lf.box rfl;have y2:=Ab (o:=2) Lf.box rfl;have y3:=Ab (o:=3) Lf.box rfl;have Dz:=hI.used.size;have jk:=AjK (And.intro Dz (And.intro Xm RU.out));have HR:=AjK (And.intro hrun' (And.intro Xn (And.intro Xp Uk)));have Aw:W4.heap.size<=Wp.heap.size:=Lf.but.size;have Gs:=Lf.row;have iz:=AjK Lf;unfold Ax at Uj hput cn;clear hrun hrun' Tv Xn Tw Xp Uk Dz lP Xm hI Lf ht Cj Q5 hm hi hj hf hno rO hu kZ
     go_wp2_with (at_builtin;go_loud (refine ql rfl _ _ rfl _ W4.heap.size (.slice cA c.length cc) c.length c rfl (Am Gs ((Aa.refl Wp).alloc _)) hcl s Wp.heap.size (AjM Wp _) rfl (by simp;omega) ?_);intro v7 w7 C4 BM;have GL:=G3.app iz.out U1 BM C4;have x0:=Ab (o:=0) GL.box rfl;have x1:=Ab (o:=1) GL.box rfl;have x2:=Ab (o:=2) GL.box rfl;have x3:=Ab (o:=3) GL.box rfl)
     have BU:Aa w w7:=(hB.trans (fZ E4 GL.but Lj)).toExt Hw (fun j e=>by subst e;exact DV);(with_reducible refine(cn w7 BU).mono ?_);rintro e w8 ⟨rfl,ED⟩;have FG:=(ED.block bs (AjL GL.box)).trans GL.box;have y0:=Ao (o:=0) FG;have y1:=Ao (o:=1) FG;have y2:=Ao (o:=2) FG;have y3:=Ao (o:=3) FG;have q0:=Ab (o:=0) FG rfl;have q1:=Ab (o:=1) FG rfl;have q2:=Ab (o:=2) FG rfl;have q3:=Ab (o:=3) FG rfl;have kR:=GL.nxt ED hne U1 t;have dC:=AjK kR;clear kR FG x0 x1 x2 x3 BU ED GL C4 BM Gs cn;go_wp2;go_roundw
     case rel=>exact⟨U ++ [s],t,c ++ [s],dC.out,HR.out.2.2.2,HR.out.2.1,HR.out.2.2.1,HR.out.1⟩
     case measure=>have h1:=dC.out.used.size;have h2:=jk.out;rw [List.length_append,List.length_singleton]at h1;rw [h1,h2.1];omega
  ·have hk2:k=L.length:=by omega
   have AU:st.2=C:=by rw [HC.out];unfold IF;rw [HST.out,hk2,←Jv.out,List.take_length]
   have hle:(L.length:Int)<=(k:Int):=(by omega);rw [AU]at hO;obtain⟨A,cap,rfl,hcs⟩:=hO.cycs;have OZ:=AjK hcs;clear hcs hO hU D5 hB hk2;go_wp2;go_ret;exact⟨A,cap,rfl,OZ.out,BV⟩
def CO(C:List (List Sg)):List (Sg×Int):=C.zipIdx.flatMap (fun ci=>ci.1.map (fun s=>(s,(ci.2:Int))))
theorem wF(C:List (List Sg))(c:List Sg):CO (C ++ [c])=CO C++c.map (fun s=>(s,(C.length:Int))):=by
 unfold CO;rw [List.zipIdx_append,List.flatMap_append];simp
theorem vZ(C:List (List Sg)):(CO C).map (·.1)=C.flatten:=by
 have main:∀n,n<=C.length→(CO (C.take n)).map (·.1)=(C.take n).flatten:=by
  intro n
  induction n with
  | zero=>intro _;simp [CO]
  | succ n ih=>
   intro hn;rw [AjQ (by omega),wF,List.map_append,ih (by omega),List.flatten_append,List.map_map]
   congr 1
   simp [Function.comp_def]
 have:=main C.length (AjN _)
 rwa [List.take_length]at this
theorem Afg{C:List (List Sg)}{e:Sg×Int}(h:e∈CO C):∃i,∃hi:i<C.length,e.2=(i:Int)/\e.1∈C[i]:=by
 unfold CO at h;rw [List.mem_flatMap]at h;obtain⟨ci,h1,h2⟩:=h;rw [List.mem_map]at h2;obtain⟨s,hs,rfl⟩:=h2;obtain⟨c,i⟩:=ci;rw [List.mem_zipIdx_iff_getElem?]at h1;simp only at h1 hs;rw [Aka]at h1;obtain⟨hi,rfl⟩:=h1;exact⟨i,hi,rfl,hs⟩
def N5(C:List (List Sg))(s:Sg):Int:=match (CO C).find? (fun e=>AK s e.1)with|some e=>e.2|none=>0
theorem xr{C:List (List Sg)}{s:Sg}(h:s∈C.flatten):∃i,∃hi:i<C.length,N5 C s=(i:Int)/\s∈C[i]:=by
 unfold N5;rw [←vZ,List.mem_map]at h;obtain⟨e,he,rfl⟩:=h
 cases hf:(CO C).find? (fun x=>AK e.1 x.1)with
 | none=>
  rw [List.find?_eq_none]at hf;exact absurd (Hg.2 rfl) (hf e he)
 | some x=>obtain⟨i,hi,h1,h2⟩:=Afg (List.mem_of_find?_eq_some hf);have h3:=List.find?_some hf;rw [Hg]at h3;exact⟨i,hi,h1,h3▸h2⟩
def findNext(f:Nat→Int)(C:List (List Sg)):Option (Sg×Rat)→Int
 | none=>-1
 | some x=>f (N5 C x.1).toNat
def Ci(W:List Sg)(C:List (List Sg)):Nat→Nat→Int
 | 0,_=>-1
 | n+1,i=>
  if 0<KO (C.getD i [])then (i:Int)
  else findNext (fun j=>Ci W C n j) C (Cz (aOf (C.getD i [])) W)
where aOf:List Sg→Pt
 | []=>⟨0,0⟩
 | s::_=>s.a
def leftOf(W:List Sg)(X:Rat):Nat:=W.countP (fun s=>decide (s.a.x<X))
theorem iL{α:Type}{p q:α→Bool} : ∀{l:List α},(∀x∈l,p x=true→q x=true)→(∃x∈l,q x=true/\p x=false)→l.countP p<l.countP q
 | [],_,h=>by obtain⟨x,hx,_⟩:=h;cases hx
 | a::l,h1,h2=>by
  have hle:l.countP p<=l.countP q:=List.countP_mono_left (fun x hx=>h1 x (List.mem_cons_of_mem _ hx));obtain⟨x,hx,hq,hp⟩:=h2
  rcases List.mem_cons.1 hx with rfl|hx
  ·rw [List.countP_cons,List.countP_cons,hq,hp];simp;omega
  ·have:=iL (fun x hx=>h1 x (List.mem_cons_of_mem _ hx)) ⟨x,hx,hq,hp⟩;have ha:=h1 a List.mem_cons_self;rw [List.countP_cons,List.countP_cons]
   cases FO:p a
   ·cases q a<;>simp<;>omega
   ·rw [ha FO];simp;omega
theorem eL{c:List Sg}(h:0<c.length):Ci.aOf c=c[0].a:=by
 cases c with
 | nil=>simp at h
 | cons s c=>rfl
theorem Aaz{W U:List Sg}{C:List (List Sg)}(hC:Rz W U C)(hall:∀s∈W,s∈U)(hG:Js W){i:Nat}(hi:i<C.length){x:Sg×Rat}(hb:Cz (Ci.aOf C[i]) W=some x) :
  x.1∈W/\∃j,∃hj:j<C.length,N5 C x.1=(j:Int)/\leftOf W (Ci.aOf C[j]).x<leftOf W (Ci.aOf C[i]).x:=by
 have h1:=VV hG (Ci.aOf C[i]) W (fun _ h=>h);rw [hb]at h1;obtain⟨s,Oh⟩:=x;obtain⟨hs,hc,-,-⟩:=h1;obtain⟨j,hj,e,hm⟩:=xr (C:=C) (s:=s) (by rw [hC.flat];exact hall s hs);refine⟨hs,j,hj,e,?_⟩;have hl0:0<C[j].length:=List.length_pos_iff.2 (hC.ne _ (AjO hj));have hle:=hC.least _ (AjO hj) s hm hl0;rw [Oz]at hle;rw [eL hl0];refine iL (fun y _ hy=>?_) ⟨s,hs,?_,?_⟩
 ·simp only [decide_eq_true_eq]at hy ⊢;have:=hc.1
  grind
 ·simp only [decide_eq_true_eq];exact hc.1
 ·simp only [decide_eq_false_iff_not];grind
theorem jQ(s:Sg):∀(L:List (Sg×Int)) (k:Nat),(L.mapIdx (fun i e=>(e.1,Value.int .i64 e.2,i+k))).find? (fun e=>AK s e.1)=none/\L.find? (fun e=>AK s e.1)=none∨∃x e,(L.mapIdx (fun i e=>(e.1,Value.int .i64 e.2,i+k))).find? (fun e=>AK s e.1)=some x/\L.find? (fun e=>AK s e.1)=some e/\x.2.1=.int .i64 e.2
 | [],_=>.inl ⟨by simp,by simp⟩
 | e::L,k=>by
  rw [List.mapIdx_cons,List.find?_cons,List.find?_cons]
  cases h:AK s e.1
  ·have:=jQ s L (k+1)
   simpa only [Nat.add_assoc,Nat.add_comm 1 k]using this
  ·exact .inr ⟨_,e,rfl,rfl,rfl⟩
theorem named{a b:World}(_:Aa a b):∃x,x=b:=⟨b,rfl⟩
def AI(s:Sg)(L:List (Sg×Int)):Int:=match L.find? (fun e=>AK s e.1)with|some e=>e.2|none=>0
theorem AdX(s:Sg)(L:List (Sg×Int)):Fp AK (.int .i64 0) s (stamp L)=.int .i64 (AI s L):=by
 have h:=jQ s L 0;simp only [Nat.add_zero]at h;unfold Fp AI stamp
 rcases h with⟨h1,h2⟩|⟨x,e,h1,h2,h3⟩
 ·rw [h1,h2]
 ·rw [h1,h2];exact h3
theorem Rq(s:Sg)(L:List (Sg×Int)){b:Nat}{W:World}(hb:W.heap[b]?=some (.map (Az Ax (stamp L)).toArray L.length)) :
  (Instr.lookup 160 (.map (some b)) (Ax s) false).run Tryz.prog W=.ok (.int .i64 (AI s L)) W:=by
 rw [OG Zu s (stamp L) hb,AdX]
structure Pw(B:Nat)(w:World)(r b1 b2:Nat)(L:List (Sg×Int))(E:List (Pt×Value×Nat))(R0:List (Pt×List Pt))(bc bn bf ba bm:Nat)(A:Option Addr)(cap:Nat)(C:List (List Sg)):Prop where
 net:Bn B w r b1 b2 L E R0
 cyc:K1 w A cap C
 cc:w.cell? ⟨bc,0,none⟩=some (.slice A C.length cap)
 cn:w.cell? ⟨bn,0,none⟩=some (.pointer (some ⟨r,0,none⟩))
 cf:w.cell? ⟨bf,0,none⟩=some (.func (.func 211) #[] #[.pointer (some ⟨bc,0,none⟩),.pointer (some ⟨bn,0,none⟩),.pointer (some ⟨bf,0,none⟩),.pointer (some ⟨ba,0,none⟩)])
 ca:w.cell? ⟨ba,0,none⟩=some (.map (some bm))
 m:w.heap[bm]?=some (.map (Az Ax (stamp (CO C))).toArray (CO C).length)
theorem Pw.ext{B:Nat}{w w':World}{r b1 b2:Nat}{L:List (Sg×Int)}{E:List (Pt×Value×Nat)}{R0:List (Pt×List Pt)}{bc bn bf ba bm:Nat}{A:Option Addr}{cap:Nat}{C:List (List Sg)}(h:Pw B w r b1 b2 L E R0 bc bn bf ba bm A cap C)(hx:Aa w w'):Pw B w' r b1 b2 L E R0 bc bn bf ba bm A cap C:=
 ⟨h.net.ext hx,h.cyc.ext hx,hx.cellS h.cc,hx.cellS h.cn,hx.cellS h.cf,hx.cellS h.ca,(hx.block _ (AjL h.m)).trans h.m⟩
structure OY(W:List Sg)(U:List Sg)(C:List (List Sg)):Prop where
 ok:Rz W U C
 all:∀s∈W,s∈U
 good:Js W
 grid:∀s∈W,Gb s
 len:W.length<=100000
theorem zV{α:Type} : ∀{l:List (List α)} {i:Nat} (h:i<l.length),l[i].length<=l.flatten.length
 | a::l,0,_=>by simp
 | a::l,i+1,h=>by have:=zV (l:=l) (i:=i) (by simpa using h);simp only [List.getElem_cons_succ,List.flatten_cons,List.length_append];omega
theorem OY.row{W U:List Sg}{C:List (List Sg)}(h:OY W U C){i:Nat}(hi:i<C.length):(∀s∈C[i],Gb s)/\0<C[i].length/\C[i].length<=100000:=by
 refine⟨fun s hs=>h.grid s (h.ok.sub s ?_),List.length_pos_iff.2 (h.ok.ne _ (AjO hi)),?_⟩
 ·rw [←h.ok.flat];exact List.mem_flatten.2 ⟨_,AjO hi,hs⟩
 ·have h1:=zV hi;rw [h.ok.flat]at h1;have h2:=Je h.ok.nd h.ok.sub;have:=h.len;omega
theorem Aay{B:Nat}{r b1 b2:Nat}{L:List (Sg×Int)}{E:List (Pt×Value×Nat)}{R0:List (Pt×List Pt)}{bc bn bf ba bm:Nat}{A:Option Addr}{cap:Nat}{C:List (List Sg)}{W U:List Sg}(hW:W=L.map (·.1))(hG:OY W U C) :
  ∀(n i:Nat) (hi:i<C.length),leftOf W (Ci.aOf C[i]).x<n→∀w,Ak w→Pw B w r b1 b2 L E R0 bc bn bf ba bm A cap C→
  Calls Tryz.prog 211 #[.int .i64 (i:Nat),.pointer (some ⟨bc,0,none⟩),.pointer (some ⟨bn,0,none⟩),.pointer (some ⟨bf,0,none⟩),.pointer (some ⟨ba,0,none⟩)] w (AB (Ci W C n i) w):=by
 intro n
 induction n with
 | zero=>intro i hi hlt;omega
 | succ n ih=>
  intro i hi hlt w hw h;obtain⟨g1,g2,g3⟩:=hG.row hi;obtain⟨bA,oA,A',c',rfl,hcell,C5,hc1,hc2⟩:=h.cyc.row i hi;have fC:=q9 C[i] A' c' g1 g2 g3 hc1 hc2;have ar:=fun (w1:World) (hw1:Ak w1) (hE:Aa w w1)=>fC w1 hw1 (C5.ext hE);clear fC;have sg:=aE (KO C[i]);have hd:=fun x=>Aaz hG.ok hG.all hG.good hi (x:=x);have pF:C.getD i []=C[i]:=by rw [List.getD_eq_getElem?_getD,AjS hi];rfl
  have Oa:Ci W C (n+1) i=if 0<KO C[i] then (i:Int)else findNext (Ci W C n) C (Cz (Ci.aOf C[i]) W):=by rw [Ci,pF]
  have hc0:(0:Int)<(c':Int):=(by omega);have hl0:(0:Int)<(C[i].length:Int):=(by omega);have Oi:(0:Int)<=(i:Int):=(by omega);have JU:(i:Int)<(C.length:Int):=(by omega);have FO:=eL g2;have YD:=(g1 _ (AjO g2)).a;rw [←FO]at YD;have bl:=fun (w1:World) (hw1:Ak w1) (h1:Bn B w1 r b1 b2 L E R0)=>fO h1 (Ci.aOf C[i]) (fun e he=>hG.grid e.1 (by rw [hW];exact List.mem_map_of_mem he)) YD hw1
  have Aw:∀l:List Sg,l.Perm (L.map (·.1))→Cz (Ci.aOf C[i]) l=Cz (Ci.aOf C[i]) W:=fun l hl=>by rw [←hW]at hl;exact fP hG.good _ hl (fun t ht=>hl.mem_iff.1 ht)
  have rG:=MZ C5 g2;have hsp:=UY (KO C[i])
  have TN:∀x,Cz (Ci.aOf C[i]) W=some x→∃j,∃hj:j<C.length,AI x.1 (CO C)=(j:Int)/\(N5 C x.1).toNat=j/\leftOf W (Ci.aOf C[j]).x<n:=by intro x hx;obtain⟨-,j,hj,e,hl⟩:=hd x hx;exact⟨j,hj,e,by rw [e];omega,by omega⟩
  obtain⟨st,hst⟩:=AjJ (Cz (Ci.aOf C[i]) W);rw [←hst]at Oa Aw TN;obtain⟨p,hp⟩:=AjJ (Ci.aOf C[i]);rw [←hp]at bl Aw;rw [←FO,←hp]at rG;obtain⟨q,hq⟩:=AjJ (KO C[i]);rw [←hq]at ar sg hsp Oa;obtain⟨m,hm⟩:=AjJ (C[i].length);rw [←hm]at ar hl0 hcell;obtain⟨z,hz⟩:=AjJ (Ci W C (n+1) i);rw [←hz]at Oa ⊢;obtain⟨bB,oB,hAB,k1,k2,-,-⟩:=rG;subst hAB;obtain⟨sq,EC⟩:=AjJ (AV q);rw [←EC]at sg hsp;have Vs:=AjK Oa;have cS:=AjK TN;have RD:=AjK Aw;have m1:=h.cc;have m2:=h.cn;clear Oa TN Aw hp hq hm hz FO YD hd hst EC g1 g2 g3 pF C5 hlt;rw [Nat.zero_mul,Nat.add_zero]at k1 k2;go_enter Tryz.func211,Tryz.ntmps211;(go_wp2_with fail);(with_reducible refine(ar w hw (Aa.refl w)).mono ?_);rintro e w1 ⟨rfl,hx1⟩;(go_wp2_with fail);(with_reducible refine(sg _).mono ?_);rintro e w2 ⟨rfl,hx2⟩;have En:=hx1.trans hx2;replace m1:=En.cellS m1;replace m2:=En.cellS m2;replace hcell:=En.cellS hcell;replace k1:=En.cellS k1;replace k2:=En.cellS k2;clear ar sg hx1 hx2;by_cases FP:0<q
  ·have AcE:0<sq:=hsp.2 FP;have hz:z=(i:Int):=(by rw [Vs.out,if_pos FP]);subst hz;go_wp2;go_ret;exact⟨rfl,En⟩
  ·have AcE:¬0<sq:=fun h=>FP (hsp.1 h);have HZ:=AjK (show z=findNext (Ci W C n) C st by rw [Vs.out,if_neg FP]);obtain⟨c0,c1,c2,c3,hc⟩:=VY st;obtain⟨WJ,Yd⟩:=AjJ st.isSome;have hw2:=hw.ext En;have h2:=h.ext En
   have s7:∀w',Aa w2 w'→Calls Tryz.prog 213 #[.pointer (some ⟨r,0,none⟩),.agg #[S (R p.x),S (R p.y)]] w' (Cp (.tuple #[.agg #[S c0,S c1,S c2,S c3],.bool WJ]) w'):=fun w' hx=>(bl w' (hw2.ext hx) (h2.net.ext hx)).mono fun e w'' ⟨l,hl,he,hx'⟩=>⟨by rw [he,RD.out l hl];unfold P4;rw [hc,Yd],hx'⟩
   have RH:=AjK Yd;clear Vs hsp FP bl Yd
   have SO:∀w',Aa w2 w'→(w'.cell? ⟨bc,0,none⟩=some (.slice (some ⟨bA,oA,none⟩) C.length cap)/\w'.cell? ⟨bn,0,none⟩=some (.pointer (some ⟨r,0,none⟩))/\w'.cell? ⟨bA,oA+i,none⟩=some (.slice (some ⟨bB,oB,none⟩) m c')/\w'.cell? ⟨bB,oB,none⟩=some (S (R p.x))/\w'.cell? ⟨bB,oB+1,none⟩=some (S (R p.y))):=fun w' h=>⟨h.cellS m1,h.cellS m2,h.cellS hcell,h.cellS k1,h.cellS k2⟩
   have X:Aa w2 w2:=Aa.refl w2;have e0:(0:Int)<(m:Int):=hl0;have e00:0<m:=by omega
   go_upto_region 3 with fail
   go_cut [7,8] (fun v7 v8 wx=>∃b,v7=.pointer (some ⟨b,0,none⟩)/\v8=.bool WJ/\wx.heap[b]?=some (.cells #[S c0,S c1,S c2,S c3] 176)/\Aa w2 wx)
   case first=>
    go_region_held3 (fun w'=>w'.cell? ⟨bc,0,none⟩=some (.slice (some ⟨bA,oA,none⟩) C.length cap)/\w'.cell? ⟨bn,0,none⟩=some (.pointer (some ⟨r,0,none⟩))/\w'.cell? ⟨bA,oA+i,none⟩=some (.slice (some ⟨bB,oB,none⟩) m c')/\w'.cell? ⟨bB,oB,none⟩=some (S (R p.x))/\w'.cell? ⟨bB,oB+1,none⟩=some (S (R p.y)))
     (first|with_reducible exact SO _ X|with_reducible exact SO _ X.drew|with_reducible exact SO _ (X.alloc _)|with_reducible exact SO _ (X.alloc _).drew|exact SO _ ((((X.setCell (AjN _) _).setCell (AjN _) _).setCell (AjN _) _).setCell (AjN _) _)|exact SO _ (((((X.alloc _).setCell X.size _).setCell X.size _).setCell X.size _).setCell X.size _))
     (first|((with_reducible refine(s7 _ (by first|exact X|exact X.alloc _|exact X.drew|exact(X.alloc _).drew)).mono ?_);rintro e w5 ⟨rfl,An⟩;(first|(have Z:=(An.block _ (AjL (AjM _ _))).trans (AjM _ _))|skip);replace X:Aa w2 w5:=(by first|exact X.trans An|exact(X.alloc _).trans An|exact X.drew.trans An|exact(X.alloc _).drew.trans An);(first|(have y1:=Ab (o:=0) Z rfl;have y2:=Ab (o:=1) Z rfl;have y3:=Ab (o:=2) Z rfl;have y4:=Ab (o:=3) Z rfl;have z1:=Ao (o:=0) Z;have z2:=Ao (o:=1) Z;have z3:=Ao (o:=2) Z;have z4:=Ao (o:=3) Z)|skip)))
    all_goals go_wp2
    all_goals go_meet
    all_goals first
     | exact⟨w5.heap.size,rfl,rfl,by unfold S;exact AjM w5 _,X.alloc _⟩
     | exact⟨w2.heap.size,rfl,rfl,by unfold S;exact Nz _ _ _ _ Z,(((X.setCell (p:=⟨w2.heap.size,0,none⟩) (AjN _) _).setCell (p:=⟨w2.heap.size,1,none⟩) (AjN _) _).setCell (p:=⟨w2.heap.size,2,none⟩) (AjN _) _).setCell (p:=⟨w2.heap.size,3,none⟩) (AjN _) _⟩
   case rest=>
    obtain⟨b,rfl,rfl,As,QL⟩:=hcut;obtain⟨wx,rfl⟩:=named QL;have Tz:=En.trans QL;have Tq:=h.ext Tz;have hwc:=hw.ext Tz;clear SO X m1 m2 hcell k1 k2
    cases WJ
    ·have hz:z = -1:=by
      rw [HZ.out]
      cases st with
      | none=>rfl
      | some x=>have:=RH.out;cases this
     subst hz;go_wp2;go_ret;exact⟨rfl,Tz⟩
    ·obtain⟨x,rfl⟩:∃x,st=some x:=by
      cases st with
      | none=>have:=RH.out;cases this
      | some x=>exact⟨x,rfl⟩
     obtain⟨j,hj,hl,hjn,hlt⟩:=cS.out x rfl;have hz:z=Ci W C n j:=(by rw [HZ.out];show Ci W C n (N5 C x.1).toNat=_;rw [hjn]);have hq:=fun (q:Ac wx)=>Rq x.1 (CO C) (Tq.ext q.h).m;rw [hl]at hq;have hcc:#[S c0,S c1,S c2,S c3]=(#[S (R x.1.a.x),S (R x.1.a.y),S (R x.1.b.x),S (R x.1.b.y)]:Array Value):=(by rw [←hc];rfl);rw [hcc]at As;have q1:∀q:Ac wx,q.w.cell? ⟨bf,0,none⟩=some (.func (.func 211) #[] #[.pointer (some ⟨bc,0,none⟩),.pointer (some ⟨bn,0,none⟩),.pointer (some ⟨bf,0,none⟩),.pointer (some ⟨ba,0,none⟩)]):=Ac.cell Tq.cf;have q2:∀q:Ac wx,q.w.cell? ⟨ba,0,none⟩=some (.map (some bm)):=Ac.cell Tq.ca;have q3:∀q:Ac wx,q.w.cell? ⟨b,0,none⟩=some (S (R x.1.a.x)):=Ac.cell (Ab As rfl);have q4:∀q:Ac wx,q.w.cell? ⟨b,1,none⟩=some (S (R x.1.a.y)):=Ac.cell (Ab As rfl);have q5:∀q:Ac wx,q.w.cell? ⟨b,2,none⟩=some (S (R x.1.b.x)):=Ac.cell (Ab As rfl);have q6:∀q:Ac wx,q.w.cell? ⟨b,3,none⟩=some (S (R x.1.b.y)):=Ac.cell (Ab As rfl);have cs:=fun (q:Ac wx)=>ih j hj hlt q.w (hwc.ext q.h) (Tq.ext q.h);rw [←hz]at cs;unfold Ax at hq;clear hc hz hl hjn hlt cS RD HZ As hcc ih
     go_upto_region 6 with fail
     refine Bh (by kernel_rfl) (by kernel_rfl) ?_
     repeat (go_big_quiet_step (first|(with_reducible refine DI (cs _))|(go_simp;with_reducible refine DI (cs _))))
     refine wpQuiet_nil ?_;rintro _ ⟨q,rfl⟩;go_wp2;go_ret;exact⟨rfl,Tz.trans q.h⟩
def LR(W:List Sg)(C:List (List Sg)):List Int:=(List.range C.length).map (Ci W C (W.length+1))
structure D9 where
 ok:Bool
 op:Bool
 face:List (Int×Int)
 seen:List Bool
def Db(r left:Int)(st:D9):D9:=
 match C7 r st.face with
 | some old=>⟨st.ok && decide (old=left),st.op,st.face,st.seen⟩
 | none=>
  if left<0 then ⟨false,true,st.face ++ [(r,left)],st.seen⟩
  else ⟨st.ok && !(st.seen.getD left.toNat false),st.op,st.face ++ [(r,left)],st.seen.set left.toNat true⟩
def G8(L:List (Sg×Int))(r:Int)(st:D9)(c:List Sg):D9:=c.foldl (fun st s=>Db r (AI s L) st) st
def Gd(L:List (Sg×Int))(l:List (List Sg×Int))(st:D9):D9:=l.foldl (fun st cr=>G8 L cr.2 st cr.1) st
def G9(nf:Nat):D9:=⟨true,false,[(-1,-1)],List.replicate nf false⟩
def Mi(L:List (Sg×Int))(nf:Nat)(C:List (List Sg))(rg:List Int):D9:=Gd L (C.zip rg) (G9 nf)
theorem oy(r left:Int)(st:D9):(Db r left st).seen.length=st.seen.length:=by
 unfold Db
 split
 ·rfl
 ·split
  ·rfl
  ·simp
theorem ow(L:List (Sg×Int))(r:Int)(st:D9)(c:List Sg)(s:Sg):G8 L r st (c ++ [s])=Db r (AI s L) (G8 L r st c):=by simp [G8]
theorem ox(L:List (Sg×Int))(l:List (List Sg×Int))(st:D9)(x:List Sg×Int):Gd L (l ++ [x]) st=G8 L x.2 (Gd L l st) x.1:=by simp [Gd]
theorem eT(L:List (Sg×Int))(r:Int)(c:List Sg):∀st:D9,(G8 L r st c).seen.length=st.seen.length:=by
 induction c with
 | nil=>intro st;rfl
 | cons s c ih=>intro st;show (G8 L r (Db r (AI s L) st) c).seen.length=_;rw [ih,oy]
theorem eU(L:List (Sg×Int))(l:List (List Sg×Int)):∀st:D9,(Gd L l st).seen.length=st.seen.length:=by
 induction l with
 | nil=>intro st;rfl
 | cons x l ih=>intro st;show (Gd L l (G8 L x.2 st x.1)).seen.length=_;rw [ih,eT]
def KN(L:List (Sg×Int))(nf:Nat)(C:List (List Sg))(rg:List Int):Bool:=(Mi L nf C rg).ok && !((Mi L nf C rg).seen.contains false)
end Go.Proofs.YtnfedbopbcegjaaGreatDoor
