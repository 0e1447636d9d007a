/- Z45: BV. -/
import Derived.Test.YtjalkoacphhgdaaGreatDoorZ41
import Derived.Test.YtjalkoacphhgdaaGreatDoorZ36
set_option maxRecDepth 100000
set_option maxHeartbeats 16000000
namespace Go.Proofs.YtjalkoacphhgdaaGreatDoor
open Go.RowKit Kl Go.Shelf
def lookO(s:Sg)(L:List (Sg×Int)):Option Int:=(L.find? (fun e=>AK s e.1)).map (·.2)
theorem Ajp{α:Type}{enc:α→Value}{same:α→α→Bool}{mt kt et:TypeId}{z:Value}(K:Jp mt kt et z enc same)(k:α)(l:List (α×Value×Nat)){b clock:Nat}{W:World}(hb:W.heap[b]?=some (.map (Ay enc l).toArray clock)) :
  (Instr.lookup mt (.map (some b)) (enc k) true).run Tryz.prog W=.ok (.tuple #[EP same z k l,.bool (l.find? (fun e=>same k e.1)).isSome]) W:=by
 have hf:=Rj K k l W;rw [zQ]at hf;unfold EP
 cases h:l.find? (fun e=>same k e.1)with
 | none=>
  rw [h]at hf
  have hf':(Instr.findKey kt (enc k) (Ay enc l)).run Tryz.prog W=.ok none W:=by rw [hf];cases EO same k l<;>rfl
  simp [Instr.lookup,run_underlying K.map,MapKept.run_getObj_map hb,K.chk,hf',K.zero,Result.andThen]
 | some e=>
  have hi:(EO same k l).isSome:=by unfold EO;rw [List.findIdx?_isSome,List.any_eq_true];exact⟨e,List.mem_of_find?_eq_some h,(by have:=List.find?_some h;exact this)⟩
  obtain⟨j,hj⟩:=Option.isSome_iff_exists.1 hi;rw [h,hj]at hf;simp only [Option.bind_some,Option.map_some]at hf;simp [Instr.lookup,run_underlying K.map,MapKept.run_getObj_map hb,K.chk,hf,Result.andThen]
theorem AjW(s:Sg)(L:List (Sg×Int)):((stamp L).find? (fun e=>AK s e.1)).isSome=(lookO s L).isSome:=by
 unfold lookO;rw [Option.isSome_map,Bool.eq_iff_iff,List.find?_isSome,List.find?_isSome];constructor
 ·rintro⟨x,hx,h⟩;obtain⟨e,he,h1⟩:=jO hx;exact⟨e,he,by rw [←h1];exact h⟩
 ·rintro⟨e,he,h⟩;obtain⟨i,hi,rfl⟩:=List.getElem_of_mem he;have hi':i<(stamp L).length:=(by rw [Dp];exact hi);exact⟨(stamp L)[i],Anp hi',by rw [Xk];exact h⟩
theorem lj(s:Sg)(L:List (Sg×Int)){b:Nat}{W:World}(hb:W.heap[b]?=some (.map (Ay As (stamp L)).toArray L.length)) :
  (Instr.lookup 131 (.map (some b)) (As s) true).run Tryz.prog W=.ok (.tuple #[.int .i64 ((lookO s L).getD 0),.bool (lookO s L).isSome]) W:=by
 rw [Ajp Wh s (stamp L) hb,di,AjW]
 have:AH s L=(lookO s L).getD 0:=by
  unfold AH lookO
  cases L.find? (fun e=>AK s e.1)<;>rfl
 rw [this]
structure kA(P:List (List Pt×Bs)):Prop where
 so:lZ P
 poly:∀e∈P,Ni e.1
 apart:∀(i k:Nat) (hi:i<P.length) (hk:k<i),(∀j,j<(P[k]'(by omega)).1.length→Lq P[i].1 (Bv (P[k]'(by omega)).1 j)∨JL P[i].1 (Bv (P[k]'(by omega)).1 j))/\∃j,j<(P[k]'(by omega)).1.length/\JL P[i].1 (Bv (P[k]'(by omega)).1 j)
def Iy(L0:List (Sg×Int))(s:Sg):Option (Sg×Int×Int):=match lookO (AQ s) L0 with
 | none=>some (s,AH s L0,-1)
 | some u=>if AH s L0≠u/\AX s.a s.b < 0 then some (s,AH s L0,u)else none
def DK(L0:List (Sg×Int))(ws:List Sg):List (Sg×Int×Int):=ws.filterMap (Iy L0)
theorem mH{L0:List (Sg×Int)}{ws:List Sg}{k:Nat}(hk:k<ws.length):DK L0 (ws.take (k+1))=DK L0 (ws.take k)++(Iy L0 ws[k]).toList:=by
 unfold DK;rw [Anr hk,List.filterMap_append]
 congr 1
theorem yv{L0:List (Sg×Int)}{ws:List Sg}{k:Nat}(hk:k<ws.length){x:Sg×Int×Int}(hx:Iy L0 ws[k]=some x):(DK L0 ws)[(DK L0 (ws.take k)).length]?=some x:=by
 have h1:DK L0 ws=DK L0 (ws.take (k+1))++DK L0 (ws.drop (k+1)):=by unfold DK;rw [←List.filterMap_append,List.take_append_drop]
 rw [h1,mH hk,hx,List.append_assoc,List.getElem?_append_right (Ano _),Nat.sub_self]
 rfl
theorem gC{B:Nat}{w w':World}{e:TypeId}{s n:Nat}{v:Value}{xs:List Value}{b1 b2:Nat}(h:w.ownsRow B e s v n xs)(hk:∀(k:Nat) (o:Obj),w.heap[k]?=some o→k≠b1→k≠b2→(∀cs,o≠.cells cs 92 (0,0))→w'.heap[k]?=some o)(hne:∀k,v.ownBlock=some k→k≠b1/\k≠b2)(he:e≠92):w'.ownsRow B e s v n xs:=by
 refine⟨h.1,?_⟩
 rcases h.2 with h'|⟨g,cap,cur,e1,e2,hgb,e4⟩
 ·exact .inl h'
 ·refine .inr ⟨g,cap,cur,e1,e2,hk g _ hgb ?_ ?_ (fun cs e=>he (Obj.cells.inj e).2.1),e4⟩
  ·exact(hne g (by rw [e1];rfl)).1
  ·exact(hne g (by rw [e1];rfl)).2
def Q7(w w':World)(b1 b2:Nat):Prop:=∀(k:Nat) (o:Obj),w.heap[k]?=some o→k≠b1→k≠b2→(∀cs,o≠.cells cs 92 (0,0))→w'.heap[k]?=some o
theorem PG{a b d:World}{b1 b2:Nat}(h:Q7 a b b1 b2)(k:Q7 b d b1 b2):Q7 a d b1 b2:=fun i o h1 h2 h3 h4=>k i o (h i o h1 h2 h3 h4) h2 h3 h4
theorem Wg{a b:World}{b1 b2:Nat}(hx:Aa a b):Q7 a b b1 b2:=fun _ _ h _ _ _=>(hx.block _ (Anm h)).trans h
structure MW(P:List (List Pt×Bs))(n k bg bs:Nat)(gl:List Int)(ul:List Bs)(W:World):Prop where
 lg:gl.length=n
 lu:ul.length=n
 g:∀j,j<k→gl[j]?=some (j:Int)
 u:∀j,j<k→ul[j]?=some (P.getD j ([],[])).2
 og:W.ownsRow 0 3 1 (.slice (some ⟨bg,0,none⟩) n n) n (zs gl)
 os:W.ownsRow 0 9 1 (.slice (some ⟨bs,0,none⟩) n n) n (ul.map S)
theorem MW.step{P:List (List Pt×Bs)}{n k bg bs:Nat}{gl:List Int}{ul:List Bs}{W:World}(h:MW P n k bg bs gl ul W)(hk:k<n)(hne:bg≠bs) :
  MW P n (k+1) bg bs (gl.set k (k:Int)) (ul.set k (P.getD k ([],[])).2) ((W.setCell ⟨bg,k,none⟩ (.int .i64 (k:Nat))).setCell ⟨bs,k,none⟩ (S (P.getD k ([],[])).2)):=by
 have g1:=(h.og.stored k (.int .i64 (k:Nat))).1;have g2:=ownsRow_setCell_other (a:=⟨bs,k,none⟩) g1 (by simp only [Value.ownBlock,ne_eq,Ans];exact hne) (S (P.getD k ([],[])).2);have u1:=ownsRow_setCell_other (a:=⟨bg,k,none⟩) h.os (by simp only [Value.ownBlock,ne_eq,Ans];exact fun e=>hne e.symm) (.int .i64 (k:Nat));have u2:=(u1.stored k (S (P.getD k ([],[])).2)).1;refine⟨by rw [List.length_set];exact h.lg,by rw [List.length_set];exact h.lu,fun j hj=>?_,fun j hj=>?_,by rw [←q9];exact g2,by rw [List.map_set];exact u2⟩
 ·by_cases e:j=k
  ·subst e;rw [List.getElem?_set_self (by rw [h.lg];exact hk)]
  ·rw [List.getElem?_set_ne (fun e'=>e e'.symm)];exact h.g j (by omega)
 ·by_cases e:j=k
  ·subst e;rw [List.getElem?_set_self (by rw [h.lu];exact hk)]
  ·rw [List.getElem?_set_ne (fun e'=>e e'.symm)];exact h.u j (by omega)
theorem Bo.base{B B':Nat}{W:World}{r b1 b2:Nat}{L:List (Sg×Int)}{E:List (Pt×Value×Nat)}{R:List (Pt×List Pt)}(h:Bo B W r b1 b2 L E R)(e:B=B'):Bo B' W r b1 b2 L E R:=e▸h
structure lO(pts:List Pt)(eds:List Ax)(n:Nat)(R1:List (Pt×List Pt)):Prop where
 eo:MV pts eds
 le:eds.length<=1000
 wo:OB ((AM pts eds).map (·.1))
 gr:∀s∈(AM pts eds).map (·.1),Jr s
 lf:∀x∈AM pts eds,-1<=x.2/\x.2<(n:Int)
 r1:R1=(Cx pts eds).map (fun e=>(e.1,DF e.1 e.2))
 op:(Kj (AM pts eds) n (Hm ((AM pts eds).map (·.1)) R1) (JK ((AM pts eds).map (·.1)) (Hm ((AM pts eds).map (·.1)) R1))).op=false
 hz:∀e∈R1,Ar 200 e.1/\∀p∈e.2,Ar 200 p
 ln:R1.length<=400
 rl:∀e∈R1,e.2.length<100000
 nd:(R1.map (·.1)).Nodup
 no:∀e∈R1,∀p q,e.2 = [p,q]→AE (Al p e.1 q)≠0
 sz:∀e∈AM pts eds,Ee 200 e.1
 bk:∀e∈AM pts eds,∃e'∈AM pts eds,e'.1=AQ e.1
theorem pX{l:List Ax}{j:Nat}(hj:j<(Bw l).length):∃z,(Bw l)[j]=.int .i64 z:=by
 have:=Anp hj;unfold Bw at this;rw [List.mem_flatMap]at this;obtain⟨p,_,h⟩:=this;simp only [List.mem_cons,An0,or_false]at h
 rcases h with h|h|h|h<;>exact⟨_,h⟩
theorem iG{w w':World}{A:Option Addr}{l:List Value}{b:Nat}{a0 a1 a2:Value}{t:TypeId}(h:Ae w A l)(hb:Av (fun q=>q=b) w w')(hm:w.heap[b]?=some (.cells #[a0,a1,a2] t))(hne:∀(j:Nat) (hj:j<l.length),l[j]≠a0/\l[j]≠a1/\l[j]≠a2):Ae w' A l:=by
 refine⟨fun h0=>?_⟩;obtain⟨g,o,e,hc⟩:=h.ad h0;refine⟨g,o,e,fun j hj=>?_⟩;have h1:=hc j hj;refine(World.cell?_of_block (a:=⟨g,o+j,none⟩) (hb.block g (World.block_lt_of_cell? w _ h1) (fun e'=>?_))).trans h1;subst e';have h2:=Aa5 hm h1;obtain⟨n1,n2,n3⟩:=hne j hj
 match hn:o+j with
 | 0=>rw [hn]at h2;exact n1 (by simpa using h2.symm)
 | 1=>rw [hn]at h2;exact n2 (by simpa using h2.symm)
 | 2=>rw [hn]at h2;exact n3 (by simpa using h2.symm)
 | n+3=>rw [hn]at h2;simp at h2
def T0(w:World)(m:Cp)(Am:List Bs)(e:Ending)(w':World):Prop:=
 ∃A Bk F c d g,e=.returned (.tuple #[Dz A Bk F m c d g,.int .i64 0])/\JV m c d g/\Ae w' A (flat (Ao m.pts))/\Ae w' Bk (Bw m.eds)/\Ae w' F (Am.map S)/\m.nf=Am.length/\Aa w w'
theorem Aa7(P:List (List Pt×Bs))(hP:kA P)(FO:0<P.length)(NS:∀e∈B8 P P.length,0<=e.2/\e.2<(P.length:Int)/\∀z,lookO (AQ e.1) (B8 P P.length)=some z→0<=z/\z<(P.length:Int)/\(P.getD e.2.toNat ([],[])).2≠(P.getD z.toNat ([],[])).2)(IQ:∀e∈B8 P P.length,Ee 200 e.1)(Dk:(B8 P P.length).length<=10000){DZ:List Pt}{C0:List Ax}(hadd:DK (B8 P P.length) (B6 ((B8 P P.length).map (·.1)))=C0.map (fun e=>(AY DZ e,e.l,e.r))){R1:List (Pt×List Pt)}(GO:lO DZ C0 P.length R1){pts:List Pt}(NN:pts=Ev (R1.map (·.1))){st:Gz}(hst:st=I0 (P.map (·.2)) (BN pts) (AM DZ C0) (B6 ((AM DZ C0).map (·.1))))(A:Option Addr)(c:Nat)(w:World)(hw:An w)(h:Kd w A c P) :
  Calls Tryz.prog 44 #[.slice A P.length c] w (T0 w ⟨pts,st.ed,st.fa.length⟩ st.fa):=by
 have hmm:=@run_makeMap Tryz.prog;have hlen:P.length<=1000:=hP.so.len;have hc1:=h.c1;have hc2:=h.c2;have HP:=Anl hP;have HA:=Anl h;obtain⟨n,hn⟩:=Ank P.length;rw [←hn]at hlen hc1 FO NS IQ Dk hadd GO ⊢;have ri:=Anl hadd;have vk:=Anl GO;have TJ:=Anl GO.eo;have TM:=Anl NN;have HST:=Anl hst;have hel:=GO.le;have Fx:=Anl Dk;have XV:=Anl NS;have Jm:=Anl IQ;have HN:=Anl hn;have E1:=(Aa.refl w).alloc (.cells #[.slice none 0 0,.slice none 0 0,.slice none 0 0] 36);have hbr:=Ann w (.cells #[.slice none 0 0,.slice none 0 0,.slice none 0 0] 36);clear hP h hn NS IQ Dk hadd GO NN hst;go_enter Tryz.func44,Tryz.ntmps44
 go_upto_region 4 with fail
 generalize w.alloc (.cells #[.slice none 0 0,.slice none 0 0,.slice none 0 0] 36)=W1 at *;have hl0:(0:Int)<=(n:Int):=by omega
 go_loopw [39] (fun iv wr=>∃k:Nat,iv=.int .i64 (k:Nat)/\k<=n/\Aa W1 wr) (fun iv _=>n-(intOf iv).toNat)
 case atStart=>exact⟨0,rfl,by omega,Aa.refl _⟩
 case round=>
  obtain⟨k,rfl,hk,hX⟩:=hrel;by_cases hkn:k<n
  ·have Pv:k<P.length:=(by rw [←HN.out];exact hkn);obtain⟨bA,oA,A',c',rfl,AD,AU,Bp,AP,hr1,hr2⟩:=HA.out.row k Pv;have BR:=E1.trans hX;replace AD:=BR.cellS AD;replace AU:=BR.cellS AU;replace Bp:=BR.cellS Bp;have hk0:(0:Int)<=(k:Int):=(by omega);have Ca:(k:Int)<(n:Int):=(by omega);have IM:=HP.out.poly _ (Anp Pv);have hsz:=HP.out.so.sz _ (Anp Pv);obtain⟨pg,Gp⟩:=Ank (P[k].1);obtain⟨un,Au⟩:=Ank (P[k].2);rw [←Gp]at AD AP hr1 IM hsz;rw [←Au]at AU;have EA:=(Aa.refl wr).alloc (.cells #[.slice A' pg.length c',S un,.slice none 0 0] 95);have Aq:=Ann wr (.cells #[.slice A' pg.length c',S un,.slice none 0 0] 95);have ck:=gV pg IM hsz (by omega) (by omega) A' c' _ (hw.ext (BR.trans EA)) (AP.ext (BR.trans EA)) hr1 hr2;have y0:=Ab (o:=0) Aq rfl;clear Gp Au IM hsz;(go_wp2_with fail);(with_reducible refine ck.mono ?_);rintro e w2 ⟨rfl,hx2⟩;go_wp2;go_roundw
   case rel=>exact⟨k+1,by go_num,hkn,(hX.trans EA).trans hx2⟩
   case measure=>simp [intOf];omega
  ·have Bu:k=n:=(by omega);subst Bu;have hd:decide (k<k)=false:=(by simp);have BY:decide ((k:Int)<(k:Int))=false:=by simp
   go_upto_region 11 with fail
   obtain⟨W2,rfl⟩:=fC hX;have Ck:=E1.trans hX;have hR2:=(hX.block _ (Anm hbr)).trans hbr;clear hX hd BY E1 hbr
   go_loopw [53] (fun iv wr=>∃i:Nat,iv=.int .i64 (i:Nat)/\i<=k/\Aa W2 wr) (fun iv _=>k-(intOf iv).toNat)
   case atStart=>exact⟨0,rfl,by omega,Aa.refl _⟩
   case round=>
    obtain⟨i,rfl,hi,hX⟩:=hrel;have BR:=Ck.trans hX;by_cases hin:i<k
    ·have Mq:i<P.length:=(by rw [←HN.out];exact hin);obtain⟨bA,oA,A',c',rfl,AD,AU,Bp,AP,hr1,hr2⟩:=HA.out.row i Mq;replace AD:=BR.cellS AD;replace AU:=BR.cellS AU;replace Bp:=BR.cellS Bp;have KF:(0:Int)<=(i:Int):=(by omega);have Pp:(i:Int)<(k:Int):=(by omega);have IM:=HP.out.poly _ (Anp Mq);have hsz:=HP.out.so.sz _ (Anp Mq);have hap:=fun q (hq:q<i)=>HP.out.apart i q Mq hq;obtain⟨pg,Gp⟩:=Ank (P[i].1);obtain⟨un,Au⟩:=Ank (P[i].2);rw [←Gp]at AD AP hr1 IM hsz hap;rw [←Au]at AU;have EA:=(Aa.refl wr).alloc (.cells #[.slice A' pg.length c',S un,.slice none 0 0] 95);have Aq:=Ann wr (.cells #[.slice A' pg.length c',S un,.slice none 0 0] 95);have rk:=Anl hap;clear Gp Au hap
     go_upto_region 14 with fail
     unfold S at Aq EA;generalize wr.alloc (.cells #[.slice A' pg.length c',.string ⟨un.toArray⟩,.slice none 0 0] 95)=W3 at *;obtain⟨b8,FA⟩:=Ank wr.heap.size;rw [←FA]at Aq ⊢;clear FA AD AU Bp;have GK:=hX.trans EA;have CX:=Ck.trans GK;have y0:=Ab (o:=0) Aq rfl;clear EA hX Aq
     go_loopw [62] (fun jv wj=>∃j:Nat,jv=.int .i64 (j:Nat)/\j<=i/\Aa W3 wj) (fun jv _=>i-(intOf jv).toNat)
     case atStart=>exact⟨0,rfl,by omega,Aa.refl _⟩
     case round=>
      obtain⟨j,rfl,hj,Pe⟩:=hrel;have Pf:=CX.trans Pe;by_cases Sf:j<i
      ·have H7:j<P.length:=(by omega);obtain⟨bB,oB,B',d',he,AD,AU,Bp,yD,hs1,hs2⟩:=HA.out.row j H7;simp only [Ans,Addr.mk.injEq,and_true]at he;obtain⟨rfl,rfl⟩:=he;replace AD:=Pf.cellS AD;replace AU:=Pf.cellS AU;replace Bp:=Pf.cellS Bp;have hj0:(0:Int)<=(j:Int):=(by omega);have Mr:(j:Int)<(i:Int):=(by omega);obtain⟨Yu,Yv⟩:=rk.out j Sf;have cY:=HP.out.poly _ (Anp H7);have NQ:=HP.out.so.sz _ (Anp H7);obtain⟨qg,xO⟩:=Ank (P[j].1);obtain⟨un,Au⟩:=Ank (P[j].2);rw [←xO]at AD yD hs1 cY NQ Yu Yv;rw [←Au]at AU;have EA:=(Aa.refl wr).alloc (.cells #[.slice B' qg.length d',S un,.slice none 0 0] 95);have Aq:=Ann wr (.cells #[.slice B' qg.length d',S un,.slice none 0 0] 95);have it:=AfQ pg qg IM cY hsz NQ Yu Yv A' B' c' d' _ (hw.ext (Pf.trans EA)) (AP.ext (Pf.trans EA)) (yD.ext (Pf.trans EA)) hr1 hr2 hs1 hs2;have z0:=Ab (o:=0) Aq rfl;have z1:=EA.cellS (Pe.cellS y0);clear xO Au Yu Yv cY NQ;(go_wp2_with fail);(with_reducible refine it.mono ?_);rintro e w2 ⟨rfl,hx2⟩;go_wp2;go_roundw
       case rel=>exact⟨j+1,by go_num,Sf,(Pe.trans EA).trans hx2⟩
       case measure=>simp [intOf];omega
      ·have J7:j=i:=(by omega);subst J7;go_wp2;go_roundw
       case rel=>exact⟨j+1,by go_num,hin,GK.trans Pe⟩
       case measure=>simp [intOf];omega
    ·have NF:i=k:=(by omega);subst NF;have hd:decide (i<i)=false:=(by simp);have BY:decide ((i:Int)<(i:Int))=false:=(by simp);have ps:=fun (V:World) (hV:Aa w V)=>Ait P HP.out.so A c V (hw.ext hV) (HA.out.ext hV);rw [←HN.out]at ps;have p1:=ps wr BR;(go_wp2_with fail);(with_reducible refine p1.mono ?_);rintro e w4 ⟨bl,rfl,hML,hbl,Ai⟩;have Ht:=BR.trans Ai;have AlS:w.heap.size<=bl:=(by have:=BR.size;omega);have UP:=((hX.trans Ai).block _ (Anm hR2)).trans hR2;clear ps p1 hR2 Ck hX Ai BR hd BY;have mki:=ek i (by omega) (i:Int) rfl w4;have E5:=(Aa.refl w4).alloc (.cells (madeCells #[.int .i64 0] i) 3);have mks:=AgP i (by omega) (i:Int) rfl (w4.alloc (.cells (madeCells #[.int .i64 0] i) 3))
     go_upto_region 25 with fail
     have og:=iz w4 0 i (Nat.zero_le _) (by omega);have os:=AhT (w4.alloc (.cells (madeCells #[.int .i64 0] i) 3)) 0 i (Nat.zero_le _) (by omega);rw [Anv]at os;have E6:=E5.alloc (.cells (madeCells #[S []] i) 9);have fO:=Az og ((Aa.refl (w4.alloc (.cells (madeCells #[.int .i64 0] i) 3))).alloc (.cells (madeCells #[S []] i) 9));have Kx:=hML.ext E6;have Mc:=(E6.block _ (Anm UP)).trans UP;have Mg:=Ht.trans E6;have yK:((w4.alloc (.cells (madeCells #[.int .i64 0] i) 3)).alloc (.cells (madeCells #[S []] i) 9)).heap.size=w4.heap.size+2:=(by simp only [Anv]);obtain⟨bg,hbg⟩:=Ank w4.heap.size;rw [←hbg]at fO os yK ⊢;have AdH:=Anm hML;have hRl:=Anm UP;generalize (w4.alloc (.cells (madeCells #[.int .i64 0] i) 3)).alloc (.cells (madeCells #[S []] i) 9)=W6 at *;have sM:MW P i 0 bg (bg+1) (zn (List.replicate i 0)) (List.replicate i []) W6:=⟨by simp [zn],by simp,fun j hj=>by omega,fun j hj=>by omega,fO,os⟩;have AlO:w.heap.size<bg:=(by omega);have AlQ:bl<bg:=(by omega);clear mki mks og os fO E5 E6 hML UP Ht hbg yK AdH hRl hbl
     go_loopw [89] (fun kv wk=>∃(k:Nat) (gl:List Int) (ul:List Bs),kv=.int .i64 (k:Nat)/\k<=i/\MW P i k bg (bg+1) gl ul wk/\Av (fun q=>q=bg∨q=bg+1) W6 wk) (fun kv _=>i-(intOf kv).toNat)
     case atStart=>exact⟨0,_,_,rfl,by omega,sM,Av.refl _ _⟩
     case round=>
      obtain⟨k,gl,ul,rfl,hk,hG,hB⟩:=hrel;have BR:Aa w wr:=hB.toExt Mg (fun q e=>by rcases e with e|e<;>omega);by_cases hkn:k<i
      ·have Pv:k<P.length:=(by rw [←HN.out];exact hkn);obtain⟨bA,oA,A',c',rfl,AD,AU,Bp,AP,hr1,hr2⟩:=HA.out.row k Pv;replace AD:=BR.cellS AD;replace AU:=BR.cellS AU;replace Bp:=BR.cellS Bp;have hk0:(0:Int)<=(k:Int):=(by omega);have Ca:(k:Int)<(i:Int):=(by omega);obtain⟨pg,Gp⟩:=Ank (P[k].1);obtain⟨un,Au⟩:=Ank (P[k].2);have hgd:(P.getD k ([],[])).2=un:=(by rw [Au];simp [List.getD_eq_getElem?_getD,Ant Pv]);rw [←Gp]at AD;rw [←Au]at AU;have EA:=(Aa.refl wr).alloc (.cells #[.slice A' pg.length c',S un,.slice none 0 0] 95);have Aq:=Ann wr (.cells #[.slice A' pg.length c',S un,.slice none 0 0] 95);have N2:MW P i k bg (bg+1) gl ul (wr.alloc (.cells #[.slice A' pg.length c',S un,.slice none 0 0] 95)):=⟨hG.lg,hG.lu,hG.g,hG.u,Az hG.og EA,Az hG.os EA⟩;have BK:=hB.ext EA;clear Gp Au
       go_upto_region 27 with fail
       unfold S at Aq EA N2 BK;generalize wr.alloc (.cells #[.slice A' pg.length c',.string ⟨un.toArray⟩,.slice none 0 0] 95)=W3 at *;obtain⟨b8,FA⟩:=Ank wr.heap.size;rw [←FA]at Aq ⊢
       have AlM:bg+1<b8:=by obtain⟨cu,aO⟩:=NY hG.os;have:=Anm aO;omega
       have y1:=Ab (o:=1) Aq rfl;have CL:∃z,gl[k]?=some z:=⟨_,Ant (by rw [hG.lg];exact hkn)⟩;have VT:∃z,ul[k]?=some z:=⟨_,Ant (by rw [hG.lu];exact hkn)⟩;obtain⟨zg,CL⟩:=CL;obtain⟨zu,VT⟩:=VT;have c1:W3.cell? ⟨bg,k,none⟩=some (.int .i64 zg):=(by rw [N2.og.cellAt k (by omega)];simp [zs,CL]);have c2:W3.cell? ⟨bg+1,k,none⟩=some (S zu):=(by rw [N2.os.cellAt k (by omega)];simp [VT]);have f1:=N2.og.frozenAt k;have f2:=N2.os.frozenAt k;have GG:=N2.step hkn (by omega);rw [hgd]at GG;have Ow:=Anl GG;have TG:=Anl BK;unfold S at y1 c2;have cG:bg≠bg+1:=(by omega);have EL:b8≠bg:=(by omega);have Am1:b8≠bg+1:=(by omega);clear FA N2 GG BK hG hB CL VT hgd AD AU Bp EA Aq BR
       go_region
       go_wp2;go_roundw
       case rel=>exact⟨k+1,_,_,by go_num,hkn,⟨Ow.out.lg,Ow.out.lu,Ow.out.g,Ow.out.u,Az Ow.out.og (Aa.refl _).drew,Az Ow.out.os (Aa.refl _).drew⟩,((TG.out.setCell (p:=⟨bg,k,none⟩) (.inl (.inl rfl)) _).setCell (p:=⟨bg+1,k,none⟩) (.inl (.inr rfl)) _).ext (Aa.refl _).drew⟩
       case measure=>simp [intOf];omega
      ·have Bu:k=i:=(by omega);subst Bu;have hd:decide (k<k)=false:=(by simp);have BY:decide ((k:Int)<(k:Int))=false:=(by simp);have EK:Ds wr bl (B8 P k):=(hB.block _ (Anm Kx) (fun e=>by rcases e with e|e<;>omega)).trans Kx;have ZH:=(hB.block _ (Anm Mc) (fun e=>by rcases e with e|e<;>omega)).trans Mc;clear hB Kx Mc Mg sM;obtain⟨L0,Z5⟩:=Ank (B8 P k);rw [←Z5]at EK;unfold Ds at EK;have hrg:=Cz.range (enc:=As) (E:=stamp L0) (t:=131) Tryz.underlying131 (W:=wr) (b:=bl) (by rw [Dp];exact EK);obtain⟨hr1,hr2⟩:=hrg;have E8:=(Aa.refl wr).alloc (.mapIter (some bl) (stamp L0).length #[] (stamp L0).length);have Ry:=(E8.block _ (Anm EK)).trans EK;have ZW:=BR.trans E8;have ZI:=(E8.block _ (Anm ZH)).trans ZH;have LX:MW P k k bg (bg+1) gl ul (wr.alloc (.mapIter (some bl) (stamp L0).length #[] (stamp L0).length)):=⟨hG.lg,hG.lu,hG.g,hG.u,Az hG.og E8,Az hG.os E8⟩;have AdI:=Anm EK;obtain⟨cu7,vF⟩:=NY hG.os;have Aen:=Anm vF;have G4:=Anl Z5;clear Z5 hG ZH BR E8 hd BY
       go_upto_region 30 with fail
       clear hr1 EK;obtain⟨bt,FC⟩:=Ank wr.heap.size;rw [←FC]at hr2 ⊢;generalize wr.alloc (.mapIter (some bl) (stamp L0).length #[] (stamp L0).length)=W8 at *;have AlR:bl<bt:=(by omega);have Em:bg+1<bt:=(by omega);clear FC AdI vF Aen
       go_loopw [106] (fun v wx=>v=v/\∃seen,Cz wx bt bl (stamp L0) seen/\Av (fun q=>q=bt) W8 wx) (fun _ wx=>L0.length-(wx.iterSeen bt).size)
       case atStart=>exact⟨rfl,[],hr2,Av.refl _ _⟩
       case round=>
        obtain⟨-,seen,hI,hB⟩:=hrel;have IB:=(hB.block bl (Anm Ry) (by omega)).trans Ry;have aF:=IB;rw [←Dp]at aF;have K1:Aa w wr:=hB.toExt ZW (fun q e=>by subst e;omega)
        rcases Cz.next As hI aF (jN L0) (by omega) 0 with⟨hlen,hrun⟩|⟨j,hj,Gn,W9,OT,hG9,hs9,hrun,hen⟩
        ·have XI:=Anl hlen
         obtain⟨gy,PQ⟩:wr.ownsRow 0 3 1 (.slice (some ⟨bg,0,none⟩) k k) k (zs gl)/\wr.ownsRow 0 9 1 (.slice (some ⟨bg+1,0,none⟩) k k) k (ul.map S):=
          ⟨CB LX.og hB (fun q hq e=>by simp only [Value.ownBlock,Ans]at hq;omega),CB LX.os hB (fun q hq e=>by simp only [Value.ownBlock,Ans]at hq;omega)⟩
         have UR:=Anm ZI;have Md:=(hB.block _ UR (by omega)).trans ZI;have HG:=Anl LX;have em:=qB wr;have en:=@qA wr
         have eb:Aa wr (Ns wr):=((Aa.refl wr).alloc _).alloc _ |>.alloc _
         clear hlen hB hI ZI ZW Ry LX aF hr2
         go_upto_region 35 with fail
         clear hrun;generalize Ns wr=V0 at *;obtain⟨wb,NT⟩:=Ank wr.heap.size;rw [←NT]at em en;have AmK:w.heap.size<=wb:=by have:=K1.size;omega
         have AlN:bg+1<wb:=by obtain⟨cu,aO⟩:=NY PQ;have:=Anm aO;omega
         have AlP:bl<wb:=(by have:=Anm IB;omega);have hRb:w.heap.size<wb:=(by have:=Anm Md;omega);have XX:=Anl NT;clear NT;(go_wp2_with fail);(with_reducible refine em.mono ?_);rintro e w10 ⟨rfl,hw10⟩;rw [hw10];clear hw10 em;have RD:=K1;have Pd:=K1.trans eb;have Z6:=(eb.block _ (Anm IB)).trans IB;have kw:=fun W=>eK (some bl) W;have L8:=(Aa.refl V0).alloc (.cells #[.map (some bl)] 131);have BP:=Ann V0 (.cells #[.map (some bl)] 131);have Rw:=(L8.block _ (Anm Z6)).trans Z6;have sk:=jJ hw (Pd.trans L8) V0.heap.size bl L0 (Anm BP) (Ab BP rfl) Rw (fun e he=>Jm.out e (by rw [←G4.out];exact he)) (by have:=Fx.out;rw [←G4.out]at this;omega);obtain⟨ws,NU⟩:=Ank (B6 (L0.map (·.1)));have hwl:ws.length=L0.length:=(by rw [NU,(Jd _).length_eq];simp);rw [←NU,←hwl]at sk;have AmM:ws.length<=10000:=(by have:=Fx.out;rw [←G4.out]at this;omega);have LI:=Anl NU;clear NU hwl;(go_wp2_with fail);(with_reducible refine(kw _).mono ?_);rintro e w11 ⟨rfl,rfl⟩;(go_wp2_with fail);(with_reducible refine sk.mono ?_);rintro e Tx ⟨sv,rfl,hS12,hE12⟩;obtain⟨sA,sc,rfl,-,-,-⟩:=Ae.of_own' (by omega) hS12;have TD:=L8.trans hE12;have Ad9:=Pd.trans TD;have L9:=eb.trans TD;have Z9:=en.ext TD;have gw:=Az gy L9;have iq:=Az PQ L9;have sQ:=(L9.block _ (Anm IB)).trans IB;have sZ:=(L9.block _ (Anm Md)).trans Md;have hVl:wb+3<=V0.heap.size:=(by have:=Anm en.cell;omega);have HQ:=Anl (And.intro RD (And.intro L9 (And.intro PQ Md)));clear kw sk BP Rw Z6 Pd eb en IB Md gy PQ L8 hE12 TD L9 K1 RD;have AmL:(0:Int)<=(ws.length:Int):=by omega
         go_upto_region 37 with fail
         have hadd:DK L0 ws=C0.map (fun e=>(AY DZ e,e.l,e.r)):=(by rw [LI.out,G4.out];exact ri.out);have UB:wb<=Tx.heap.size:=(by have:=Anm Z9.cell;omega);have BQ:wb<=wb+2:=(by omega);have Xz:=Anl hadd
         have XY:=Anl (show ∀s∈ws,∃e∈L0,e.1=s from fun s hs=>by
          rw [LI.out]at hs;obtain⟨e,he,h1⟩:=List.mem_map.1 ((Jd _).mem_iff.1 hs)
          exact⟨e,he,h1⟩)
         clear hadd
         go_loopw [143] (fun kv wk=>∃(q j:Nat) (E:List (Pt×Value×Nat)),kv=.int .i64 (q:Nat)/\q<=ws.length/\j=(DK L0 (ws.take q)).length/\Bo wb wk (wb+2) wb (wb+1) (AM DZ (C0.take j)) E (Cx DZ (C0.take j))/\Q7 Tx wk wb (wb+1)/\Below wb Tx wk) (fun kv _=>ws.length-(intOf kv).toNat)
         case atStart=>exact⟨0,0,[],rfl,by omega,rfl,by simpa [AM,Cx]using Z9,fun _ _ h _ _ _=>h,Below.refl _ _⟩
         case round=>
          obtain⟨q,j,E,rfl,hq,hj,hN,hK,hBl⟩:=hrel;have Me:=gC hS12 hK (fun k hk=>by have:=(hS12.lt k hk).1;rw [Anv]at this;omega) (by decide);have ia:=gC gw hK (fun k hk=>by simp only [Value.ownBlock,Ans]at hk;omega) (by decide);have osr:=gC iq hK (fun k hk=>by simp only [Value.ownBlock,Ans]at hk;omega) (by decide);have Ej:=hK bl _ sQ (by omega) (by omega) (fun cs e=>by cases e);have Pa:=hK _ _ sZ (by omega) (by omega) (fun cs e=>by simp only [Obj.cells.injEq]at e;exact absurd e.2.1 (by decide));have BH:Aa w wr:=Ad9.trans_below hBl (by omega);by_cases IO:q<ws.length
          ·obtain⟨b,o,rfl,f1,f2,f3,f4⟩:=MP (ML (by omega) Me) IO;obtain⟨e1,KC,KD⟩:=XY.out _ (Anp IO);have dM:=XV.out e1 (by rw [←G4.out];exact KC);have hsz:=Jm.out e1 (by rw [←G4.out];exact KC);rw [←G4.out]at dM;obtain⟨e2,Hz,hf2⟩:=Wm (s:=ws[q]) (L:=L0) (by rw [←KD];exact List.mem_map_of_mem KC);have hfr:=XV.out e2 (by rw [←G4.out];exact Hz);rw [←hf2]at hfr;rw [KD]at hsz;have yW:∀z,lookO (AQ ws[q]) L0=some z→0<=z/\z<(k:Int):=fun z hz=>(by have:=dM.2.2 z (by rw [KD];exact hz);exact⟨this.1,this.2.1⟩);replace hfr:0<=AH ws[q] L0/\AH ws[q] L0<(k:Int):=⟨hfr.1,hfr.2.1⟩;clear dM;have Ia:=mH (L0:=L0) IO;have Em:=fun x hx=>yv (L0:=L0) (x:=x) IO hx;rw [←hj]at Em;obtain⟨s,hs⟩:=Ank (ws[q]);rw [←hs]at f1 f2 f3 f4 yW hsz hfr Ia Em;obtain⟨fi,Da⟩:∃fi:Nat,AH s L0=(fi:Int):=⟨(AH s L0).toNat,by omega⟩;have LH:=Anl Ia;have LE:=Anl Em;have HJ:=Anl hj;have AD:(0:Int)<=(q:Int):=(by omega);have AU:(q:Int)<(ws.length:Int):=(by omega);have EA:=(Aa.refl wr).alloc (.cells #[S (R s.a.x),S (R s.a.y),S (R s.b.x),S (R s.b.y)] 155);have Aq:=Ann wr (.cells #[S (R s.a.x),S (R s.a.y),S (R s.b.x),S (R s.b.y)] 155);clear hs KD KC e1 Hz hf2 Ia Em hj
           go_upto_region 39 with fail
           unfold S at Aq EA;generalize wr.alloc (.cells #[.string ⟨(R s.a.x).toArray⟩,.string ⟨(R s.a.y).toArray⟩,.string ⟨(R s.b.x).toArray⟩,.string ⟨(R s.b.y).toArray⟩] 155)=V at *;obtain⟨bx,Aw⟩:=Ank wr.heap.size;rw [←Aw]at Aq ⊢;clear Aw f1 f2 f3 f4;have y0:=Ab (o:=0) Aq rfl;have y1:=Ab (o:=1) Aq rfl;have y2:=Ab (o:=2) Aq rfl;have y3:=Ab (o:=3) Aq rfl;have bk1:=Uk s V;unfold As S at bk1;(go_wp2_with fail);(with_reducible refine bk1.mono ?_);rintro e V2 ⟨rfl,hx11⟩;have GK:=EA.trans hx11;have N4:=(GK.block _ (Anm Ej)).trans Ej;have lk:=lj (AQ s) L0 (W:=V2) N4;have NV:=Qd s L0 (W:=V2) N4;rw [Da]at NV;have ogV:=Az ia GK;have Mk:=(hx11.block _ (Anm Aq)).trans Aq;have z0:=Ab (o:=0) Mk rfl;have z1:=Ab (o:=1) Mk rfl;have z2:=Ab (o:=2) Mk rfl;have z3:=Ab (o:=3) Mk rfl;have hG:=HG.out;have ND:fi<k:=(by omega);unfold As S at lk NV;clear bk1 y0 y1 y2 y3 Aq;have rt:=fun (x:Nat) (hx:x<k) (V3:World) (h3:Aa V2 V3)=>Ajf (l:=gl) (k:=x) (c:=k) (by rw [hG.lg];exact hx) (by have:=hG.g x hx;rw [Ant (by rw [hG.lg];exact hx)]at this;exact Option.some.inj this) (ML (by omega) (Az ogV h3));rw [hG.lg]at rt
           cases hlo:lookO (AQ s) L0 with
           | none=>
            rw [hlo]at lk;simp only [Option.getD_none,Option.isSome_none]at lk;have GL:Iy L0 s=some (s,(fi:Int),-1):=(by unfold Iy;rw [hlo,Da]);have NE:=LE.out _ GL;rw [Xz.out,List.getElem?_map]at NE;obtain⟨e0,IF,RU⟩:=Option.map_eq_some_iff.1 NE;simp only [Prod.mk.injEq]at RU;obtain⟨Ks,Ra,Rb⟩:=RU
            have AW:j<C0.length:=by
             rcases Nat.lt_or_ge j C0.length with h|h
             ·exact h
             ·rw [List.getElem?_eq_none h]at IF;cases IF
            have KA:C0[j]=e0:=(by rw [Ant AW]at IF;exact Option.some.inj IF);have DC:=TJ.out.keys AW;have Sv:=TJ.out.ne _ (Anp AW);rw [KA,Ks]at DC Sv
            have R2:AM DZ (C0.take (j+1))=AM DZ (C0.take j) ++ [(s,(fi:Int)),(AQ s,-1)]:=by rw [Anr AW,Wz,KA,Ks,Ra,Rb]
            have R7:Cx DZ (C0.take (j+1))=CG (CG (Cx DZ (C0.take j)) s.a s.b) s.b s.a:=by rw [Anr AW,WA,KA,Ks]
            have hrl:=SY DZ (C0.take j);have hjn:j+1=(DK L0 (ws.take (q+1))).length:=(by rw [LH.out,List.length_append,←HJ.out,GL];rfl);have XM:=Anl R2;have XN:=Anl R7;have Jk:=Anl hjn;clear hlo GL NE IF KA Ks Ra Rb R2 R7 hjn;have r1:=rt fi ND
            go_upto_region 43 with fail
            have r2:=r1 V2 (Aa.refl _);(go_wp2_with fail);(with_reducible refine r2.mono ?_);rintro e V3 ⟨rfl,hx13⟩;have Gg:=hN.ext (GK.trans hx13);have AlK:=BH.trans (GK.trans hx13);have hb3:wb<=V3.heap.size:=(by have:=Anm Gg.cell;omega);have ad:=Ys Gg hb3 s (fi:Int) (-1) DC.1 DC.2 Sv (fun e he=>by have:=hrl e he;rw [List.length_take]at this;omega);have hb4:=(hx13.block _ (Anm Mk)).trans Mk;have x0:=Ab (o:=0) hb4 rfl;have x1:=Ab (o:=1) hb4 rfl;have x2:=Ab (o:=2) hb4 rfl;have x3:=Ab (o:=3) hb4 rfl;have vR:¬((fi:Int) = -1):=(by omega);have hf2:((fi:Int) == -1)=false:=beq_false_of_ne vR;have hf3:((fi:Int) != -1)=true:=(by rw [bne,hf2];rfl);unfold As S at ad;clear r1 r2 rt lk NV z0 z1 z2 z3;(go_wp2_with fail);(with_reducible refine ad.mono ?_);rintro e V4 ⟨rfl,Ny,hK4,E4,GH⟩;rw [←XM.out,←XN.out]at GH;have Z4:=PG hK (PG (Wg (GK.trans hx13)) hK4);have Zu:=hBl.trans ((Below.mono (GK.trans hx13) (by have:=hBl.size;omega)).trans Ny);clear ad x0 x1 x2 x3 Gg;go_wp2;go_roundw
            case rel=>exact⟨q+1,j+1,E4,by go_num,IO,Jk.out,GH,Z4,Zu⟩
            case measure=>simp [intOf];omega
           | some u=>
            rw [hlo]at lk;simp only [Option.getD_some,Option.isSome_some]at lk;obtain⟨hu0,hu1⟩:=yW u hlo;obtain⟨ui,rfl⟩:∃ui:Nat,u=(ui:Int):=⟨u.toNat,by omega⟩;have JA:ui<k:=(by omega);have r1:=rt ui JA;have kf:=rt fi ND;have PT:=fun (V3:World) (h3:Aa w V3)=>Ig s.a s.b hsz.a hsz.b (by omega) (by omega) V3 (hw.ext h3)
            go_upto_region 42 with fail
            have r2:=r1 V2 (Aa.refl _);(go_wp2_with fail);(with_reducible refine r2.mono ?_);rintro e V3 ⟨rfl,Cc⟩;have eR:=Qd s L0 (W:=V3) ((Cc.block _ (Anm N4)).trans N4);rw [Da]at eR;have w0:=Cc.cellS z0;have w1:=Cc.cellS z1;have w2:=Cc.cellS z2;have w3:=Cc.cellS z3;unfold As S at eR;clear r2 r1 lk NV z0 z1 z2 z3;have r3:=kf V3 Cc;(go_wp2_with fail);(with_reducible refine r3.mono ?_);rintro e V4 ⟨rfl,hx13⟩;have RA:=GK.trans (Cc.trans hx13);have AdC:=BH.trans RA;have hb4:=((Cc.trans hx13).block _ (Anm Mk)).trans Mk;have x0:=Ab (o:=0) hb4 rfl;have x1:=Ab (o:=1) hb4 rfl;have x2:=Ab (o:=2) hb4 rfl;have x3:=Ab (o:=3) hb4 rfl;have hK4:=PG hK (Wg RA);have Ny:=hBl.trans (Below.mono RA (by have:=hBl.size;omega));have GH:=hN.ext RA;clear r3 kf rt eR w0 w1 w2 w3;by_cases vW:fi=ui
            ·subst vW;have GL:Iy L0 s=none:=(by unfold Iy;rw [hlo,Da];simp);have hjn:j=(DK L0 (ws.take (q+1))).length:=(by rw [LH.out,List.length_append,←HJ.out,GL];rfl);have Jk:=Anl hjn;clear GL hjn hlo PT;go_wp2;go_roundw
             case rel=>exact⟨q+1,j,E,by go_num,IO,Jk.out,GH,hK4,Ny⟩
             case measure=>simp [intOf];omega
            ·have vX:¬((fi:Int)=(ui:Int)):=(by omega);have hf2:((fi:Int) == (ui:Int))=false:=beq_false_of_ne vX;have hf3:((fi:Int) != (ui:Int))=true:=(by rw [bne,hf2];rfl);have vS:(fi == ui)=false:=beq_false_of_ne vW;have p1:=PT V4 AdC;obtain⟨z,hz⟩:=Ank (AX s.a s.b);rw [←hz]at p1;unfold Ak S at p1;clear PT;(go_wp2_with fail);(with_reducible refine p1.mono ?_);rintro e V5 ⟨rfl,hx14⟩;have AlJ:=RA.trans hx14;clear p1 x0 x1 x2 x3;by_cases MB:z<0
             ·have GL:Iy L0 s=some (s,(fi:Int),(ui:Int)):=by unfold Iy;rw [hlo,Da];simp only;rw [if_pos ⟨vX,by rw [←hz];exact MB⟩]
              have NE:=LE.out _ GL;rw [Xz.out,List.getElem?_map]at NE;obtain⟨e0,IF,RU⟩:=Option.map_eq_some_iff.1 NE;simp only [Prod.mk.injEq]at RU;obtain⟨Ks,Ra,Rb⟩:=RU
              have AW:j<C0.length:=by
               rcases Nat.lt_or_ge j C0.length with h|h
               ·exact h
               ·rw [List.getElem?_eq_none h]at IF;cases IF
              have KA:C0[j]=e0:=(by rw [Ant AW]at IF;exact Option.some.inj IF);have DC:=TJ.out.keys AW;have Sv:=TJ.out.ne _ (Anp AW);rw [KA,Ks]at DC Sv
              have R2:AM DZ (C0.take (j+1))=AM DZ (C0.take j) ++ [(s,(fi:Int)),(AQ s,(ui:Int))]:=by rw [Anr AW,Wz,KA,Ks,Ra,Rb]
              have R7:Cx DZ (C0.take (j+1))=CG (CG (Cx DZ (C0.take j)) s.a s.b) s.b s.a:=by rw [Anr AW,WA,KA,Ks]
              have hrl:=SY DZ (C0.take j);have hjn:j+1=(DK L0 (ws.take (q+1))).length:=(by rw [LH.out,List.length_append,←HJ.out,GL];rfl);have XM:=Anl R2;have XN:=Anl R7;have Jk:=Anl hjn;clear hlo GL NE IF KA Ks Ra Rb R2 R7 hjn hz;have N5:=GH.ext hx14;have hb5:wb<=V5.heap.size:=(by have:=Anm N5.cell;omega);have ad:=Ys N5 hb5 s (fi:Int) (ui:Int) DC.1 DC.2 Sv (fun e he=>by have:=hrl e he;rw [List.length_take]at this;omega);have I8:=(hx14.block _ (Anm hb4)).trans hb4;have x0:=Ab (o:=0) I8 rfl;have x1:=Ab (o:=1) I8 rfl;have x2:=Ab (o:=2) I8 rfl;have x3:=Ab (o:=3) I8 rfl;unfold As S at ad;(go_wp2_with fail);(with_reducible refine ad.mono ?_);rintro e V6 ⟨rfl,hBl6,hK6,E6,UL⟩;rw [←XM.out,←XN.out]at UL;have hK7:=PG (PG hK4 (Wg hx14)) hK6;have Adj:=(Ny.trans (Below.mono hx14 (by have:=Ny.size;omega))).trans hBl6;clear ad x0 x1 x2 x3 N5;go_wp2;go_roundw
              case rel=>exact⟨q+1,j+1,E6,by go_num,IO,Jk.out,UL,hK7,Adj⟩
              case measure=>simp [intOf];omega
             ·have GL:Iy L0 s=none:=by unfold Iy;rw [hlo];simp only;rw [if_neg (fun h=>by rw [←hz]at h;exact MB h.2)]
              have hjn:j=(DK L0 (ws.take (q+1))).length:=(by rw [LH.out,List.length_append,←HJ.out,GL];rfl);have Jk:=Anl hjn;have Z4:=PG hK4 (Wg hx14);have Zu:=Ny.trans (Below.mono hx14 (by have:=Ny.size;omega));have N5:=GH.ext hx14;clear GL hjn hlo hz;go_wp2;go_roundw
              case rel=>exact⟨q+1,j,E,by go_num,IO,Jk.out,N5,Z4,Zu⟩
              case measure=>simp [intOf];omega
          ·have hqe:q=ws.length:=(by omega);subst hqe;rw [List.take_length,Xz.out,List.length_map]at hj;subst hj;rw [List.take_length]at hN;obtain⟨RD,L9,PQ,Md⟩:=HQ.out;have Gh:=vk.out;have tQ:=L9.trans_below hBl (by rw [XX.out];exact Ano _);have sU:=hN.base XX.out;have ag:=mK (hw.ext RD) tQ sU rfl (ey DZ C0) Gh.wo Gh.gr (by rw [fK];omega) (fun e he=>by have:=SY DZ C0 e he;omega) k (by omega) Gh.lf Gh.r1 rfl rfl;rw [Gh.op]at ag;have hd:decide (ws.length<ws.length)=false:=(by simp);have BY:decide ((ws.length:Int)<(ws.length:Int))=false:=(by simp);clear Me ia osr Ej Pa hN hK hBl hS12 gw iq sQ sZ Z9 HQ
           go_upto_region 47 with fail
           (go_wp2_with fail);(with_reducible refine ag.mono ?_);rintro e w14 ⟨rfl,hx14,hN14⟩;have tO:=RD.trans hx14;have ir:=Az PQ hx14;have tA:=(hx14.block _ (Anm Md)).trans Md
           have Afl:ul=P.map (·.2):=by
            have hG:=HG.out;apply List.ext_getElem?;intro j
            rcases Nat.lt_or_ge j k with h|h
            ·rw [hG.u j h];have H7:j<P.length:=(by rw [←HN.out];exact h);simp [List.getD_eq_getElem?_getD,Ant H7]
            ·rw [List.getElem?_eq_none (by rw [hG.lu];exact h),List.getElem?_eq_none (by rw [List.length_map,←HN.out];exact h)]
           have dN:=HG.out.lu;have can:=AaF (st:=st) (pts:=pts) hw tO hN14 Gh.hz (by have:=Gh.ln;omega) Gh.rl Gh.nd Gh.no Gh.sz (by rw [fK];omega) Gh.bk (some ⟨bg+1,0,none⟩) k ul (ML (by omega) ir) (fun x hx=>by cases hx;have:=hx14.size;have:=XX.out;show bg+1<_;omega) (by omega) (fun x hx=>by rw [dN];exact Gh.lf x hx) TM.out rfl (by rw [Afl];exact HST.out);rw [dN]at can;have hpl:pts.length<=400:=(by rw [TM.out,(JO _).length_eq,List.length_map];exact Gh.ln);clear ag ir hN14 sU tQ hx14 dN;(go_wp2_with fail);(with_reducible refine can.mono ?_);rintro e w15 ⟨pA,pB,pF,pc,pd,pg,rfl,hcaps,hA15,hB15,hF15,-,hx15⟩;unfold Dz;have ZE:=(hx15.block _ (Anm tA)).trans tA;have AdA:=tO.trans hx15;have Qs:=(Aa.refl w15).alloc (.cells #[.slice pA pts.length pc,.slice pB st.ed.length pd,.slice pF st.fa.length pg] 36);have RG:=Ann w15 (.cells #[.slice pA pts.length pc,.slice pB st.ed.length pd,.slice pF st.fa.length pg] 36);have I6:=(Qs.block _ (Anm ZE)).trans ZE;have AdB:=AdA.trans Qs;have gA:=hA15.ext Qs;have gB:=hB15.ext Qs;have gF:=hF15.ext Qs;have Am3:¬(400<(pts.length:Int)):=(by omega);have Aft:=Anm ZE
           go_upto_region 51 with fail
           generalize w15.alloc (.cells #[.slice pA pts.length pc,.slice pB st.ed.length pd,.slice pF st.fa.length pg] 36)=W16 at *;obtain⟨b32,uE⟩:=Ank w15.heap.size;rw [←uE]at RG Aft ⊢;clear uE can;have m0:=Ab (o:=0) RG rfl;have m1:=Ab (o:=1) RG rfl;have m2:=Ab (o:=2) RG rfl;have r0:=Ab (o:=0) I6 rfl;have r1:=Ab (o:=1) I6 rfl;have r2:=Ab (o:=2) I6 rfl;have r3:=AO (o:=0) I6;have r4:=AO (o:=1) I6;have r5:=AO (o:=2) I6;have FR:=YA (.slice pA pts.length pc) (.slice pB st.ed.length pd) (.slice pF st.fa.length pg) I6;have bb:=(((Av.refl (fun q=>q=w.heap.size) W16).setCell (p:=⟨w.heap.size,0,none⟩) (.inl rfl) (.slice pA pts.length pc)).setCell (p:=⟨w.heap.size,1,none⟩) (.inl rfl) (.slice pB st.ed.length pd)).setCell (p:=⟨w.heap.size,2,none⟩) (.inl rfl) (.slice pF st.fa.length pg);have t1:=Ab (o:=0) FR rfl;have t2:=Ab (o:=1) FR rfl;have t3:=Ab (o:=2) FR rfl;have RB:=bb.toExt AdB (fun q e=>by subst e;exact Ano _);have fA:=iG gA bb I6 (fun j hj=>by obtain⟨s,h⟩:=rJ hj;rw [h];simp);have fB:=iG gB bb I6 (fun j hj=>by obtain⟨s,h⟩:=pX hj;rw [h];simp);have fF:=iG gF bb I6 (fun j hj=>by rw [List.getElem_map];simp);have BI:=Anl (And.intro fA (And.intro fB (And.intro fF RB)));clear gA gB gF fA fB fF bb FR I6 RB RG;go_wp2;refine bodyPost_ret (v:=.tuple #[.agg #[.slice pA pts.length pc,.slice pB st.ed.length pd,.slice pF st.fa.length pg],.int .i64 0]) (by simp [results,Tryz.results44,go_sem,t1,t2,t3]) rfl ?_;exact⟨pA,pB,pF,pc,pd,pg,rfl,hcaps,BI.out.1,BI.out.2.1,BI.out.2.2.1,rfl,BI.out.2.2.2⟩
        ·have wG:j<L0.length:=(by rw [Dp]at hj;exact hj);rw [Xk,jP]at hrun hen
         have hlen':seen.length<L0.length:=by
          have h2:(j::seen) ⊆ List.range L0.length:=by
           intro q hq
           rcases List.mem_cons.1 hq with rfl|hq
           ·simpa using wG
           ·have:=hI.lt q hq;rw [Dp]at this;simpa using this
          have:=(List.nodup_cons.2 ⟨Gn,hI.nd⟩).length_le_of_subset h2;simp at this;omega
         have LW:=hB.grown hG9 (fun q e=>by cases e;exact .inl rfl);have NG:=Anp wG;obtain⟨s,hs⟩:=Ank (L0[j].1);obtain⟨z,hz⟩:=Ank (L0[j].2);have hin:=XV.out L0[j] (by rw [←G4.out];exact NG);rw [←hs,←hz]at hin;rw [←hs,←hz]at hrun hen;obtain⟨hz0,hz1,FG⟩:=hin;obtain⟨zi,rfl⟩:∃zi:Nat,z=(zi:Int):=⟨z.toNat,by omega⟩;have hsz:Ee 200 s:=(by rw [hs];exact Jm.out _ (by rw [←G4.out];exact NG));have EA:=(Aa.refl W9).alloc (.cells #[S (R s.a.x),S (R s.a.y),S (R s.b.x),S (R s.b.y)] 155);have Aq:=Ann W9 (.cells #[S (R s.a.x),S (R s.a.y),S (R s.b.x),S (R s.b.y)] 155);have e9:=hen W9 rfl rfl;unfold As at hrun e9;have bk:=fun (V:World)=>Uk s V;have aE:=(EA.block _ (Anm ((hG9.block bl (Anm IB) (fun e=>by cases e;omega)).trans IB))).trans ((hG9.block bl (Anm IB) (fun e=>by cases e;omega)).trans IB);have rU:=LW.ext EA;have Z1:Cz (W9.alloc (.cells #[S (R s.a.x),S (R s.a.y),S (R s.b.x),S (R s.b.y)] 155)) bt bl (stamp L0) (seen ++ [j]):=OT.keep (EA.block _ (Anm OT.it));have XI:=Anl (Es hI);clear hs hz NG hen hs9
         go_upto_region 32 with fail
         unfold S at Aq EA aE rU Z1;generalize W9.alloc (.cells #[.string ⟨(R s.a.x).toArray⟩,.string ⟨(R s.a.y).toArray⟩,.string ⟨(R s.b.x).toArray⟩,.string ⟨(R s.b.y).toArray⟩] 155)=V at *;obtain⟨bx,Aw⟩:=Ank W9.heap.size;rw [←Aw]at Aq ⊢;clear Aw hrun e9 LW hG9 OT EA;have y0:=Ab (o:=0) Aq rfl;have y1:=Ab (o:=1) Aq rfl;have y2:=Ab (o:=2) Aq rfl;have y3:=Ab (o:=3) Aq rfl;have bk1:=bk V;unfold As S at bk1;(go_wp2_with fail);(with_reducible refine bk1.mono ?_);rintro e V2 ⟨rfl,hx11⟩;have Nw:=rU.ext hx11;have Kw:=Z1.keep (hx11.block _ (Anm Z1.it));have lk:=lj (AQ s) L0 (W:=V2) ((hx11.block _ (Anm aE)).trans aE);unfold As S at lk;clear bk1 bk y0 y1 y2 y3;have N6:Aa w V2:=Nw.toExt ZW (fun q e=>by subst e;omega)
         obtain⟨AmX,ip⟩:V2.ownsRow 0 3 1 (.slice (some ⟨bg,0,none⟩) k k) k (zs gl)/\V2.ownsRow 0 9 1 (.slice (some ⟨bg+1,0,none⟩) k k) k (ul.map S):=
          ⟨CB LX.og Nw (fun q hq e=>by simp only [Value.ownBlock,Ans]at hq;omega),CB LX.os Nw (fun q hq e=>by simp only [Value.ownBlock,Ans]at hq;omega)⟩
         cases hlo:lookO (AQ s) L0 with
         | none=>
          rw [hlo]at lk;simp only [Option.getD_none,Option.isSome_none]at lk;have uv:=Anl hlo;clear hlo
          go_upto_region 33 with fail
          refine Ft (by kernel_rfl) (by kernel_rfl) ?_
          repeat (go_big_quiet_step (fail))
          refine wpQuiet_nil ?_;rintro Yl ⟨q,hq⟩;have Cc:Aa V2 Yl:=hq▸q.h;have Rt:=Kw.keep (Cc.block _ (Anm Kw.it));have UB:=Nw.ext Cc;have XJ:=Anl (Es Rt);clear hq q lk Kw Nw;go_wp2;go_roundw
          case rel=>exact⟨trivial,seen ++ [j],Rt,UB⟩
          case measure=>rw [XI.out,XJ.out,List.length_append,List.length_singleton];omega
         | some u=>
          rw [hlo]at lk;simp only [Option.getD_some,Option.isSome_some]at lk;obtain⟨hu0,hu1,hne⟩:=FG u (by rw [←G4.out];exact hlo);obtain⟨ui,rfl⟩:∃ui:Nat,u=(ui:Int):=⟨u.toNat,by omega⟩;simp only [Int.toNat_natCast]at hne;have g1:=LX.u zi (by omega);have g2:=LX.u ui (by omega);obtain⟨s1,hs1⟩:=Ank ((P.getD zi ([],[])).2);obtain⟨s2,hs2⟩:=Ank ((P.getD ui ([],[])).2);rw [←hs1]at g1 hne;rw [←hs2]at g2 hne;have c1:=ip.cellAt zi (by omega);have c2:=ip.cellAt ui (by omega);rw [List.getElem?_map,g1]at c1;rw [List.getElem?_map,g2]at c2;simp only [Option.map_some]at c1 c2;have q1:∀q:Af V2,q.w.cell? ⟨bg+1,zi,none⟩=some (S s1):=Af.cell c1;have q2:∀q:Af V2,q.w.cell? ⟨bg+1,ui,none⟩=some (S s2):=Af.cell c2;have hb1:(s1 == s2)=false:=beq_false_of_ne hne;have uv:=Anl hlo;clear hlo hs1 hs2 g1 g2 c1 c2 hne FG
          go_upto_region 33 with fail
          unfold S at q1 q2;refine Ft (by kernel_rfl) (by kernel_rfl) ?_
          repeat (go_big_quiet_step (fail))
          refine wpQuiet_nil ?_;rintro Yl ⟨q,hq⟩;have Cc:Aa V2 Yl:=hq▸q.h;clear q1 q2;have Rt:=Kw.keep (Cc.block _ (Anm Kw.it));have UB:=Nw.ext Cc;have XJ:=Anl (Es Rt);clear hq q lk Kw Nw;go_wp2;go_roundw
          case rel=>exact⟨trivial,seen ++ [j],Rt,UB⟩
          case measure=>rw [XI.out,XJ.out,List.length_append,List.length_singleton];omega
end Go.Proofs.YtjalkoacphhgdaaGreatDoor
