/- K35: ShBV ShBX ShBY. -/
import Derived.Test.YtgnejnampofhoaaGreatDoorK34
import Derived.Test.YtgnejnampofhoaaGreatDoorK28
import Derived.Test.YtgnejnampofhoaaGreatDoorK33
set_option maxRecDepth 100000
set_option maxHeartbeats 16000000
namespace Go.Proofs.YtgnejnampofhoaaGreatDoor
open Go.RowKit Kl Go.Shelf
def lookO(s:Sg)(L:List (Sg×Int)):Option Int:=(L.find? (fun e=>AN s e.1)).map (·.2)
theorem AfH{α:Type}{enc:α→Value}{same:α→α→Bool}{mt kt et:TypeId}{z:Value}(K:IV mt kt et z enc same)(k:α)(l:List (α×Value×Nat)){b clock:Nat}{W:World}(hb:W.heap[b]?=some (.map (AH enc l).toArray clock)) :
  (Instr.lookup mt (.map (some b)) (enc k) true).run Tryz.prog W=.ok (.tuple #[EJ same z k l,.bool (l.find? (fun e=>same k e.1)).isSome]) W:=by
 have hf:=Qw K k l W;rw [uC]at hf;unfold EJ
 cases h:l.find? (fun e=>same k e.1)with
 | none=>
  rw [h]at hf
  have hf':(Instr.findKey kt (enc k) (AH enc l)).run Tryz.prog W=.ok none W:=by rw [hf];cases EH same k l<;>rfl
  simp [Instr.lookup,run_underlying K.map,MapKept.run_getObj_map hb,K.chk,hf',K.zero,Result.andThen]
 | some e=>
  have hi:(EH same k l).isSome:=by unfold EH;rw [List.findIdx?_isSome,List.any_eq_true];exact⟨e,List.mem_of_find?_eq_some h,(by have:=List.find?_some h;exact this)⟩
  obtain⟨j,hj⟩:=Option.isSome_iff_exists.1 hi;rw [h,hj]at hf;simp only [Option.bind_some,Option.map_some]at hf;simp [Instr.lookup,run_underlying K.map,MapKept.run_getObj_map hb,K.chk,hf,Result.andThen]
theorem AgB(s:Sg)(L:List (Sg×Int)):((stamp L).find? (fun e=>AN s e.1)).isSome=(lookO s L).isSome:=by
 unfold lookO;rw [Option.isSome_map,Bool.eq_iff_iff,List.find?_isSome,List.find?_isSome];constructor
 ·rintro⟨x,hx,h⟩;obtain⟨e,he,h1⟩:=dK hx;exact⟨e,he,by rw [←h1];exact h⟩
 ·rintro⟨e,he,h⟩;obtain⟨i,hi,rfl⟩:=List.getElem_of_mem he;have hi':i<(stamp L).length:=(by rw [D1];exact hi);exact⟨(stamp L)[i],Aj0 hi',by rw [Vz];exact h⟩
theorem yQ(s:Sg)(L:List (Sg×Int)){b:Nat}{W:World}(hb:W.heap[b]?=some (.map (AH AC (stamp L)).toArray L.length)) :
  (Instr.lookup 162 (.map (some b)) (AC s) true).run Tryz.prog W=.ok (.tuple #[.int .i64 ((lookO s L).getD 0),.bool (lookO s L).isSome]) W:=by
 rw [AfH UL s (stamp L) hb,vF,AgB]
 have:AI s L=(lookO s L).getD 0:=by
  unfold AI lookO
  cases L.find? (fun e=>AN s e.1)<;>rfl
 rw [this]
structure dY(P:List (List Pt×Bs)):Prop where
 so:gC P
 poly:∀e∈P,ML e.1
 apart:∀(i k:Nat) (hi:i<P.length) (hk:k<i),(∀j,j<(P[k]'(by omega)).1.length→KZ P[i].1 (Bz (P[k]'(by omega)).1 j)∨J9 P[i].1 (Bz (P[k]'(by omega)).1 j))/\∃j,j<(P[k]'(by omega)).1.length/\J9 P[i].1 (Bz (P[k]'(by omega)).1 j)
def Is(L0:List (Sg×Int))(s:Sg):Option (Sg×Int×Int):=match lookO (AV s) L0 with
 | none=>some (s,AI s L0,-1)
 | some u=>if AI s L0≠u/\Bd s.a s.b < 0 then some (s,AI s L0,u)else none
def DY(L0:List (Sg×Int))(ws:List Sg):List (Sg×Int×Int):=ws.filterMap (Is L0)
theorem gV{L0:List (Sg×Int)}{ws:List Sg}{k:Nat}(hk:k<ws.length):DY L0 (ws.take (k+1))=DY L0 (ws.take k)++(Is L0 ws[k]).toList:=by
 unfold DY;rw [Aj2 hk,List.filterMap_append]
 congr 1
theorem m7{L0:List (Sg×Int)}{ws:List Sg}{k:Nat}(hk:k<ws.length){x:Sg×Int×Int}(hx:Is L0 ws[k]=some x):(DY L0 ws)[(DY L0 (ws.take k)).length]?=some x:=by
 have h1:DY L0 ws=DY L0 (ws.take (k+1))++DY L0 (ws.drop (k+1)):=by unfold DY;rw [←List.filterMap_append,List.take_append_drop]
 rw [h1,gV hk,hx,List.append_assoc,List.getElem?_append_right (Ajz _),Nat.sub_self]
 rfl
theorem bL{B:Nat}{w w':World}{e:TypeId}{s n:Nat}{v:Value}{xs:List Value}{b1 b2:Nat}(h:w.ownsRow B e s v n xs)(hk:∀(k:Nat) (o:Obj),w.heap[k]?=some o→k≠b1→k≠b2→(∀cs,o≠.cells cs 27 (0,0))→w'.heap[k]?=some o)(hne:∀k,v.ownBlock=some k→k≠b1/\k≠b2)(he:e≠27):w'.ownsRow B e s v n xs:=by
 refine⟨h.1,?_⟩
 rcases h.2 with h'|⟨g,cap,cur,e1,e2,hgb,e4⟩
 ·exact .inl h'
 ·refine .inr ⟨g,cap,cur,e1,e2,hk g _ hgb ?_ ?_ (fun cs e=>he (Obj.cells.inj e).2.1),e4⟩
  ·exact(hne g (by rw [e1];rfl)).1
  ·exact(hne g (by rw [e1];rfl)).2
def PV(w w':World)(b1 b2:Nat):Prop:=∀(k:Nat) (o:Obj),w.heap[k]?=some o→k≠b1→k≠b2→(∀cs,o≠.cells cs 27 (0,0))→w'.heap[k]?=some o
theorem OX{a b d:World}{b1 b2:Nat}(h:PV a b b1 b2)(k:PV b d b1 b2):PV a d b1 b2:=fun i o h1 h2 h3 h4=>k i o (h i o h1 h2 h3 h4) h2 h3 h4
theorem UK{a b:World}{b1 b2:Nat}(hx:Ac a b):PV a b b1 b2:=fun _ _ h _ _ _=>(hx.block _ (Ajx h)).trans h
structure ME(P:List (List Pt×Bs))(n k bg bs:Nat)(gl:List Int)(ul:List Bs)(W:World):Prop where
 lg:gl.length=n
 lu:ul.length=n
 g:∀j,j<k→gl[j]?=some (j:Int)
 u:∀j,j<k→ul[j]?=some (P.getD j ([],[])).2
 og:W.ownsRow 0 3 1 (.slice (some ⟨bg,0,none⟩) n n) n (zs gl)
 os:W.ownsRow 0 9 1 (.slice (some ⟨bs,0,none⟩) n n) n (ul.map S)
theorem ME.step{P:List (List Pt×Bs)}{n k bg bs:Nat}{gl:List Int}{ul:List Bs}{W:World}(h:ME P n k bg bs gl ul W)(hk:k<n)(hne:bg≠bs) :
  ME P n (k+1) bg bs (gl.set k (k:Int)) (ul.set k (P.getD k ([],[])).2) ((W.setCell ⟨bg,k,none⟩ (.int .i64 (k:Nat))).setCell ⟨bs,k,none⟩ (S (P.getD k ([],[])).2)):=by
 have g1:=(h.og.stored k (.int .i64 (k:Nat))).1;have g2:=ownsRow_setCell_other (a:=⟨bs,k,none⟩) g1 (by simp only [Value.ownBlock,ne_eq,Aj3];exact hne) (S (P.getD k ([],[])).2);have u1:=ownsRow_setCell_other (a:=⟨bg,k,none⟩) h.os (by simp only [Value.ownBlock,ne_eq,Aj3];exact fun e=>hne e.symm) (.int .i64 (k:Nat));have u2:=(u1.stored k (S (P.getD k ([],[])).2)).1;refine⟨by rw [List.length_set];exact h.lg,by rw [List.length_set];exact h.lu,fun j hj=>?_,fun j hj=>?_,by rw [←Ah1];exact g2,by rw [List.map_set];exact u2⟩
 ·by_cases e:j=k
  ·subst e;rw [List.getElem?_set_self (by rw [h.lg];exact hk)]
  ·rw [List.getElem?_set_ne (fun e'=>e e'.symm)];exact h.g j (by omega)
 ·by_cases e:j=k
  ·subst e;rw [List.getElem?_set_self (by rw [h.lu];exact hk)]
  ·rw [List.getElem?_set_ne (fun e'=>e e'.symm)];exact h.u j (by omega)
theorem Br.base{B B':Nat}{W:World}{r b1 b2:Nat}{L:List (Sg×Int)}{E:List (Pt×Value×Nat)}{R:List (Pt×List Pt)}(h:Br B W r b1 b2 L E R)(e:B=B'):Br B' W r b1 b2 L E R:=e▸h
structure fV(pts:List Pt)(eds:List EdZ)(n:Nat)(R1:List (Pt×List Pt)):Prop where
 eo:MD pts eds
 le:eds.length<=1000
 wo:Oa ((AG pts eds).map (·.1))
 gr:∀s∈(AG pts eds).map (·.1),F7 s
 lf:∀x∈AG pts eds,-1<=x.2/\x.2<(n:Int)
 r1:R1=(BD pts eds).map (fun e=>(e.1,CV e.1 e.2))
 op:(JL (AG pts eds) n (GL ((AG pts eds).map (·.1)) R1) (J5 ((AG pts eds).map (·.1)) (GL ((AG pts eds).map (·.1)) R1))).op=false
 hz:∀e∈R1,Az 1 e.1/\∀p∈e.2,Az 1 p
 ln:R1.length<=400
 rl:∀e∈R1,e.2.length<100000
 nd:(R1.map (·.1)).Nodup
 no:∀e∈R1,∀p q,e.2 = [p,q]→AM (Ar p e.1 q)≠0
 sz:∀e∈AG pts eds,EW 1 e.1
 bk:∀e∈AG pts eds,∃e'∈AG pts eds,e'.1=AV e.1
theorem Hp{l:List EdZ}{j:Nat}(hj:j<(Au l).length):∃z,(Au l)[j]=.int .i64 z:=by
 have:=Aj0 hj;unfold Au at this;rw [List.mem_flatMap]at this;obtain⟨p,_,h⟩:=this;simp only [List.mem_cons,AjA,or_false]at h
 rcases h with h|h|h|h<;>exact⟨_,h⟩
theorem BV{w w':World}{A:Option Addr}{l:List Value}{b:Nat}{a0 a1 a2:Value}{t:TypeId}(h:Ae w A l)(hb:Ax (fun q=>q=b) w w')(hm:w.heap[b]?=some (.cells #[a0,a1,a2] t))(hne:∀(j:Nat) (hj:j<l.length),l[j]≠a0/\l[j]≠a1/\l[j]≠a2):Ae w' A l:=by
 refine⟨fun h0=>?_⟩;obtain⟨g,o,e,hc⟩:=h.ad h0;refine⟨g,o,e,fun j hj=>?_⟩;have h1:=hc j hj;refine(World.cell?_of_block (a:=⟨g,o+j,none⟩) (hb.block g (World.block_lt_of_cell? w _ h1) (fun e'=>?_))).trans h1;subst e';have h2:=ry hm h1;obtain⟨n1,n2,n3⟩:=hne j hj
 match hn:o+j with
 | 0=>rw [hn]at h2;exact n1 (by simpa using h2.symm)
 | 1=>rw [hn]at h2;exact n2 (by simpa using h2.symm)
 | 2=>rw [hn]at h2;exact n3 (by simpa using h2.symm)
 | n+3=>rw [hn]at h2;simp at h2
def JF(w:World)(m:MapZ)(A8:List Bs)(e:Ending)(w':World):Prop:=
 ∃A Bk F c d g,e=.returned (.tuple #[As A Bk F m c d g,.int .i64 0])/\Bj m c d g/\Ae w' A (flat (Ai m.pts))/\Ae w' Bk (Au m.eds)/\Ae w' F (A8.map S)/\m.nf=A8.length/\Ac w w'
theorem r6(P:List (List Pt×Bs))(hP:dY P)(D6:0<P.length)(ZJ:∀e∈BF P P.length,0<=e.2/\e.2<(P.length:Int)/\∀z,lookO (AV e.1) (BF P P.length)=some z→0<=z/\z<(P.length:Int)/\(P.getD e.2.toNat ([],[])).2≠(P.getD z.toNat ([],[])).2)(IE:∀e∈BF P P.length,EW 1 e.1)(Ed:(BF P P.length).length<=10000){Ef:List Pt}{CJ:List EdZ}(hadd:DY (BF P P.length) (BB ((BF P P.length).map (·.1)))=CJ.map (fun e=>(Be Ef e,e.l,e.r))){R1:List (Pt×List Pt)}(GW:fV Ef CJ P.length R1){pts:List Pt}(K3:pts=Eh (R1.map (·.1))){st:Fy}(hst:st=GH (P.map (·.2)) (BR pts) (AG Ef CJ) (BB ((AG Ef CJ).map (·.1))))(A:Option Addr)(c:Nat)(w:World)(hw:Ao w)(h:MK w A c P) :
  Calls Tryz.prog 50 #[.slice A P.length c] w (JF w ⟨pts,st.ed,st.fa.length⟩ st.fa):=by
 have hmm:=@run_makeMap Tryz.prog;have hlen:P.length<=1000:=hP.so.len;have hc1:=h.c1;have hc2:=h.c2;have HP:=Ajw hP;have HA:=Ajw h;obtain⟨n,hn⟩:=Ajv P.length;rw [←hn]at hlen hc1 D6 ZJ IE Ed hadd GW ⊢;have ew:=Ajw hadd;have jo:=Ajw GW;have SJ:=Ajw GW.eo;have SN:=Ajw K3;have HST:=Ajw hst;have hel:=GW.le;have IT:=Ajw Ed;have Wm:=Ajw ZJ;have Iq:=Ajw IE;have HN:=Ajw hn;have E1:=(Ac.refl w).alloc (.cells #[.slice none 0 0,.slice none 0 0,.slice none 0 0] 35);have hbr:=Ajy w (.cells #[.slice none 0 0,.slice none 0 0,.slice none 0 0] 35);clear hP h hn ZJ IE Ed hadd GW K3 hst;go_enter Tryz.func50,Tryz.ntmps50
 go_upto_region 4 with fail
 generalize w.alloc (.cells #[.slice none 0 0,.slice none 0 0,.slice none 0 0] 35)=W1 at *;have hl0:(0:Int)<=(n:Int):=by omega
 go_loopw [39] (fun iv wr=>∃k:Nat,iv=.int .i64 (k:Nat)/\k<=n/\Ac W1 wr) (fun iv _=>n-(intOf iv).toNat)
 case atStart=>exact⟨0,rfl,by omega,Ac.refl _⟩
 case round=>
  obtain⟨k,rfl,hk,hX⟩:=hrel;by_cases hkn:k<n
  ·have OF:k<P.length:=(by rw [←HN.out];exact hkn);obtain⟨bA,oA,A',c',rfl,Bc,Bu,BN,Bi,hr1,hr2⟩:=HA.out.row k OF;have Cf:=E1.trans hX;replace Bc:=Cf.cellS Bc;replace Bu:=Cf.cellS Bu;replace BN:=Cf.cellS BN;have hk0:(0:Int)<=(k:Int):=(by omega);have Dn:(k:Int)<(n:Int):=(by omega);have IB:=HP.out.poly _ (Aj0 OF);have hsz:=HP.out.so.sz _ (Aj0 OF);obtain⟨pg,Et⟩:=Ajv (P[k].1);obtain⟨un,AQ⟩:=Ajv (P[k].2);rw [←Et]at Bc Bi hr1 IB hsz;rw [←AQ]at Bu;have EA:=(Ac.refl wr).alloc (.cells #[.slice A' pg.length c',S un,.slice none 0 0] 111);have Av:=Ajy wr (.cells #[.slice A' pg.length c',S un,.slice none 0 0] 111);have ck:=bS pg IB hsz (by omega) (by omega) A' c' _ (hw.ext (Cf.trans EA)) (Bi.ext (Cf.trans EA)) hr1 hr2;have y0:=Aa (o:=0) Av rfl;clear Et AQ IB hsz;(go_wp2_with fail);(with_reducible refine ck.mono ?_);rintro e w2 ⟨rfl,hx2⟩;go_wp2;go_roundw
   case rel=>exact⟨k+1,by go_num,hkn,(hX.trans EA).trans hx2⟩
   case measure=>simp [intOf];omega
  ·have CP:k=n:=(by omega);subst CP;have hd:decide (k<k)=false:=(by simp);have C9:decide ((k:Int)<(k:Int))=false:=by simp
   go_upto_region 11 with fail
   obtain⟨W2,rfl⟩:=aP hX;have Ce:=E1.trans hX;have hR2:=(hX.block _ (Ajx hbr)).trans hbr;clear hX hd C9 E1 hbr
   go_loopw [53] (fun iv wr=>∃i:Nat,iv=.int .i64 (i:Nat)/\i<=k/\Ac W2 wr) (fun iv _=>k-(intOf iv).toNat)
   case atStart=>exact⟨0,rfl,by omega,Ac.refl _⟩
   case round=>
    obtain⟨i,rfl,hi,hX⟩:=hrel;have Cf:=Ce.trans hX;by_cases hin:i<k
    ·have Md:i<P.length:=(by rw [←HN.out];exact hin);obtain⟨bA,oA,A',c',rfl,Bc,Bu,BN,Bi,hr1,hr2⟩:=HA.out.row i Md;replace Bc:=Cf.cellS Bc;replace Bu:=Cf.cellS Bu;replace BN:=Cf.cellS BN;have Jp:(0:Int)<=(i:Int):=(by omega);have Nu:(i:Int)<(k:Int):=(by omega);have IB:=HP.out.poly _ (Aj0 Md);have hsz:=HP.out.so.sz _ (Aj0 Md);have hap:=fun q (hq:q<i)=>HP.out.apart i q Md hq;obtain⟨pg,Et⟩:=Ajv (P[i].1);obtain⟨un,AQ⟩:=Ajv (P[i].2);rw [←Et]at Bc Bi hr1 IB hsz hap;rw [←AQ]at Bu;have EA:=(Ac.refl wr).alloc (.cells #[.slice A' pg.length c',S un,.slice none 0 0] 111);have Av:=Ajy wr (.cells #[.slice A' pg.length c',S un,.slice none 0 0] 111);have fg:=Ajw hap;clear Et AQ hap
     go_upto_region 14 with fail
     unfold S at Av EA;generalize wr.alloc (.cells #[.slice A' pg.length c',.string ⟨un.toArray⟩,.slice none 0 0] 111)=W3 at *;obtain⟨b8,FI⟩:=Ajv wr.heap.size;rw [←FI]at Av ⊢;clear FI Bc Bu BN;have BJ:=hX.trans EA;have BL:=Ce.trans BJ;have y0:=Aa (o:=0) Av rfl;clear EA hX Av
     go_loopw [62] (fun jv wj=>∃j:Nat,jv=.int .i64 (j:Nat)/\j<=i/\Ac W3 wj) (fun jv _=>i-(intOf jv).toNat)
     case atStart=>exact⟨0,rfl,by omega,Ac.refl _⟩
     case round=>
      obtain⟨j,rfl,hj,O4⟩:=hrel;have O5:=BL.trans O4;by_cases Gt:j<i
      ·have H8:j<P.length:=(by omega);obtain⟨bB,oB,B',d',he,Bc,Bu,BN,sV,hs1,hs2⟩:=HA.out.row j H8;simp only [Aj3,Addr.mk.injEq,and_true]at he;obtain⟨rfl,rfl⟩:=he;replace Bc:=O5.cellS Bc;replace Bu:=O5.cellS Bu;replace BN:=O5.cellS BN;have hj0:(0:Int)<=(j:Int):=(by omega);have Ku:(j:Int)<(i:Int):=(by omega);obtain⟨WH,WI⟩:=fg.out j Gt;have Z4:=HP.out.poly _ (Aj0 H8);have RE:=HP.out.so.sz _ (Aj0 H8);obtain⟨qg,sR⟩:=Ajv (P[j].1);obtain⟨un,AQ⟩:=Ajv (P[j].2);rw [←sR]at Bc sV hs1 Z4 RE WH WI;rw [←AQ]at Bu;have EA:=(Ac.refl wr).alloc (.cells #[.slice B' qg.length d',S un,.slice none 0 0] 111);have Av:=Ajy wr (.cells #[.slice B' qg.length d',S un,.slice none 0 0] 111);have it:=AcI pg qg IB Z4 hsz RE WH WI A' B' c' d' _ (hw.ext (O5.trans EA)) (Bi.ext (O5.trans EA)) (sV.ext (O5.trans EA)) hr1 hr2 hs1 hs2;have z0:=Aa (o:=0) Av rfl;have z1:=EA.cellS (O4.cellS y0);clear sR AQ WH WI Z4 RE;(go_wp2_with fail);(with_reducible refine it.mono ?_);rintro e w2 ⟨rfl,hx2⟩;go_wp2;go_roundw
       case rel=>exact⟨j+1,by go_num,Gt,(O4.trans EA).trans hx2⟩
       case measure=>simp [intOf];omega
      ·have Jr:j=i:=(by omega);subst Jr;go_wp2;go_roundw
       case rel=>exact⟨j+1,by go_num,hin,BJ.trans O4⟩
       case measure=>simp [intOf];omega
    ·have Rk:i=k:=(by omega);subst Rk;have hd:decide (i<i)=false:=(by simp);have C9:decide ((i:Int)<(i:Int))=false:=(by simp);have ps:=fun (V:World) (hV:Ac w V)=>AeP P HP.out.so A c V (hw.ext hV) (HA.out.ext hV);rw [←HN.out]at ps;have p1:=ps wr Cf;(go_wp2_with fail);(with_reducible refine p1.mono ?_);rintro e w4 ⟨bl,rfl,hML,hbl,Aq⟩;have Hv:=Cf.trans Aq;have Aid:w.heap.size<=bl:=(by have:=Cf.size;omega);have TW:=((hX.trans Aq).block _ (Ajx hR2)).trans hR2;clear ps p1 hR2 Ce hX Aq Cf hd C9;have mki:=vN i (by omega) (i:Int) rfl w4;have E5:=(Ac.refl w4).alloc (.cells (madeCells #[.int .i64 0] i) 3);have mks:=AdA i (by omega) (i:Int) rfl (w4.alloc (.cells (madeCells #[.int .i64 0] i) 3))
     go_upto_region 25 with fail
     have og:=wS w4 0 i (Nat.zero_le _) (by omega);have os:=Ae1 (w4.alloc (.cells (madeCells #[.int .i64 0] i) 3)) 0 i (Nat.zero_le _) (by omega);rw [Aj6]at os;have E6:=E5.alloc (.cells (madeCells #[S []] i) 9);have aY:=A9 og ((Ac.refl (w4.alloc (.cells (madeCells #[.int .i64 0] i) 3))).alloc (.cells (madeCells #[S []] i) 9));have Fg:=hML.ext E6;have LL:=(E6.block _ (Ajx TW)).trans TW;have LQ:=Hv.trans E6;have sZ:((w4.alloc (.cells (madeCells #[.int .i64 0] i) 3)).alloc (.cells (madeCells #[S []] i) 9)).heap.size=w4.heap.size+2:=(by simp only [Aj6]);obtain⟨bg,hbg⟩:=Ajv w4.heap.size;rw [←hbg]at aY os sZ ⊢;have AaQ:=Ajx hML;have hRl:=Ajx TW;generalize (w4.alloc (.cells (madeCells #[.int .i64 0] i) 3)).alloc (.cells (madeCells #[S []] i) 9)=W6 at *;have nK:ME P i 0 bg (bg+1) (zn (List.replicate i 0)) (List.replicate i []) W6:=⟨by simp [zn],by simp,fun j hj=>by omega,fun j hj=>by omega,aY,os⟩;have AhZ:w.heap.size<bg:=(by omega);have Aib:bl<bg:=(by omega);clear mki mks og os aY E5 E6 hML TW Hv hbg sZ AaQ hRl hbl
     go_loopw [89] (fun kv wk=>∃(k:Nat) (gl:List Int) (ul:List Bs),kv=.int .i64 (k:Nat)/\k<=i/\ME P i k bg (bg+1) gl ul wk/\Ax (fun q=>q=bg∨q=bg+1) W6 wk) (fun kv _=>i-(intOf kv).toNat)
     case atStart=>exact⟨0,_,_,rfl,by omega,nK,Ax.refl _ _⟩
     case round=>
      obtain⟨k,gl,ul,rfl,hk,hG,hB⟩:=hrel;have Cf:Ac w wr:=hB.toExt LQ (fun q e=>by rcases e with e|e<;>omega);by_cases hkn:k<i
      ·have OF:k<P.length:=(by rw [←HN.out];exact hkn);obtain⟨bA,oA,A',c',rfl,Bc,Bu,BN,Bi,hr1,hr2⟩:=HA.out.row k OF;replace Bc:=Cf.cellS Bc;replace Bu:=Cf.cellS Bu;replace BN:=Cf.cellS BN;have hk0:(0:Int)<=(k:Int):=(by omega);have Dn:(k:Int)<(i:Int):=(by omega);obtain⟨pg,Et⟩:=Ajv (P[k].1);obtain⟨un,AQ⟩:=Ajv (P[k].2);have hgd:(P.getD k ([],[])).2=un:=(by rw [AQ];simp [List.getD_eq_getElem?_getD,Aj4 OF]);rw [←Et]at Bc;rw [←AQ]at Bu;have EA:=(Ac.refl wr).alloc (.cells #[.slice A' pg.length c',S un,.slice none 0 0] 111);have Av:=Ajy wr (.cells #[.slice A' pg.length c',S un,.slice none 0 0] 111);have Nb:ME P i k bg (bg+1) gl ul (wr.alloc (.cells #[.slice A' pg.length c',S un,.slice none 0 0] 111)):=⟨hG.lg,hG.lu,hG.g,hG.u,A9 hG.og EA,A9 hG.os EA⟩;have EB:=hB.ext EA;clear Et AQ
       go_upto_region 27 with fail
       unfold S at Av EA Nb EB;generalize wr.alloc (.cells #[.slice A' pg.length c',.string ⟨un.toArray⟩,.slice none 0 0] 111)=W3 at *;obtain⟨b8,FI⟩:=Ajv wr.heap.size;rw [←FI]at Av ⊢
       have AhX:bg+1<b8:=by obtain⟨cu,YJ⟩:=aX hG.os;have:=Ajx YJ;omega
       have y1:=Aa (o:=1) Av rfl;have FP:∃z,gl[k]?=some z:=⟨_,Aj4 (by rw [hG.lg];exact hkn)⟩;have UC:∃z,ul[k]?=some z:=⟨_,Aj4 (by rw [hG.lu];exact hkn)⟩;obtain⟨zg,FP⟩:=FP;obtain⟨zu,UC⟩:=UC;have c1:W3.cell? ⟨bg,k,none⟩=some (.int .i64 zg):=(by rw [Nb.og.cellAt k (by omega)];simp [zs,FP]);have c2:W3.cell? ⟨bg+1,k,none⟩=some (S zu):=(by rw [Nb.os.cellAt k (by omega)];simp [UC]);have f1:=Nb.og.frozenAt k;have f2:=Nb.os.frozenAt k;have Gg:=Nb.step hkn (by omega);rw [hgd]at Gg;have NR:=Ajw Gg;have fk:=Ajw EB;unfold S at y1 c2;have Zs:bg≠bg+1:=(by omega);have Ia:b8≠bg:=(by omega);have Ai7:b8≠bg+1:=(by omega);clear FI Nb Gg EB hG hB FP UC hgd Bc Bu BN EA Av Cf
       go_region
       go_wp2;go_roundw
       case rel=>exact⟨k+1,_,_,by go_num,hkn,⟨NR.out.lg,NR.out.lu,NR.out.g,NR.out.u,A9 NR.out.og (Ac.refl _).drew,A9 NR.out.os (Ac.refl _).drew⟩,((fk.out.setCell (p:=⟨bg,k,none⟩) (.inl (.inl rfl)) _).setCell (p:=⟨bg+1,k,none⟩) (.inl (.inr rfl)) _).ext (Ac.refl _).drew⟩
       case measure=>simp [intOf];omega
      ·have CP:k=i:=(by omega);subst CP;have hd:decide (k<k)=false:=(by simp);have C9:decide ((k:Int)<(k:Int))=false:=(by simp);have CL:Ek wr bl (BF P k):=(hB.block _ (Ajx Fg) (fun e=>by rcases e with e|e<;>omega)).trans Fg;have Yj:=(hB.block _ (Ajx LL) (fun e=>by rcases e with e|e<;>omega)).trans LL;clear hB Fg LL LQ nK;obtain⟨L0,XT⟩:=Ajv (BF P k);rw [←XT]at CL;unfold Ek at CL;have hrg:=CG.range (enc:=AC) (E:=stamp L0) (t:=162) Tryz.underlying162 (W:=wr) (b:=bl) (by rw [D1];exact CL);obtain⟨hr1,hr2⟩:=hrg;have E8:=(Ac.refl wr).alloc (.mapIter (some bl) (stamp L0).length #[] (stamp L0).length);have QE:=(E8.block _ (Ajx CL)).trans CL;have Y2:=Cf.trans E8;have Yk:=(E8.block _ (Ajx Yj)).trans Yj;have LF:ME P k k bg (bg+1) gl ul (wr.alloc (.mapIter (some bl) (stamp L0).length #[] (stamp L0).length)):=⟨hG.lg,hG.lu,hG.g,hG.u,A9 hG.og E8,A9 hG.os E8⟩;have AaR:=Ajx CL;obtain⟨cu7,qG⟩:=aX hG.os;have Abj:=Ajx qG;have Io:=Ajw XT;clear XT hG Yj Cf E8 hd C9
       go_upto_region 30 with fail
       clear hr1 CL;obtain⟨bt,FK⟩:=Ajv wr.heap.size;rw [←FK]at hr2 ⊢;generalize wr.alloc (.mapIter (some bl) (stamp L0).length #[] (stamp L0).length)=W8 at *;have Aic:bl<bt:=(by omega);have H7:bg+1<bt:=(by omega);clear FK AaR qG Abj
       go_loopw [106] (fun v wx=>v=v/\∃seen,CG wx bt bl (stamp L0) seen/\Ax (fun q=>q=bt) W8 wx) (fun _ wx=>L0.length-(wx.iterSeen bt).size)
       case atStart=>exact⟨rfl,[],hr2,Ax.refl _ _⟩
       case round=>
        obtain⟨-,seen,hI,hB⟩:=hrel;have I4:=(hB.block bl (Ajx QE) (by omega)).trans QE;have YD:=I4;rw [←D1]at YD;have Hw:Ac w wr:=hB.toExt Y2 (fun q e=>by subst e;omega)
        rcases CG.next AC hI YD (dJ L0) (by omega) 0 with⟨hlen,hrun⟩|⟨j,hj,Gu,W9,Ox,hG9,hs9,hrun,hen⟩
        ·have VU:=Ajw hlen
         obtain⟨wE,Pi⟩:wr.ownsRow 0 3 1 (.slice (some ⟨bg,0,none⟩) k k) k (zs gl)/\wr.ownsRow 0 9 1 (.slice (some ⟨bg+1,0,none⟩) k k) k (ul.map S):=
          ⟨Bw LF.og hB (fun q hq e=>by simp only [Value.ownBlock,Aj3]at hq;omega),Bw LF.os hB (fun q hq e=>by simp only [Value.ownBlock,Aj3]at hq;omega)⟩
         have TY:=Ajx Yk;have LM:=(hB.block _ TY (by omega)).trans Yk;have HG:=Ajw LF;have em:=lN wr;have en:=@lM wr
         have eb:Ac wr (MU wr):=((Ac.refl wr).alloc _).alloc _ |>.alloc _
         clear hlen hB hI Yk Y2 QE LF YD hr2
         go_upto_region 35 with fail
         clear hrun;generalize MU wr=V0 at *;obtain⟨wb,ZQ⟩:=Ajv wr.heap.size;rw [←ZQ]at em en;have AiQ:w.heap.size<=wb:=by have:=Hw.size;omega
         have AhY:bg+1<wb:=by obtain⟨cu,YJ⟩:=aX Pi;have:=Ajx YJ;omega
         have Aia:bl<wb:=(by have:=Ajx I4;omega);have hRb:w.heap.size<wb:=(by have:=Ajx LM;omega);have Wo:=Ajw ZQ;clear ZQ;(go_wp2_with fail);(with_reducible refine em.mono ?_);rintro e w10 ⟨rfl,hw10⟩;rw [hw10];clear hw10 em;have QP:=Hw;have LP:=Hw.trans eb;have XY:=(eb.block _ (Ajx I4)).trans I4;have kw:=fun W=>aF (some bl) W;have Lj:=(Ac.refl V0).alloc (.cells #[.map (some bl)] 162);have C2:=Ajy V0 (.cells #[.map (some bl)] 162);have QD:=(Lj.block _ (Ajx XY)).trans XY;have sk:=dF hw (LP.trans Lj) V0.heap.size bl L0 (Ajx C2) (Aa C2 rfl) QD (fun e he=>Iq.out e (by rw [←Io.out];exact he)) (by have:=IT.out;rw [←Io.out]at this;omega);obtain⟨ws,KD⟩:=Ajv (BB (L0.map (·.1)));have hwl:ws.length=L0.length:=(by rw [KD,(IL _).length_eq];simp);rw [←KD,←hwl]at sk;have AiS:ws.length<=10000:=(by have:=IT.out;rw [←Io.out]at this;omega);have Ls:=Ajw KD;clear KD hwl;(go_wp2_with fail);(with_reducible refine(kw _).mono ?_);rintro e w11 ⟨rfl,rfl⟩;(go_wp2_with fail);(with_reducible refine sk.mono ?_);rintro e DW ⟨sv,rfl,hS12,hE12⟩;obtain⟨sA,sc,rfl,-,-,-⟩:=Ae.of_own' (by omega) hS12;have SB:=Lj.trans hE12;have AaG:=LP.trans SB;have Lk:=eb.trans SB;have Yc:=en.ext SB;have wC:=A9 wE Lk;have wP:=A9 Pi Lk;have nN:=(Lk.block _ (Ajx I4)).trans I4;have oG:=(Lk.block _ (Ajx LM)).trans LM;have hVl:wb+3<=V0.heap.size:=(by have:=Ajx en.cell;omega);have HQ:=Ajw (And.intro QP (And.intro Lk (And.intro Pi LM)));clear kw sk C2 QD XY LP eb en I4 LM wE Pi Lj hE12 SB Lk Hw QP;have AiR:(0:Int)<=(ws.length:Int):=by omega
         go_upto_region 37 with fail
         have hadd:DY L0 ws=CJ.map (fun e=>(Be Ef e,e.l,e.r)):=(by rw [Ls.out,Io.out];exact ew.out);have TG:wb<=DW.heap.size:=(by have:=Ajx Yc.cell;omega);have hrb:wb<=wb+2:=(by omega);have VI:=Ajw hadd
         have Wq:=Ajw (show ∀s∈ws,∃e∈L0,e.1=s from fun s hs=>by
          rw [Ls.out]at hs;obtain⟨e,he,h1⟩:=List.mem_map.1 ((IL _).mem_iff.1 hs)
          exact⟨e,he,h1⟩)
         clear hadd
         go_loopw [143] (fun kv wk=>∃(q j:Nat) (E:List (Pt×Value×Nat)),kv=.int .i64 (q:Nat)/\q<=ws.length/\j=(DY L0 (ws.take q)).length/\Br wb wk (wb+2) wb (wb+1) (AG Ef (CJ.take j)) E (BD Ef (CJ.take j))/\PV DW wk wb (wb+1)/\Below wb DW wk) (fun kv _=>ws.length-(intOf kv).toNat)
         case atStart=>exact⟨0,0,[],rfl,by omega,rfl,by simpa [AG,BD]using Yc,fun _ _ h _ _ _=>h,Below.refl _ _⟩
         case round=>
          obtain⟨q,j,E,rfl,hq,hj,hN,hK,hBl⟩:=hrel;have LN:=bL hS12 hK (fun k hk=>by have:=(hS12.lt k hk).1;rw [Aj6]at this;omega) (by decide);have wF:=bL wC hK (fun k hk=>by simp only [Value.ownBlock,Aj3]at hk;omega) (by decide);have osr:=bL wP hK (fun k hk=>by simp only [Value.ownBlock,Aj3]at hk;omega) (by decide);have Ep:=hK bl _ nN (by omega) (by omega) (fun cs e=>by cases e);have O1:=hK _ _ oG (by omega) (by omega) (fun cs e=>by simp only [Obj.cells.injEq]at e;exact absurd e.2.1 (by decide));have BQ:Ac w wr:=AaG.trans_below hBl (by omega);by_cases Mn:q<ws.length
          ·obtain⟨b,o,rfl,f1,f2,f3,f4⟩:=J4 (M1 (by omega) LN) Mn;obtain⟨e1,Kp,Kq⟩:=Wq.out _ (Aj0 Mn);have ZK:=Wm.out e1 (by rw [←Io.out];exact Kp);have hsz:=Iq.out e1 (by rw [←Io.out];exact Kp);rw [←Io.out]at ZK;obtain⟨e2,H5,hf2⟩:=UO (s:=ws[q]) (L:=L0) (by rw [←Kq];exact List.mem_map_of_mem Kp);have hfr:=Wm.out e2 (by rw [←Io.out];exact H5);rw [←hf2]at hfr;rw [Kq]at hsz;have tI:∀z,lookO (AV ws[q]) L0=some z→0<=z/\z<(k:Int):=fun z hz=>(by have:=ZK.2.2 z (by rw [Kq];exact hz);exact⟨this.1,this.2.1⟩);replace hfr:0<=AI ws[q] L0/\AI ws[q] L0<(k:Int):=⟨hfr.1,hfr.2.1⟩;clear ZK;have Ic:=gV (L0:=L0) Mn;have H7:=fun x hx=>m7 (L0:=L0) (x:=x) Mn hx;rw [←hj]at H7;obtain⟨s,hs⟩:=Ajv (ws[q]);rw [←hs]at f1 f2 f3 f4 tI hsz hfr Ic H7;obtain⟨fi,Dy⟩:∃fi:Nat,AI s L0=(fi:Int):=⟨(AI s L0).toNat,by omega⟩;have Lr:=Ajw Ic;have Ln:=Ajw H7;have HJ:=Ajw hj;have Bc:(0:Int)<=(q:Int):=(by omega);have Bu:(q:Int)<(ws.length:Int):=(by omega);have EA:=(Ac.refl wr).alloc (.cells #[S (R s.a.x),S (R s.a.y),S (R s.b.x),S (R s.b.y)] 175);have Av:=Ajy wr (.cells #[S (R s.a.x),S (R s.a.y),S (R s.b.x),S (R s.b.y)] 175);clear hs Kq Kp e1 H5 hf2 Ic H7 hj
           go_upto_region 39 with fail
           unfold S at Av EA;generalize wr.alloc (.cells #[.string ⟨(R s.a.x).toArray⟩,.string ⟨(R s.a.y).toArray⟩,.string ⟨(R s.b.x).toArray⟩,.string ⟨(R s.b.y).toArray⟩] 175)=V at *;obtain⟨bx,AO⟩:=Ajv wr.heap.size;rw [←AO]at Av ⊢;clear AO f1 f2 f3 f4;have y0:=Aa (o:=0) Av rfl;have y1:=Aa (o:=1) Av rfl;have y2:=Aa (o:=2) Av rfl;have y3:=Aa (o:=3) Av rfl;have bk1:=Ts s V;unfold AC S at bk1;(go_wp2_with fail);(with_reducible refine bk1.mono ?_);rintro e V2 ⟨rfl,DR⟩;have BJ:=EA.trans DR;have Ng:=(BJ.block _ (Ajx Ep)).trans Ep;have lk:=yQ (AV s) L0 (W:=V2) Ng;have Jv:=M7 s L0 (W:=V2) Ng;rw [Dy]at Jv;have ogV:=A9 wF BJ;have LU:=(DR.block _ (Ajx Av)).trans Av;have z0:=Aa (o:=0) LU rfl;have z1:=Aa (o:=1) LU rfl;have z2:=Aa (o:=2) LU rfl;have z3:=Aa (o:=3) LU rfl;have hG:=HG.out;have CN:fi<k:=(by omega);unfold AC S at lk Jv;clear bk1 y0 y1 y2 y3 Av;have rt:=fun (x:Nat) (hx:x<k) (V3:World) (h3:Ac V2 V3)=>Af8 (l:=gl) (k:=x) (c:=k) (by rw [hG.lg];exact hx) (by have:=hG.g x hx;rw [Aj4 (by rw [hG.lg];exact hx)]at this;exact Option.some.inj this) (M1 (by omega) (A9 ogV h3));rw [hG.lg]at rt
           cases hlo:lookO (AV s) L0 with
           | none=>
            rw [hlo]at lk;simp only [Option.getD_none,Option.isSome_none]at lk;have GP:Is L0 s=some (s,(fi:Int),-1):=(by unfold Is;rw [hlo,Dy]);have Nt:=Ln.out _ GP;rw [VI.out,List.getElem?_map]at Nt;obtain⟨e0,GR,Re⟩:=Option.map_eq_some_iff.1 Nt;simp only [Prod.mk.injEq]at Re;obtain⟨Iw,MR,MS⟩:=Re
            have AP:j<CJ.length:=by
             rcases Nat.lt_or_ge j CJ.length with h|h
             ·exact h
             ·rw [List.getElem?_eq_none h]at GR;cases GR
            have Ko:CJ[j]=e0:=(by rw [Aj4 AP]at GR;exact Option.some.inj GR);have DL:=SJ.out.keys AP;have Rv:=SJ.out.ne _ (Aj0 AP);rw [Ko,Iw]at DL Rv
            have QG:AG Ef (CJ.take (j+1))=AG Ef (CJ.take j) ++ [(s,(fi:Int)),(AV s,-1)]:=by rw [Aj2 AP,UV,Ko,Iw,MR,MS]
            have QH:BD Ef (CJ.take (j+1))=CZ (CZ (BD Ef (CJ.take j)) s.a s.b) s.b s.a:=by rw [Aj2 AP,UW,Ko,Iw]
            have hrl:=Pe Ef (CJ.take j);have hjn:j+1=(DY L0 (ws.take (q+1))).length:=(by rw [Lr.out,List.length_append,←HJ.out,GP];rfl);have Wc:=Ajw QG;have Wd:=Ajw QH;have IS:=Ajw hjn;clear hlo GP Nt GR Ko Iw MR MS QG QH hjn;have r1:=rt fi CN
            go_upto_region 43 with fail
            have r2:=r1 V2 (Ac.refl _);(go_wp2_with fail);(with_reducible refine r2.mono ?_);rintro e V3 ⟨rfl,hx13⟩;have Gh:=hN.ext (BJ.trans hx13);have AhV:=BQ.trans (BJ.trans hx13);have hb3:wb<=V3.heap.size:=(by have:=Ajx Gh.cell;omega);have ad:=WF Gh hb3 s (fi:Int) (-1) DL.1 DL.2 Rv (fun e he=>by have:=hrl e he;rw [List.length_take]at this;omega);have hb4:=(hx13.block _ (Ajx LU)).trans LU;have x0:=Aa (o:=0) hb4 rfl;have x1:=Aa (o:=1) hb4 rfl;have x2:=Aa (o:=2) hb4 rfl;have x3:=Aa (o:=3) hb4 rfl;have YQ:¬((fi:Int) = -1):=(by omega);have hf2:((fi:Int) == -1)=false:=beq_false_of_ne YQ;have hf3:((fi:Int) != -1)=true:=(by rw [bne,hf2];rfl);unfold AC S at ad;clear r1 r2 rt lk Jv z0 z1 z2 z3;(go_wp2_with fail);(with_reducible refine ad.mono ?_);rintro e V4 ⟨rfl,MY,hK4,E4,GN⟩;rw [←Wc.out,←Wd.out]at GN;have XS:=OX hK (OX (UK (BJ.trans hx13)) hK4);have XK:=hBl.trans ((Below.mono (BJ.trans hx13) (by have:=hBl.size;omega)).trans MY);clear ad x0 x1 x2 x3 Gh;go_wp2;go_roundw
            case rel=>exact⟨q+1,j+1,E4,by go_num,Mn,IS.out,GN,XS,XK⟩
            case measure=>simp [intOf];omega
           | some u=>
            rw [hlo]at lk;simp only [Option.getD_some,Option.isSome_some]at lk;obtain⟨hu0,hu1⟩:=tI u hlo;obtain⟨ui,rfl⟩:∃ui:Nat,u=(ui:Int):=⟨u.toNat,by omega⟩;have If:ui<k:=(by omega);have r1:=rt ui If;have yA:=rt fi CN;have Pl:=fun (V3:World) (h3:Ac w V3)=>Ih s.a s.b hsz.a hsz.b (by omega) (by omega) V3 (hw.ext h3)
            go_upto_region 42 with fail
            have r2:=r1 V2 (Ac.refl _);(go_wp2_with fail);(with_reducible refine r2.mono ?_);rintro e V3 ⟨rfl,Cm⟩;have aJ:=M7 s L0 (W:=V3) ((Cm.block _ (Ajx Ng)).trans Ng);rw [Dy]at aJ;have w0:=Cm.cellS z0;have w1:=Cm.cellS z1;have w2:=Cm.cellS z2;have w3:=Cm.cellS z3;unfold AC S at aJ;clear r2 r1 lk Jv z0 z1 z2 z3;have r3:=yA V3 Cm;(go_wp2_with fail);(with_reducible refine r3.mono ?_);rintro e V4 ⟨rfl,hx13⟩;have QO:=BJ.trans (Cm.trans hx13);have AaJ:=BQ.trans QO;have hb4:=((Cm.trans hx13).block _ (Ajx LU)).trans LU;have x0:=Aa (o:=0) hb4 rfl;have x1:=Aa (o:=1) hb4 rfl;have x2:=Aa (o:=2) hb4 rfl;have x3:=Aa (o:=3) hb4 rfl;have hK4:=OX hK (UK QO);have MY:=hBl.trans (Below.mono QO (by have:=hBl.size;omega));have GN:=hN.ext QO;clear r3 yA rt aJ w0 w1 w2 w3;by_cases qS:fi=ui
            ·subst qS;have GP:Is L0 s=none:=(by unfold Is;rw [hlo,Dy];simp);have hjn:j=(DY L0 (ws.take (q+1))).length:=(by rw [Lr.out,List.length_append,←HJ.out,GP];rfl);have IS:=Ajw hjn;clear GP hjn hlo Pl;go_wp2;go_roundw
             case rel=>exact⟨q+1,j,E,by go_num,Mn,IS.out,GN,hK4,MY⟩
             case measure=>simp [intOf];omega
            ·have qT:¬((fi:Int)=(ui:Int)):=(by omega);have hf2:((fi:Int) == (ui:Int))=false:=beq_false_of_ne qT;have hf3:((fi:Int) != (ui:Int))=true:=(by rw [bne,hf2];rfl);have hf4:(fi == ui)=false:=beq_false_of_ne qS;have p1:=Pl V4 AaJ;obtain⟨z,hz⟩:=Ajv (Bd s.a s.b);rw [←hz]at p1;unfold Ak S at p1;clear Pl;(go_wp2_with fail);(with_reducible refine p1.mono ?_);rintro e V5 ⟨rfl,Dg⟩;have AhT:=QO.trans Dg;clear p1 x0 x1 x2 x3;by_cases Mr:z<0
             ·have GP:Is L0 s=some (s,(fi:Int),(ui:Int)):=by unfold Is;rw [hlo,Dy];simp only;rw [if_pos ⟨qT,by rw [←hz];exact Mr⟩]
              have Nt:=Ln.out _ GP;rw [VI.out,List.getElem?_map]at Nt;obtain⟨e0,GR,Re⟩:=Option.map_eq_some_iff.1 Nt;simp only [Prod.mk.injEq]at Re;obtain⟨Iw,MR,MS⟩:=Re
              have AP:j<CJ.length:=by
               rcases Nat.lt_or_ge j CJ.length with h|h
               ·exact h
               ·rw [List.getElem?_eq_none h]at GR;cases GR
              have Ko:CJ[j]=e0:=(by rw [Aj4 AP]at GR;exact Option.some.inj GR);have DL:=SJ.out.keys AP;have Rv:=SJ.out.ne _ (Aj0 AP);rw [Ko,Iw]at DL Rv
              have QG:AG Ef (CJ.take (j+1))=AG Ef (CJ.take j) ++ [(s,(fi:Int)),(AV s,(ui:Int))]:=by rw [Aj2 AP,UV,Ko,Iw,MR,MS]
              have QH:BD Ef (CJ.take (j+1))=CZ (CZ (BD Ef (CJ.take j)) s.a s.b) s.b s.a:=by rw [Aj2 AP,UW,Ko,Iw]
              have hrl:=Pe Ef (CJ.take j);have hjn:j+1=(DY L0 (ws.take (q+1))).length:=(by rw [Lr.out,List.length_append,←HJ.out,GP];rfl);have Wc:=Ajw QG;have Wd:=Ajw QH;have IS:=Ajw hjn;clear hlo GP Nt GR Ko Iw MR MS QG QH hjn hz;have Nh:=GN.ext Dg;have hb5:wb<=V5.heap.size:=(by have:=Ajx Nh.cell;omega);have ad:=WF Nh hb5 s (fi:Int) (ui:Int) DL.1 DL.2 Rv (fun e he=>by have:=hrl e he;rw [List.length_take]at this;omega);have AW:=(Dg.block _ (Ajx hb4)).trans hb4;have x0:=Aa (o:=0) AW rfl;have x1:=Aa (o:=1) AW rfl;have x2:=Aa (o:=2) AW rfl;have x3:=Aa (o:=3) AW rfl;unfold AC S at ad;(go_wp2_with fail);(with_reducible refine ad.mono ?_);rintro e V6 ⟨rfl,hBl6,hK6,E6,TT⟩;rw [←Wc.out,←Wd.out]at TT;have hK7:=OX (OX hK4 (UK Dg)) hK6;have Aas:=(MY.trans (Below.mono Dg (by have:=MY.size;omega))).trans hBl6;clear ad x0 x1 x2 x3 Nh;go_wp2;go_roundw
              case rel=>exact⟨q+1,j+1,E6,by go_num,Mn,IS.out,TT,hK7,Aas⟩
              case measure=>simp [intOf];omega
             ·have GP:Is L0 s=none:=by unfold Is;rw [hlo];simp only;rw [if_neg (fun h=>by rw [←hz]at h;exact Mr h.2)]
              have hjn:j=(DY L0 (ws.take (q+1))).length:=(by rw [Lr.out,List.length_append,←HJ.out,GP];rfl);have IS:=Ajw hjn;have XS:=OX hK4 (UK Dg);have XK:=MY.trans (Below.mono Dg (by have:=MY.size;omega));have Nh:=GN.ext Dg;clear GP hjn hlo hz;go_wp2;go_roundw
              case rel=>exact⟨q+1,j,E,by go_num,Mn,IS.out,Nh,XS,XK⟩
              case measure=>simp [intOf];omega
          ·have hqe:q=ws.length:=(by omega);subst hqe;rw [List.take_length,VI.out,List.length_map]at hj;subst hj;rw [List.take_length]at hN;obtain⟨QP,Lk,Pi,LM⟩:=HQ.out;have Gi:=jo.out;have oW:=Lk.trans_below hBl (by rw [Wo.out];exact Ajz _);have nU:=hN.base Wo.out;have ag:=gY (hw.ext QP) oW nU rfl (aU Ef CJ) Gi.wo Gi.gr (by rw [Pf];omega) (fun e he=>by have:=Pe Ef CJ e he;omega) k (by omega) Gi.lf Gi.r1 rfl rfl;rw [Gi.op]at ag;have hd:decide (ws.length<ws.length)=false:=(by simp);have C9:decide ((ws.length:Int)<(ws.length:Int))=false:=(by simp);clear LN wF osr Ep O1 hN hK hBl hS12 wC wP nN oG Yc HQ
           go_upto_region 47 with fail
           (go_wp2_with fail);(with_reducible refine ag.mono ?_);rintro e Lg ⟨rfl,Dg,hN14⟩;have oU:=QP.trans Dg;have wQ:=A9 Pi Dg;have oH:=(Dg.block _ (Ajx LM)).trans LM
           have Acd:ul=P.map (·.2):=by
            have hG:=HG.out;apply List.ext_getElem?;intro j
            rcases Nat.lt_or_ge j k with h|h
            ·rw [hG.u j h];have H8:j<P.length:=(by rw [←HN.out];exact h);simp [List.getD_eq_getElem?_getD,Aj4 H8]
            ·rw [List.getElem?_eq_none (by rw [hG.lu];exact h),List.getElem?_eq_none (by rw [List.length_map,←HN.out];exact h)]
           have ZL:=HG.out.lu;have can:=sw (st:=st) (pts:=pts) hw oU hN14 Gi.hz (by have:=Gi.ln;omega) Gi.rl Gi.nd Gi.no Gi.sz (by rw [Pf];omega) Gi.bk (some ⟨bg+1,0,none⟩) k ul (M1 (by omega) wQ) (fun x hx=>by cases hx;have:=Dg.size;have:=Wo.out;show bg+1<_;omega) (by omega) (fun x hx=>by rw [ZL];exact Gi.lf x hx) SN.out rfl (by rw [Acd];exact HST.out);rw [ZL]at can;have hpl:pts.length<=400:=(by rw [SN.out,(JA _).length_eq,List.length_map];exact Gi.ln);clear ag wQ hN14 nU oW Dg ZL;(go_wp2_with fail);(with_reducible refine can.mono ?_);rintro e w15 ⟨pA,pB,pF,pc,pd,pg,rfl,hcaps,hA15,hB15,hF15,-,hx15⟩;unfold As;have Yh:=(hx15.block _ (Ajx oH)).trans oH;have AaH:=oU.trans hx15;have PH:=(Ac.refl w15).alloc (.cells #[.slice pA pts.length pc,.slice pB st.ed.length pd,.slice pF st.fa.length pg] 35);have QS:=Ajy w15 (.cells #[.slice pA pts.length pc,.slice pB st.ed.length pd,.slice pF st.fa.length pg] 35);have I0:=(PH.block _ (Ajx Yh)).trans Yh;have AaI:=AaH.trans PH;have gA:=hA15.ext PH;have gB:=hB15.ext PH;have gF:=hF15.ext PH;have AiB:¬(400<(pts.length:Int)):=(by omega);have Acl:=Ajx Yh
           go_upto_region 51 with fail
           generalize w15.alloc (.cells #[.slice pA pts.length pc,.slice pB st.ed.length pd,.slice pF st.fa.length pg] 35)=W16 at *;obtain⟨b32,pK⟩:=Ajv w15.heap.size;rw [←pK]at QS Acl ⊢;clear pK can;have m0:=Aa (o:=0) QS rfl;have m1:=Aa (o:=1) QS rfl;have m2:=Aa (o:=2) QS rfl;have r0:=Aa (o:=0) I0 rfl;have r1:=Aa (o:=1) I0 rfl;have r2:=Aa (o:=2) I0 rfl;have r3:=Aj (o:=0) I0;have r4:=Aj (o:=1) I0;have r5:=Aj (o:=2) I0;have A7:=Ck (.slice pA pts.length pc) (.slice pB st.ed.length pd) (.slice pF st.fa.length pg) I0;have bb:=(((Ax.refl (fun q=>q=w.heap.size) W16).setCell (p:=⟨w.heap.size,0,none⟩) (.inl rfl) (.slice pA pts.length pc)).setCell (p:=⟨w.heap.size,1,none⟩) (.inl rfl) (.slice pB st.ed.length pd)).setCell (p:=⟨w.heap.size,2,none⟩) (.inl rfl) (.slice pF st.fa.length pg);have t1:=Aa (o:=0) A7 rfl;have t2:=Aa (o:=1) A7 rfl;have t3:=Aa (o:=2) A7 rfl;have Hx:=bb.toExt AaI (fun q e=>by subst e;exact Ajz _);have fA:=BV gA bb I0 (fun j hj=>by obtain⟨s,h⟩:=Ht hj;rw [h];simp);have fB:=BV gB bb I0 (fun j hj=>by obtain⟨s,h⟩:=Hp hj;rw [h];simp);have fF:=BV gF bb I0 (fun j hj=>by rw [List.getElem_map];simp);have BX:=Ajw (And.intro fA (And.intro fB (And.intro fF Hx)));clear gA gB gF fA fB fF bb A7 I0 Hx QS;go_wp2;refine bodyPost_ret (v:=.tuple #[.agg #[.slice pA pts.length pc,.slice pB st.ed.length pd,.slice pF st.fa.length pg],.int .i64 0]) (by simp [results,Tryz.results50,go_sem,t1,t2,t3]) rfl ?_;exact⟨pA,pB,pF,pc,pd,pg,rfl,hcaps,BX.out.1,BX.out.2.1,BX.out.2.2.1,rfl,BX.out.2.2.2⟩
        ·have rF:j<L0.length:=(by rw [D1]at hj;exact hj);rw [Vz,dL]at hrun hen
         have hlen':seen.length<L0.length:=by
          have h2:(j::seen) ⊆ List.range L0.length:=by
           intro q hq
           rcases List.mem_cons.1 hq with rfl|hq
           ·simpa using rF
           ·have:=hI.lt q hq;rw [D1]at this;simpa using this
          have:=(List.nodup_cons.2 ⟨Gu,hI.nd⟩).length_le_of_subset h2;simp at this;omega
         have Ot:=hB.grown hG9 (fun q e=>by cases e;exact .inl rfl);have Js:=Aj0 rF;obtain⟨s,hs⟩:=Ajv (L0[j].1);obtain⟨z,hz⟩:=Ajv (L0[j].2);have hin:=Wm.out L0[j] (by rw [←Io.out];exact Js);rw [←hs,←hz]at hin;rw [←hs,←hz]at hrun hen;obtain⟨hz0,hz1,FN⟩:=hin;obtain⟨zi,rfl⟩:∃zi:Nat,z=(zi:Int):=⟨z.toNat,by omega⟩;have hsz:EW 1 s:=(by rw [hs];exact Iq.out _ (by rw [←Io.out];exact Js));have EA:=(Ac.refl W9).alloc (.cells #[S (R s.a.x),S (R s.a.y),S (R s.b.x),S (R s.b.y)] 175);have Av:=Ajy W9 (.cells #[S (R s.a.x),S (R s.a.y),S (R s.b.x),S (R s.b.y)] 175);have e9:=hen W9 rfl rfl;unfold AC at hrun e9;have bk:=fun (V:World)=>Ts s V;have YC:=(EA.block _ (Ajx ((hG9.block bl (Ajx I4) (fun e=>by cases e;omega)).trans I4))).trans ((hG9.block bl (Ajx I4) (fun e=>by cases e;omega)).trans I4);have mS:=Ot.ext EA;have XP:CG (W9.alloc (.cells #[S (R s.a.x),S (R s.a.y),S (R s.b.x),S (R s.b.y)] 175)) bt bl (stamp L0) (seen ++ [j]):=Ox.keep (EA.block _ (Ajx Ox.it));have VU:=Ajw (Eu hI);clear hs hz Js hen hs9
         go_upto_region 32 with fail
         unfold S at Av EA YC mS XP;generalize W9.alloc (.cells #[.string ⟨(R s.a.x).toArray⟩,.string ⟨(R s.a.y).toArray⟩,.string ⟨(R s.b.x).toArray⟩,.string ⟨(R s.b.y).toArray⟩] 175)=V at *;obtain⟨bx,AO⟩:=Ajv W9.heap.size;rw [←AO]at Av ⊢;clear AO hrun e9 Ot hG9 Ox EA;have y0:=Aa (o:=0) Av rfl;have y1:=Aa (o:=1) Av rfl;have y2:=Aa (o:=2) Av rfl;have y3:=Aa (o:=3) Av rfl;have bk1:=bk V;unfold AC S at bk1;(go_wp2_with fail);(with_reducible refine bk1.mono ?_);rintro e V2 ⟨rfl,DR⟩;have MX:=mS.ext DR;have Kg:=XP.keep (DR.block _ (Ajx XP.it));have lk:=yQ (AV s) L0 (W:=V2) ((DR.block _ (Ajx YC)).trans YC);unfold AC S at lk;clear bk1 bk y0 y1 y2 y3;have Ni:Ac w V2:=MX.toExt Y2 (fun q e=>by subst e;omega)
         obtain⟨Ajg,wO⟩:V2.ownsRow 0 3 1 (.slice (some ⟨bg,0,none⟩) k k) k (zs gl)/\V2.ownsRow 0 9 1 (.slice (some ⟨bg+1,0,none⟩) k k) k (ul.map S):=
          ⟨Bw LF.og MX (fun q hq e=>by simp only [Value.ownBlock,Aj3]at hq;omega),Bw LF.os MX (fun q hq e=>by simp only [Value.ownBlock,Aj3]at hq;omega)⟩
         cases hlo:lookO (AV s) L0 with
         | none=>
          rw [hlo]at lk;simp only [Option.getD_none,Option.isSome_none]at lk;have jg:=Ajw hlo;clear hlo
          go_upto_region 33 with fail
          refine CW (by kernel_rfl) (by kernel_rfl) ?_
          repeat (go_big_quiet_step (fail))
          refine wpQuiet_nil ?_;rintro Wz ⟨q,hq⟩;have Cm:Ac V2 Wz:=hq▸q.h;have Q9:=Kg.keep (Cm.block _ (Ajx Kg.it));have TG:=MX.ext Cm;have VV:=Ajw (Eu Q9);clear hq q lk Kg MX;go_wp2;go_roundw
          case rel=>exact⟨trivial,seen ++ [j],Q9,TG⟩
          case measure=>rw [VU.out,VV.out,List.length_append,List.length_singleton];omega
         | some u=>
          rw [hlo]at lk;simp only [Option.getD_some,Option.isSome_some]at lk;obtain⟨hu0,hu1,hne⟩:=FN u (by rw [←Io.out];exact hlo);obtain⟨ui,rfl⟩:∃ui:Nat,u=(ui:Int):=⟨u.toNat,by omega⟩;simp only [Int.toNat_natCast]at hne;have g1:=LF.u zi (by omega);have g2:=LF.u ui (by omega);obtain⟨s1,hs1⟩:=Ajv ((P.getD zi ([],[])).2);obtain⟨s2,hs2⟩:=Ajv ((P.getD ui ([],[])).2);rw [←hs1]at g1 hne;rw [←hs2]at g2 hne;have c1:=wO.cellAt zi (by omega);have c2:=wO.cellAt ui (by omega);rw [List.getElem?_map,g1]at c1;rw [List.getElem?_map,g2]at c2;simp only [Option.map_some]at c1 c2;have q1:∀q:Af V2,q.w.cell? ⟨bg+1,zi,none⟩=some (S s1):=Af.cell c1;have q2:∀q:Af V2,q.w.cell? ⟨bg+1,ui,none⟩=some (S s2):=Af.cell c2;have hb1:(s1 == s2)=false:=beq_false_of_ne hne;have jg:=Ajw hlo;clear hlo hs1 hs2 g1 g2 c1 c2 hne FN
          go_upto_region 33 with fail
          unfold S at q1 q2;refine CW (by kernel_rfl) (by kernel_rfl) ?_
          repeat (go_big_quiet_step (fail))
          refine wpQuiet_nil ?_;rintro Wz ⟨q,hq⟩;have Cm:Ac V2 Wz:=hq▸q.h;clear q1 q2;have Q9:=Kg.keep (Cm.block _ (Ajx Kg.it));have TG:=MX.ext Cm;have VV:=Ajw (Eu Q9);clear hq q lk Kg MX;go_wp2;go_roundw
          case rel=>exact⟨trivial,seen ++ [j],Q9,TG⟩
          case measure=>rw [VU.out,VV.out,List.length_append,List.length_singleton];omega
end Go.Proofs.YtgnejnampofhoaaGreatDoor
namespace Kl
section
variable {α : Type} (le : α → α → Bool)
def Mt:Nat→List α→List α→List α
 | 0,xs,ys=>xs++ys
 | _+1,[],ys=>ys
 | _+1,x::xs,[]=>x::xs
 | n+1,x::xs,y::ys=>if le x y then x::Mt n xs (y::ys)else y::Mt n (x::xs) ys
theorem aL:∀(n:Nat) (xs ys:List α),xs.length+ys.length<=n→Mt le n xs ys=List.merge xs ys le
 | 0,[],[],_=>by simp [Mt]
 | 0,_::_,_,h=>by simp at h
 | 0,[],_::_,h=>by simp at h
 | n+1,[],ys,_=>by simp [Mt]
 | n+1,x::xs,[],_=>by simp [Mt]
 | n+1,x::xs,y::ys,h=>by simp only [List.length_cons]at h;rw [Mt,List.cons_merge_cons,aL n xs (y::ys) (by simp;omega),aL n (x::xs) ys (by simp;omega)]
def Ev:Nat→List α→List α
 | 0,l=>l
 | _+1,[]=>[]
 | _+1,[a]=>[a]
 | n+1,a::b::l=>Mt le (l.length+2) (Ev n ((a::b::l).take ((l.length+3) / 2))) (Ev n ((a::b::l).drop ((l.length+3) / 2)))
theorem RV:∀(n:Nat) (l:List α),l.length<=n→Ev le n l=l.mergeSort le
 | 0,[],_=>by simp [Ev]
 | 0,_::_,h=>by simp at h
 | n+1,[],_=>by simp [Ev]
 | n+1,[a],_=>by simp [Ev]
 | n+1,a::b::l,h=>by
  simp only [List.length_cons]at h;have h1:((a::b::l).take ((l.length+3)/2)).length<=n:=(by simp only [List.length_take,List.length_cons];omega);have h2:((a::b::l).drop ((l.length+3)/2)).length<=n:=(by simp only [List.length_drop,List.length_cons];omega);have h3:((a::b::l).take ((l.length+3)/2)).length+((a::b::l).drop ((l.length+3)/2)).length<=l.length+2:=(by simp only [List.length_take,List.length_drop,List.length_cons];omega);rw [Ev,RV n _ h1,RV n _ h2,aL _ _ _ _ (by rw [List.length_mergeSort,List.length_mergeSort];exact h3)];rw [List.mergeSort];simp only [List.MergeSort.Internal.splitInTwo_fst,List.MergeSort.Internal.splitInTwo_snd]
  rfl
end
end Kl
namespace Go.Proofs.YtgnejnampofhoaaGreatDoor
open Go.RowKit Kl
def RP(x y:Pt):Bool:=!decide (Bd y x<0)
def OZ(x y:Sg):Bool:=!decide (Fq y x<0)
def aH(p x y:Pt):Bool:=!decide (Dl p y x<0)
theorem dG(l:List Pt):Eh l=Ev RP l.length l:=(RV RP _ l (Ajz _)).symm
theorem Vy(l:List Sg):BB l=Ev OZ l.length l:=(RV OZ _ l (Ajz _)).symm
theorem Ag3(p:Pt)(l:List Pt):CV p l=Ev (aH p) l.length l:=(RV (aH p) _ l (Ajz _)).symm
def MP(W:List Sg)(R0:List (Pt×List Pt)):List (List Sg):=((Ev OZ W.length W).foldl (FA W.length R0) ([],[])).2
theorem Xm(W:List Sg)(R0:List (Pt×List Pt)):GL W R0=MP W R0:=by unfold GL MP;rw [Vy]
def dD(p:List Pt)(s:Pt×Pt):Bool:=p.all (fun x=>decide (0<=Ar s.1 s.2 x))&&p.any (fun x=>decide (0<Ar s.1 s.2 x))
def Vs(p:List Pt)(s:Pt×Pt):Bool:=p.all (fun x=>decide (Ar s.1 s.2 x<=0))
theorem Agi{p:List Pt}{s:Pt×Pt}(h:dD p s=true):KZ p s:=by
 unfold dD at h;rw [Bool.and_eq_true,List.all_eq_true,List.any_eq_true]at h;obtain⟨h1,x,hx,h2⟩:=h;exact⟨fun x hx=>of_decide_eq_true (h1 x hx),x,hx,of_decide_eq_true h2⟩
theorem yU{p:List Pt}{s:Pt×Pt}(h:Vs p s=true):J9 p s:=by
 unfold Vs at h;rw [List.all_eq_true]at h;exact fun x hx=>of_decide_eq_true (h x hx)
def bQ(l:List Pt):Bool:=decide (3<=l.length)&&(decide (l.length<=60)&&((List.range l.length).all (fun i=>(List.range l.length).all (fun n=>n == i||(n == (i+1)%l.length||decide (0<Ar (l.getD i ⟨0,0⟩) (l.getD ((i+1)%l.length) ⟨0,0⟩) (l.getD n ⟨0,0⟩)))))&&(List.range (l.length-1)).all (fun n=>!decide (Bd (l.getD (n+1) ⟨0,0⟩) (l.getD 0 ⟨0,0⟩)<0))))
theorem getD_at{α:Type}(l:List α)(d:α){i:Nat}(h:i<l.length):l.getD i d=l[i]:=by rw [List.getD_eq_getElem?_getD,Aj4 h];rfl
theorem xP{l:List Pt}(h:bQ l=true):ML l:=by
 unfold bQ at h;simp only [Bool.and_eq_true,List.all_eq_true,decide_eq_true_eq,List.mem_range,Bool.or_eq_true,beq_iff_eq,Bool.not_eq_true',decide_eq_false_iff_not]at h;obtain⟨h1,h2,h3,h4⟩:=h;refine⟨h1,h2,?_,?_⟩
 ·intro i n hi hn h5 h6;have:=h3 i hi n hn;rw [getD_at l _ hi,getD_at l _ hn,getD_at l _ (Nat.mod_lt _ (by omega))]at this
  rcases this with k|k|k
  ·exact absurd k h5
  ·exact absurd k h6
  ·exact k
 ·intro n hn;have:=h4 n (by omega);rw [getD_at l _ hn,getD_at l _ (by omega:0<l.length)]at this;exact this
def szB(p:Pt):Bool:=decide (p.x.num.natAbs<10^1)&&(decide (p.x.den<10^1)&&(decide (p.y.num.natAbs<10^1)&&decide (p.y.den<10^1)))
theorem IO{p:Pt}(h:szB p=true):Az 1 p:=by
 unfold szB at h;simp only [Bool.and_eq_true,decide_eq_true_eq]at h;exact⟨⟨h.1,h.2.1⟩,⟨h.2.2.1,h.2.2.2⟩⟩
def Qy(p:Pt):Bool:=decide ((p.x*2).den=1)&&(decide ((p.x*2).num.natAbs<=9)&&(decide ((p.y*2).den=1)&&decide ((p.y*2).num.natAbs<=9)))
theorem oZ{q:Rat}(h1:(q*2).den=1)(h2:(q*2).num.natAbs<=9):Lu q:=by
 refine⟨(q*2).num,h2,?_⟩
 have:((q*2).num:Rat)=q*2:=by
  refine Rat.ext ?_ ?_
  ·rw [Rat.num_intCast]
  ·rw [Rat.den_intCast,h1]
 rw [this];grind
theorem Qz{p:Pt}(h:Qy p=true):Cz p:=by
 unfold Qy at h;simp only [Bool.and_eq_true,decide_eq_true_eq]at h;exact⟨oZ h.1 h.2.1,oZ h.2.2.1 h.2.2.2⟩
def Gb(P:List (List Pt×Bs)):List Pt:=Lib.compact (Ev RP (Dv P P.length).length (Dv P P.length))
theorem vt(P:List (List Pt×Bs)):Qn P=Gb P:=by unfold Qn Gb;rw [dG]
def Va:List Sg→Bool
 | []=>true
 | s::l=>!l.any (AN s) && Va l
theorem vX:∀{l:List Sg},Va l=true→l.Nodup
 | [],_=>List.nodup_nil
 | s::l,h=>by rw [Va,Bool.and_eq_true,Bool.not_eq_true']at h;rw [List.nodup_cons];exact⟨iE.1 h.1,vX h.2⟩
def Sj(P:List (List Pt×Bs)):Bool:=
 decide (0<P.length)&&(decide (P.length<=1000)&&(P.all (fun e=>bQ e.1&&e.1.all szB) &&
 (P.all (fun e=>(List.range e.1.length).all (fun k=>decide ((Gb P).filter (fun q=>EL (FV e.1 k).a (FV e.1 k).b q)=Qt (FV e.1 k)))) &&
 (Va ((BF P P.length).map (·.1)) &&
 ((List.range P.length).all (fun i=>(List.range i).all (fun k=>(List.range (P.getD k ([],[])).1.length).all (fun j=>dD (P.getD i ([],[])).1 (Bz (P.getD k ([],[])).1 j)||Vs (P.getD i ([],[])).1 (Bz (P.getD k ([],[])).1 j))&&(List.range (P.getD k ([],[])).1.length).any (fun j=>Vs (P.getD i ([],[])).1 (Bz (P.getD k ([],[])).1 j)))) &&
 ((BF P P.length).all (fun e=>decide (0<=e.2/\e.2<(P.length:Int))&&(szB e.1.a&&szB e.1.b)&&(match lookO (AV e.1) (BF P P.length)with|none=>true|some z=>decide (0<=z/\z<(P.length:Int))&&decide ((P.getD e.2.toNat ([],[])).2≠(P.getD z.toNat ([],[])).2))) &&
 decide ((BF P P.length).length<=10000)))))))
theorem AeE{P:List (List Pt×Bs)}(h:Sj P=true):dY P:=by
 unfold Sj at h;simp only [Bool.and_eq_true,List.all_eq_true,decide_eq_true_eq,List.mem_range]at h;obtain⟨-,h1,h2,h3,h4,h5,-,-⟩:=h;refine⟨⟨h1,fun e he=>?_,fun e he p hp=>IO ((h2 e he).2 p hp),fun e he k hk=>?_,vX h4⟩,fun e he=>xP (h2 e he).1,?_⟩
 ·have:=xP (h2 e he).1;exact⟨by have:=this.n3;omega,this.n60⟩
 ·rw [vt];exact h3 e he k hk
 ·intro i k hi hk;obtain⟨ha,hb⟩:=h5 i hi k hk;rw [getD_at P _ hi,getD_at P _ (by omega:k<P.length)]at ha hb;rw [List.any_eq_true]at hb;obtain⟨j,hj,hb⟩:=hb;refine⟨fun j hj=>?_,j,List.mem_range.1 hj,yU hb⟩;have:=ha j hj;rw [Bool.or_eq_true]at this;exact this.imp Agi yU
instance sgDec:DecidableEq Sg:=fun s t=>decidable_of_iff (AN s t=true) Hd
def G2(pts:List Pt)(eds:List EdZ):List (Pt×List Pt):=(BD pts eds).map (fun e=>(e.1,Ev (aH e.1) e.2.length e.2))
theorem cQ(pts:List Pt)(eds:List EdZ):G2 pts eds=(BD pts eds).map (fun e=>(e.1,CV e.1 e.2)):=by
 unfold G2;refine List.map_congr_left fun e _=>?_;rw [Ag3]
def nk(pts:List Pt)(eds:List EdZ)(n:Nat):D9:=JL (AG pts eds) n (MP ((AG pts eds).map (·.1)) (G2 pts eds)) (J5 ((AG pts eds).map (·.1)) (MP ((AG pts eds).map (·.1)) (G2 pts eds)))
def UZ(e:Pt×List Pt):Bool:=match e.2 with
 | [p,q]=>decide (AM (Ar p e.1 q)≠0)
 | _=>true
def UU(pts:List Pt)(eds:List EdZ)(n:Nat):Bool:=
 decide (Da [] pts=0)&&(decide (Dk pts.length n [] eds=0)&&(decide (DG pts [] eds=0)&&(pts.all Qy&&(decide (eds.length<=1000)&&(!(nk pts eds n).op &&
 ((G2 pts eds).all (fun e=>szB e.1&&(e.2.all szB&&(decide (e.2.length<100000)&&UZ e)))&&(decide ((G2 pts eds).length<=400)&&(decide ((G2 pts eds).map (·.1)).Nodup &&
 ((AG pts eds).all (fun e=>szB e.1.a&&szB e.1.b)&&(AG pts eds).all (fun e=>(AG pts eds).any (fun e'=>AN e'.1 (AV e.1))))))))))))
theorem AdL{pts:List Pt}{eds:List EdZ}{n:Nat}(h:UU pts eds n=true):fV pts eds n (G2 pts eds):=by
 unfold UU at h;simp only [Bool.and_eq_true,List.all_eq_true,decide_eq_true_eq,Bool.not_eq_true']at h;obtain⟨h1,h2,h3,h4,h5,h6,h7,h8,h9,h10,h11⟩:=h;have hg:∀p∈pts,Cz p:=fun p hp=>Qz (h4 p hp);have he:=Qs h1 h2;refine⟨he,h5,UX he hg h3,RX he hg,vT h2,cQ pts eds,?_,fun e k=>⟨IO (h7 e k).1,fun p hp=>IO ((h7 e k).2.1 p hp)⟩,h8,fun e k=>(h7 e k).2.2.1,h9,?_,fun e k=>⟨IO (h10 e k).1,IO (h10 e k).2⟩,?_⟩
 ·rw [Xm];exact h6
 ·intro e k p q OM;have:=(h7 e k).2.2.2;unfold UZ at this;rw [OM]at this;exact of_decide_eq_true this
 ·intro e k;have:=h11 e k;rw [List.any_eq_true]at this;obtain⟨x,hx,hs⟩:=this;exact⟨x,hx,Hd.1 hs⟩
def dV(P:List (List Pt×Bs)):List Sg:=Ev OZ ((BF P P.length).map (·.1)).length ((BF P P.length).map (·.1))
def JU(P:List (List Pt×Bs)):List EdZ:=(DY (BF P P.length) (dV P)).map (fun x=>⟨G0 x.1.a (BR (Gb P)),G0 x.1.b (BR (Gb P)),x.2.1,x.2.2⟩)
def bX(P:List (List Pt×Bs)):List Pt:=Ev RP ((G2 (Gb P) (JU P)).map (·.1)).length ((G2 (Gb P) (JU P)).map (·.1))
def Sv(P:List (List Pt×Bs)):Fy:=GH (P.map (·.2)) (BR (bX P)) (AG (Gb P) (JU P)) (Ev OZ ((AG (Gb P) (JU P)).map (·.1)).length ((AG (Gb P) (JU P)).map (·.1)))
def vI(P:List (List Pt×Bs)):MapZ:=⟨bX P,(Sv P).ed,(Sv P).fa.length⟩
def gU(P:List (List Pt×Bs)):Bool:=decide (DY (BF P P.length) (dV P)=(JU P).map (fun e=>(Be (Gb P) e,e.l,e.r)))
theorem r7(P:List (List Pt×Bs))(h1:Sj P=true)(h2:UU (Gb P) (JU P) P.length=true)(h3:gU P=true)(A:Option Addr)(c:Nat)(w:World)(hw:Ao w)(h:MK w A c P) :
  Calls Tryz.prog 50 #[.slice A P.length c] w (JF w (vI P) (Sv P).fa):=by
 have hp:=h1;unfold Sj at h1;simp only [Bool.and_eq_true,List.all_eq_true,decide_eq_true_eq]at h1;obtain⟨g0,-,-,-,-,-,g6,g7⟩:=h1;have ha:DY (BF P P.length) (dV P)=(JU P).map (fun e=>(Be (Gb P) e,e.l,e.r)):=of_decide_eq_true h3;refine r6 P (AeE hp) g0 ?_ (fun e k=>⟨IO (g6 e k).1.2.1,IO (g6 e k).1.2.2⟩) g7 (by rw [Vy];exact ha) (AdL h2) (pts:=bX P) (by rw [dG];rfl) (st:=Sv P) (by rw [Vy];rfl) A c w hw h;intro e k;obtain⟨⟨g1,-⟩,g3⟩:=g6 e k;refine⟨g1.1,g1.2,fun z hz=>?_⟩;rw [hz]at g3;simp only [Bool.and_eq_true,decide_eq_true_eq]at g3;exact⟨g3.1.1,g3.1.2,g3.2⟩
set_option maxRecDepth 100000
set_option maxRecDepth 100000
def Oh(m:MapZ):Bool:=!L8 m&&(decide (Da [] m.pts=0)&&(decide (Dk m.pts.length m.nf [] m.eds=0)&&(decide (DG m.pts [] m.eds=0)&&(!Qv (BD m.pts m.eds) m.pts&&Lz (AG m.pts m.eds) m.nf (MP ((AG m.pts m.eds).map (·.1)) (G2 m.pts m.eds)) (J5 ((AG m.pts m.eds).map (·.1)) (MP ((AG m.pts m.eds).map (·.1)) (G2 m.pts m.eds)))))))
theorem uk{m:MapZ}(h:Oh m=true):El m=0:=by
 unfold Oh at h;simp only [Bool.and_eq_true,decide_eq_true_eq,Bool.not_eq_true']at h;obtain⟨h1,h2,h3,h4,h5,h6⟩:=h
 have e:Lz (AG m.pts m.eds) m.nf (NB m) (Pd m)=true:=by unfold Pd NB aW aV;rw [←cQ,Xm];exact h6
 unfold El Xe;rw [if_neg (by rw [h1];simp),if_neg (by omega),if_neg (by omega),if_neg (by omega),if_neg (by rw [h5];simp),if_pos e]
end Go.Proofs.YtgnejnampofhoaaGreatDoor
