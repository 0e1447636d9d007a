/- U40: ShBV ShBX ShBY. -/
import Derived.Test.YtbejphgbbpplbaaGreatDoorU36
import Derived.Test.YtbejphgbbpplbaaGreatDoorU35
set_option maxRecDepth 100000
set_option maxHeartbeats 16000000
namespace Go.Proofs.YtbejphgbbpplbaaGreatDoor
open Go.RowKit Kl Go.Shelf
def lookO(s:Sg)(L:List (Sg×Int)):Option Int:=(L.find? (fun e=>AO s e.1)).map (·.2)
theorem An1{α:Type}{enc:α→Value}{same:α→α→Bool}{mt kt et:TypeId}{z:Value}(K:JW mt kt et z enc same)(k:α)(l:List (α×Value×Nat)){b clock:Nat}{W:World}(hb:W.heap[b]?=some (.map (AG enc l).toArray clock)) :
  (Instr.lookup mt (.map (some b)) (enc k) true).run Tryz.prog W=.ok (.tuple #[F5 same z k l,.bool (l.find? (fun e=>same k e.1)).isSome]) W:=by
 have hf:=Te K k l W;rw [qo]at hf;unfold F5
 cases h:l.find? (fun e=>same k e.1)with
 | none=>
  rw [h]at hf
  have hf':(Instr.findKey kt (enc k) (AG enc l)).run Tryz.prog W=.ok none W:=by rw [hf];cases F3 same k l<;>rfl
  simp [Instr.lookup,run_underlying K.map,MapKept.run_getObj_map hb,K.chk,hf',K.zero,Result.andThen]
 | some e=>
  have hi:(F3 same k l).isSome:=by unfold F3;rw [List.findIdx?_isSome,List.any_eq_true];exact⟨e,List.mem_of_find?_eq_some h,(by have:=List.find?_some h;exact this)⟩
  obtain⟨j,hj⟩:=Option.isSome_iff_exists.1 hi;rw [h,hj]at hf;simp only [Option.bind_some,Option.map_some]at hf;simp [Instr.lookup,run_underlying K.map,MapKept.run_getObj_map hb,K.chk,hf,Result.andThen]
theorem Aox(s:Sg)(L:List (Sg×Int)):((stamp L).find? (fun e=>AO s e.1)).isSome=(lookO s L).isSome:=by
 unfold lookO;rw [Option.isSome_map,Bool.eq_iff_iff,List.find?_isSome,List.find?_isSome];constructor
 ·rintro⟨x,hx,h⟩;obtain⟨e,he,h1⟩:=oH hx;exact⟨e,he,by rw [←h1];exact h⟩
 ·rintro⟨e,he,h⟩;obtain⟨i,hi,rfl⟩:=List.getElem_of_mem he;have hi':i<(stamp L).length:=(by rw [DL];exact hi);exact⟨(stamp L)[i],Asa hi',by rw [YU];exact h⟩
theorem Aa1(s:Sg)(L:List (Sg×Int)){b:Nat}{W:World}(hb:W.heap[b]?=some (.map (AG AA (stamp L)).toArray L.length)) :
  (Instr.lookup 131 (.map (some b)) (AA s) true).run Tryz.prog W=.ok (.tuple #[.int .i64 ((lookO s L).getD 0),.bool (lookO s L).isSome]) W:=by
 rw [An1 XX s (stamp L) hb,uf,Aox]
 have:AL s L=(lookO s L).getD 0:=by
  unfold AL lookO
  cases L.find? (fun e=>AO s e.1)<;>rfl
 rw [this]
structure pE(P:List (List Pt×Bs)):Prop where
 so:rT P
 poly:∀e∈P,Oq e.1
 apart:∀(i k:Nat) (hi:i<P.length) (hk:k<i),(∀j,j<(P[k]'(by omega)).1.length→Mn P[i].1 (BB (P[k]'(by omega)).1 j)∨KG P[i].1 (BB (P[k]'(by omega)).1 j))/\∃j,j<(P[k]'(by omega)).1.length/\KG P[i].1 (BB (P[k]'(by omega)).1 j)
def Jc(L0:List (Sg×Int))(s:Sg):Option (Sg×Int×Int):=match lookO (AY s) L0 with
 | none=>some (s,AL s L0,-1)
 | some u=>if AL s L0≠u/\AX s.a s.b < 0 then some (s,AL s L0,u)else none
def Eu(L0:List (Sg×Int))(ws:List Sg):List (Sg×Int×Int):=ws.filterMap (Jc L0)
theorem sE{L0:List (Sg×Int)}{ws:List Sg}{k:Nat}(hk:k<ws.length):Eu L0 (ws.take (k+1))=Eu L0 (ws.take k)++(Jc L0 ws[k]).toList:=by
 unfold Eu;rw [Asd hk,List.filterMap_append]
 congr 1
theorem Ad3{L0:List (Sg×Int)}{ws:List Sg}{k:Nat}(hk:k<ws.length){x:Sg×Int×Int}(hx:Jc L0 ws[k]=some x):(Eu L0 ws)[(Eu L0 (ws.take k)).length]?=some x:=by
 have h1:Eu L0 ws=Eu L0 (ws.take (k+1))++Eu L0 (ws.drop (k+1)):=by unfold Eu;rw [←List.filterMap_append,List.take_append_drop]
 rw [h1,sE hk,hx,List.append_assoc,List.getElem?_append_right (ArZ _),Nat.sub_self]
 rfl
theorem mL{B:Nat}{w w':World}{e:TypeId}{s n:Nat}{v:Value}{xs:List Value}{b1 b2:Nat}(h:w.ownsRow B e s v n xs)(hk:∀(k:Nat) (o:Obj),w.heap[k]?=some o→k≠b1→k≠b2→(∀cs,o≠.cells cs 94 (0,0))→w'.heap[k]?=some o)(hne:∀k,v.ownBlock=some k→k≠b1/\k≠b2)(he:e≠94):w'.ownsRow B e s v n xs:=by
 refine⟨h.1,?_⟩
 rcases h.2 with h'|⟨g,cap,cur,e1,e2,hgb,e4⟩
 ·exact .inl h'
 ·refine .inr ⟨g,cap,cur,e1,e2,hk g _ hgb ?_ ?_ (fun cs e=>he (Obj.cells.inj e).2.1),e4⟩
  ·exact(hne g (by rw [e1];rfl)).1
  ·exact(hne g (by rw [e1];rfl)).2
def Su(w w':World)(b1 b2:Nat):Prop:=∀(k:Nat) (o:Obj),w.heap[k]?=some o→k≠b1→k≠b2→(∀cs,o≠.cells cs 94 (0,0))→w'.heap[k]?=some o
theorem Rf{a b d:World}{b1 b2:Nat}(h:Su a b b1 b2)(k:Su b d b1 b2):Su a d b1 b2:=fun i o h1 h2 h3 h4=>k i o (h i o h1 h2 h3 h4) h2 h3 h4
theorem XW{a b:World}{b1 b2:Nat}(hx:Aa a b):Su a b b1 b2:=fun _ _ h _ _ _=>(hx.block _ (ArX h)).trans h
structure Oe(P:List (List Pt×Bs))(n k bg bs:Nat)(gl:List Int)(ul:List Bs)(W:World):Prop where
 lg:gl.length=n
 lu:ul.length=n
 g:∀j,j<k→gl[j]?=some (j:Int)
 u:∀j,j<k→ul[j]?=some (P.getD j ([],[])).2
 og:W.ownsRow 0 3 1 (.slice (some ⟨bg,0,none⟩) n n) n (zs gl)
 os:W.ownsRow 0 9 1 (.slice (some ⟨bs,0,none⟩) n n) n (ul.map S)
theorem Oe.step{P:List (List Pt×Bs)}{n k bg bs:Nat}{gl:List Int}{ul:List Bs}{W:World}(h:Oe P n k bg bs gl ul W)(hk:k<n)(hne:bg≠bs) :
  Oe P n (k+1) bg bs (gl.set k (k:Int)) (ul.set k (P.getD k ([],[])).2) ((W.setCell ⟨bg,k,none⟩ (.int .i64 (k:Nat))).setCell ⟨bs,k,none⟩ (S (P.getD k ([],[])).2)):=by
 have g1:=(h.og.stored k (.int .i64 (k:Nat))).1;have g2:=ownsRow_setCell_other (a:=⟨bs,k,none⟩) g1 (by simp only [Value.ownBlock,ne_eq,Ase];exact hne) (S (P.getD k ([],[])).2);have u1:=ownsRow_setCell_other (a:=⟨bg,k,none⟩) h.os (by simp only [Value.ownBlock,ne_eq,Ase];exact fun e=>hne e.symm) (.int .i64 (k:Nat));have u2:=(u1.stored k (S (P.getD k ([],[])).2)).1;refine⟨by rw [List.length_set];exact h.lg,by rw [List.length_set];exact h.lu,fun j hj=>?_,fun j hj=>?_,by rw [←Zf];exact g2,by rw [List.map_set];exact u2⟩
 ·by_cases e:j=k
  ·subst e;rw [List.getElem?_set_self (by rw [h.lg];exact hk)]
  ·rw [List.getElem?_set_ne (fun e'=>e e'.symm)];exact h.g j (by omega)
 ·by_cases e:j=k
  ·subst e;rw [List.getElem?_set_self (by rw [h.lu];exact hk)]
  ·rw [List.getElem?_set_ne (fun e'=>e e'.symm)];exact h.u j (by omega)
theorem B5.base{B B':Nat}{W:World}{r b1 b2:Nat}{L:List (Sg×Int)}{E:List (Pt×Value×Nat)}{R:List (Pt×List Pt)}(h:B5 B W r b1 b2 L E R)(e:B=B'):B5 B' W r b1 b2 L E R:=e▸h
structure rC(pts:List Pt)(eds:List AD)(n:Nat)(R1:List (Pt×List Pt)):Prop where
 eo:Od pts eds
 le:eds.length<=1000
 wo:PT ((AS pts eds).map (·.1))
 gr:∀s∈(AS pts eds).map (·.1),G8 s
 lf:∀x∈AS pts eds,-1<=x.2/\x.2<(n:Int)
 r1:R1=(CV pts eds).map (fun e=>(e.1,Et e.1 e.2))
 op:(Le (AS pts eds) n (I3 ((AS pts eds).map (·.1)) R1) (KF ((AS pts eds).map (·.1)) (I3 ((AS pts eds).map (·.1)) R1))).op=false
 hz:∀e∈R1,Aq 1 e.1/\∀p∈e.2,Aq 1 p
 ln:R1.length<=400
 rl:∀e∈R1,e.2.length<100000
 nd:(R1.map (·.1)).Nodup
 no:∀e∈R1,∀p q,e.2 = [p,q]→AI (Ai p e.1 q)≠0
 sz:∀e∈AS pts eds,Gk 1 e.1
 bk:∀e∈AS pts eds,∃e'∈AS pts eds,e'.1=AY e.1
theorem bX{l:List AD}{j:Nat}(hj:j<(B6 l).length):∃z,(B6 l)[j]=.int .i64 z:=by
 have:=Asa hj;unfold B6 at this;rw [List.mem_flatMap]at this;obtain⟨p,_,h⟩:=this;simp only [List.mem_cons,Asm,or_false]at h
 rcases h with h|h|h|h<;>exact⟨_,h⟩
theorem nB{w w':World}{A:Option Addr}{l:List Value}{b:Nat}{a0 a1 a2:Value}{t:TypeId}(h:Ae w A l)(hb:Ar (fun q=>q=b) w w')(hm:w.heap[b]?=some (.cells #[a0,a1,a2] t))(hne:∀(j:Nat) (hj:j<l.length),l[j]≠a0/\l[j]≠a1/\l[j]≠a2):Ae w' A l:=by
 refine⟨fun h0=>?_⟩;obtain⟨g,o,e,hc⟩:=h.ad h0;refine⟨g,o,e,fun j hj=>?_⟩;have h1:=hc j hj;refine(World.cell?_of_block (a:=⟨g,o+j,none⟩) (hb.block g (World.block_lt_of_cell? w _ h1) (fun e'=>?_))).trans h1;subst e';have h2:=Aep hm h1;obtain⟨n1,n2,n3⟩:=hne j hj
 match hn:o+j with
 | 0=>rw [hn]at h2;exact n1 (by simpa using h2.symm)
 | 1=>rw [hn]at h2;exact n2 (by simpa using h2.symm)
 | 2=>rw [hn]at h2;exact n3 (by simpa using h2.symm)
 | n+3=>rw [hn]at h2;simp at h2
def UV(w:World)(m:Bz)(Ag:List Bs)(e:Ending)(w':World):Prop:=
 ∃A Bk F c d g,e=.returned (.tuple #[Bv A Bk F m c d g,.int .i64 0])/\JJ m c d g/\Ae w' A (flat (Ak m.pts))/\Ae w' Bk (B6 m.eds)/\Ae w' F (Ag.map S)/\m.nf=Ag.length/\Aa w w'
theorem Aet(P:List (List Pt×Bs))(hP:pE P)(Ef:0<P.length)(kB:∀e∈BI P P.length,0<=e.2/\e.2<(P.length:Int)/\∀z,lookO (AY e.1) (BI P P.length)=some z→0<=z/\z<(P.length:Int)/\(P.getD e.2.toNat ([],[])).2≠(P.getD z.toNat ([],[])).2)(If:∀e∈BI P P.length,Gk 1 e.1)(Ce:(BI P P.length).length<=10000){EJ:List Pt}{CY:List AD}(hadd:Eu (BI P P.length) (BH ((BI P P.length).map (·.1)))=CY.map (fun e=>(Bj EJ e,e.l,e.r))){R1:List (Pt×List Pt)}(GU:rC EJ CY P.length R1){pts:List Pt}(OZ:pts=Fo (R1.map (·.1))){st:Hl}(hst:st=Jf (P.map (·.2)) (Ci pts) (AS EJ CY) (BH ((AS EJ CY).map (·.1))))(A:Option Addr)(c:Nat)(w:World)(hw:Al w)(h:G9 w A c P) :
  Calls Tryz.prog 47 #[.slice A P.length c] w (UV w ⟨pts,st.ed,st.fa.length⟩ st.fa):=by
 have hmm:=@run_makeMap Tryz.prog;have hlen:P.length<=1000:=hP.so.len;have hc1:=h.c1;have hc2:=h.c2;have HP:=ArW hP;have HA:=ArW h;obtain⟨n,hn⟩:=ArV P.length;rw [←hn]at hlen hc1 Ef kB If Ce hadd GU ⊢;have AbV:=ArW hadd;have HNI:=ArW GU;have Vf:=ArW GU.eo;have Vo:=ArW OZ;have HST:=ArW hst;have hel:=GU.le;have EP:=ArW Ce;have ZF:=ArW kB;have KY:=ArW If;have HN:=ArW hn;have E1:=(Aa.refl w).alloc (.cells #[.slice none 0 0,.slice none 0 0,.slice none 0 0] 36);have hbr:=ArY w (.cells #[.slice none 0 0,.slice none 0 0,.slice none 0 0] 36);clear hP h hn kB If Ce hadd GU OZ hst;go_enter Tryz.func47,Tryz.ntmps47
 go_upto_region 4 with fail
 generalize w.alloc (.cells #[.slice none 0 0,.slice none 0 0,.slice none 0 0] 36)=W1 at *;have hl0:(0:Int)<=(n:Int):=by omega
 go_loopw [39] (fun iv wr=>∃k:Nat,iv=.int .i64 (k:Nat)/\k<=n/\Aa W1 wr) (fun iv _=>n-(intOf iv).toNat)
 case atStart=>exact⟨0,rfl,by omega,Aa.refl _⟩
 case round=>
  obtain⟨k,rfl,hk,hX⟩:=hrel;by_cases hkn:k<n
  ·have QK:k<P.length:=(by rw [←HN.out];exact hkn);obtain⟨bA,oA,A',c',rfl,AW,Bg,Bo,Bh,hr1,hr2⟩:=HA.out.row k QK;have By:=E1.trans hX;replace AW:=By.cellS AW;replace Bg:=By.cellS Bg;replace Bo:=By.cellS Bo;have hk0:(0:Int)<=(k:Int):=(by omega);have BX:(k:Int)<(n:Int):=(by omega);have Gy:=HP.out.poly _ (Asa QK);have hsz:=HP.out.so.sz _ (Asa QK);obtain⟨pg,Eg⟩:=ArV (P[k].1);obtain⟨un,Az⟩:=ArV (P[k].2);rw [←Eg]at AW Bh hr1 Gy hsz;rw [←Az]at Bg;have EA:=(Aa.refl wr).alloc (.cells #[.slice A' pg.length c',S un,.slice none 0 0] 97);have Aw:=ArY wr (.cells #[.slice A' pg.length c',S un,.slice none 0 0] 97);have ck:=mQ pg Gy hsz (by omega) (by omega) A' c' _ (hw.ext (By.trans EA)) (Bh.ext (By.trans EA)) hr1 hr2;have y0:=Ab (o:=0) Aw rfl;clear Eg Az Gy hsz;(go_wp2_with fail);(with_reducible refine ck.mono ?_);rintro e w2 ⟨rfl,hx2⟩;go_wp2;go_roundw
   case rel=>exact⟨k+1,by go_num,hkn,(hX.trans EA).trans hx2⟩
   case measure=>simp [intOf];omega
  ·have Bf:k=n:=(by omega);subst Bf;have hd:decide (k<k)=false:=(by simp);have CO:decide ((k:Int)<(k:Int))=false:=by simp
   go_upto_region 11 with fail
   obtain⟨W2,rfl⟩:=lQ hX;have BN:=E1.trans hX;have hR2:=(hX.block _ (ArX hbr)).trans hbr;clear hX hd CO E1 hbr
   go_loopw [53] (fun iv wr=>∃i:Nat,iv=.int .i64 (i:Nat)/\i<=k/\Aa W2 wr) (fun iv _=>k-(intOf iv).toNat)
   case atStart=>exact⟨0,rfl,by omega,Aa.refl _⟩
   case round=>
    obtain⟨i,rfl,hi,hX⟩:=hrel;have By:=BN.trans hX;by_cases hin:i<k
    ·have Jy:i<P.length:=(by rw [←HN.out];exact hin);obtain⟨bA,oA,A',c',rfl,AW,Bg,Bo,Bh,hr1,hr2⟩:=HA.out.row i Jy;replace AW:=By.cellS AW;replace Bg:=By.cellS Bg;replace Bo:=By.cellS Bo;have GR:(0:Int)<=(i:Int):=(by omega);have Jw:(i:Int)<(k:Int):=(by omega);have Gy:=HP.out.poly _ (Asa Jy);have hsz:=HP.out.so.sz _ (Asa Jy);have hap:=fun q (hq:q<i)=>HP.out.apart i q Jy hq;obtain⟨pg,Eg⟩:=ArV (P[i].1);obtain⟨un,Az⟩:=ArV (P[i].2);rw [←Eg]at AW Bh hr1 Gy hsz hap;rw [←Az]at Bg;have EA:=(Aa.refl wr).alloc (.cells #[.slice A' pg.length c',S un,.slice none 0 0] 97);have Aw:=ArY wr (.cells #[.slice A' pg.length c',S un,.slice none 0 0] 97);have Zn:=ArW hap;clear Eg Az hap
     go_upto_region 14 with fail
     unfold S at Aw EA;generalize wr.alloc (.cells #[.slice A' pg.length c',.string ⟨un.toArray⟩,.slice none 0 0] 97)=W3 at *;obtain⟨b8,DF⟩:=ArV wr.heap.size;rw [←DF]at Aw ⊢;clear DF AW Bg Bo;have H7:=hX.trans EA;have Cq:=BN.trans H7;have y0:=Ab (o:=0) Aw rfl;clear EA hX Aw
     go_loopw [62] (fun jv wj=>∃j:Nat,jv=.int .i64 (j:Nat)/\j<=i/\Aa W3 wj) (fun jv _=>i-(intOf jv).toNat)
     case atStart=>exact⟨0,rfl,by omega,Aa.refl _⟩
     case round=>
      obtain⟨j,rfl,hj,Qy⟩:=hrel;have Qz:=Cq.trans Qy;by_cases TU:j<i
      ·have IC:j<P.length:=(by omega);obtain⟨bB,oB,B',d',he,AW,Bg,Bo,mg,hs1,hs2⟩:=HA.out.row j IC;simp only [Ase,Addr.mk.injEq,and_true]at he;obtain⟨rfl,rfl⟩:=he;replace AW:=Qz.cellS AW;replace Bg:=Qz.cellS Bg;replace Bo:=Qz.cellS Bo;have hj0:(0:Int)<=(j:Int):=(by omega);have Fy:(j:Int)<(i:Int):=(by omega);obtain⟨ZY,ZZ⟩:=Zn.out j TU;have OY:=HP.out.poly _ (Asa IC);have Uo:=HP.out.so.sz _ (Asa IC);obtain⟨qg,kz⟩:=ArV (P[j].1);obtain⟨un,Az⟩:=ArV (P[j].2);rw [←kz]at AW mg hs1 OY Uo ZY ZZ;rw [←Az]at Bg;have EA:=(Aa.refl wr).alloc (.cells #[.slice B' qg.length d',S un,.slice none 0 0] 97);have Aw:=ArY wr (.cells #[.slice B' qg.length d',S un,.slice none 0 0] 97);have it:=AjI pg qg Gy OY hsz Uo ZY ZZ A' B' c' d' _ (hw.ext (Qz.trans EA)) (Bh.ext (Qz.trans EA)) (mg.ext (Qz.trans EA)) hr1 hr2 hs1 hs2;have z0:=Ab (o:=0) Aw rfl;have z1:=EA.cellS (Qy.cellS y0);clear kz Az ZY ZZ OY Uo;(go_wp2_with fail);(with_reducible refine it.mono ?_);rintro e w2 ⟨rfl,hx2⟩;go_wp2;go_roundw
       case rel=>exact⟨j+1,by go_num,TU,(Qy.trans EA).trans hx2⟩
       case measure=>simp [intOf];omega
      ·have Dl:j=i:=(by omega);subst Dl;go_wp2;go_roundw
       case rel=>exact⟨j+1,by go_num,hin,H7.trans Qy⟩
       case measure=>simp [intOf];omega
    ·have OP:i=k:=(by omega);subst OP;have hd:decide (i<i)=false:=(by simp);have CO:decide ((i:Int)<(i:Int))=false:=(by simp);have ps:=fun (V:World) (hV:Aa w V)=>Am3 P HP.out.so A c V (hw.ext hV) (HA.out.ext hV);rw [←HN.out]at ps;have p1:=ps wr By;(go_wp2_with fail);(with_reducible refine p1.mono ?_);rintro e w4 ⟨bl,rfl,hML,hbl,Aj⟩;have Cl:=By.trans Aj;have Aq1:w.heap.size<=bl:=(by have:=By.size;omega);have Ww:=((hX.trans Aj).block _ (ArX hR2)).trans hR2;clear ps p1 hR2 BN hX Aj By hd CO;have mki:=vn i (by omega) (i:Int) rfl w4;have E5:=(Aa.refl w4).alloc (.cells (madeCells #[.int .i64 0] i) 3);have mks:=vo i (by omega) (i:Int) rfl (w4.alloc (.cells (madeCells #[.int .i64 0] i) 3))
     go_upto_region 25 with fail
     have og:=Y6 w4 0 i (Nat.zero_le _) (by omega);have os:=yl (w4.alloc (.cells (madeCells #[.int .i64 0] i) 3)) 0 i (Nat.zero_le _) (by omega);rw [Ash]at os;have E6:=E5.alloc (.cells (madeCells #[S []] i) 9);have mA:=Ao og ((Aa.refl (w4.alloc (.cells (madeCells #[.int .i64 0] i) 3))).alloc (.cells (madeCells #[S []] i) 9));have Ls:=hML.ext E6;have Na:=(E6.block _ (ArX Ww)).trans Ww;have BO:=Cl.trans E6;have mr:((w4.alloc (.cells (madeCells #[.int .i64 0] i) 3)).alloc (.cells (madeCells #[S []] i) 9)).heap.size=w4.heap.size+2:=(by simp only [Ash]);obtain⟨bg,hbg⟩:=ArV w4.heap.size;rw [←hbg]at mA os mr ⊢;have Q5:=ArX hML;have hRl:=ArX Ww;generalize (w4.alloc (.cells (madeCells #[.int .i64 0] i) 3)).alloc (.cells (madeCells #[S []] i) 9)=W6 at *;have yE:Oe P i 0 bg (bg+1) (zn (List.replicate i 0)) (List.replicate i []) W6:=⟨by simp [zn],by simp,fun j hj=>by omega,fun j hj=>by omega,mA,os⟩;have Aqx:w.heap.size<bg:=(by omega);have Aqz:bl<bg:=(by omega);clear mki mks og os mA E5 E6 hML Ww Cl hbg mr Q5 hRl hbl
     go_loopw [89] (fun kv wk=>∃(k:Nat) (gl:List Int) (ul:List Bs),kv=.int .i64 (k:Nat)/\k<=i/\Oe P i k bg (bg+1) gl ul wk/\Ar (fun q=>q=bg∨q=bg+1) W6 wk) (fun kv _=>i-(intOf kv).toNat)
     case atStart=>exact⟨0,_,_,rfl,by omega,yE,Ar.refl _ _⟩
     case round=>
      obtain⟨k,gl,ul,rfl,hk,hG,hB⟩:=hrel;have By:Aa w wr:=hB.toExt BO (fun q e=>by rcases e with e|e<;>omega);by_cases hkn:k<i
      ·have QK:k<P.length:=(by rw [←HN.out];exact hkn);obtain⟨bA,oA,A',c',rfl,AW,Bg,Bo,Bh,hr1,hr2⟩:=HA.out.row k QK;replace AW:=By.cellS AW;replace Bg:=By.cellS Bg;replace Bo:=By.cellS Bo;have hk0:(0:Int)<=(k:Int):=(by omega);have BX:(k:Int)<(i:Int):=(by omega);obtain⟨pg,Eg⟩:=ArV (P[k].1);obtain⟨un,Az⟩:=ArV (P[k].2);have hgd:(P.getD k ([],[])).2=un:=(by rw [Az];simp [List.getD_eq_getElem?_getD,Asf QK]);rw [←Eg]at AW;rw [←Az]at Bg;have EA:=(Aa.refl wr).alloc (.cells #[.slice A' pg.length c',S un,.slice none 0 0] 97);have Aw:=ArY wr (.cells #[.slice A' pg.length c',S un,.slice none 0 0] 97);have O6:Oe P i k bg (bg+1) gl ul (wr.alloc (.cells #[.slice A' pg.length c',S un,.slice none 0 0] 97)):=⟨hG.lg,hG.lu,hG.g,hG.u,Ao hG.og EA,Ao hG.os EA⟩;have BM:=hB.ext EA;clear Eg Az
       go_upto_region 27 with fail
       unfold S at Aw EA O6 BM;generalize wr.alloc (.cells #[.slice A' pg.length c',.string ⟨un.toArray⟩,.slice none 0 0] 97)=W3 at *;obtain⟨b8,DF⟩:=ArV wr.heap.size;rw [←DF]at Aw ⊢
       have Aqq:bg+1<b8:=by obtain⟨cu,gU⟩:=Hd hG.os;have:=ArX gU;omega
       have y1:=Ab (o:=1) Aw rfl;have Ee:∃z,gl[k]?=some z:=⟨_,Asf (by rw [hG.lg];exact hkn)⟩;have Pf:∃z,ul[k]?=some z:=⟨_,Asf (by rw [hG.lu];exact hkn)⟩;obtain⟨zg,Ee⟩:=Ee;obtain⟨zu,Pf⟩:=Pf;have c1:W3.cell? ⟨bg,k,none⟩=some (.int .i64 zg):=(by rw [O6.og.cellAt k (by omega)];simp [zs,Ee]);have c2:W3.cell? ⟨bg+1,k,none⟩=some (S zu):=(by rw [O6.os.cellAt k (by omega)];simp [Pf]);have f1:=O6.og.frozenAt k;have f2:=O6.os.frozenAt k;have Hy:=O6.step hkn (by omega);rw [hgd]at Hy;have PH:=ArW Hy;have Vd:=ArW BM;unfold S at y1 c2;have jD:bg≠bg+1:=(by omega);have GT:b8≠bg:=(by omega);have Arb:b8≠bg+1:=(by omega);clear DF O6 Hy BM hG hB Ee Pf hgd AW Bg Bo EA Aw By
       go_region
       go_wp2;go_roundw
       case rel=>exact⟨k+1,_,_,by go_num,hkn,⟨PH.out.lg,PH.out.lu,PH.out.g,PH.out.u,Ao PH.out.og (Aa.refl _).drew,Ao PH.out.os (Aa.refl _).drew⟩,((Vd.out.setCell (p:=⟨bg,k,none⟩) (.inl (.inl rfl)) _).setCell (p:=⟨bg+1,k,none⟩) (.inl (.inr rfl)) _).ext (Aa.refl _).drew⟩
       case measure=>simp [intOf];omega
      ·have Bf:k=i:=(by omega);subst Bf;have hd:decide (k<k)=false:=(by simp);have CO:decide ((k:Int)<(k:Int))=false:=(by simp);have DY:DV wr bl (BI P k):=(hB.block _ (ArX Ls) (fun e=>by rcases e with e|e<;>omega)).trans Ls;have eK:=(hB.block _ (ArX Na) (fun e=>by rcases e with e|e<;>omega)).trans Na;clear hB Ls Na BO yE;obtain⟨L0,dU⟩:=ArV (BI P k);rw [←dU]at DY;unfold DV at DY;have hrg:=CX.range (enc:=AA) (E:=stamp L0) (t:=131) Tryz.underlying131 (W:=wr) (b:=bl) (by rw [DL];exact DY);obtain⟨hr1,hr2⟩:=hrg;have E8:=(Aa.refl wr).alloc (.mapIter (some bl) (stamp L0).length #[] (stamp L0).length);have Tp:=(E8.block _ (ArX DY)).trans DY;have Jp:=By.trans E8;have eL:=(E8.block _ (ArX eK)).trans eK;have MV:Oe P k k bg (bg+1) gl ul (wr.alloc (.mapIter (some bl) (stamp L0).length #[] (stamp L0).length)):=⟨hG.lg,hG.lu,hG.g,hG.u,Ao hG.og E8,Ao hG.os E8⟩;have AhF:=ArX DY;obtain⟨cu7,fq⟩:=Hd hG.os;have Aif:=ArX fq;have FK:=ArW dU;clear dU hG eK By E8 hd CO
       go_upto_region 30 with fail
       clear hr1 DY;obtain⟨bt,Gs⟩:=ArV wr.heap.size;rw [←Gs]at hr2 ⊢;generalize wr.alloc (.mapIter (some bl) (stamp L0).length #[] (stamp L0).length)=W8 at *;have Aq0:bl<bt:=(by omega);have IB:bg+1<bt:=(by omega);clear Gs AhF fq Aif
       go_loopw [106] (fun v wx=>v=v/\∃seen,CX wx bt bl (stamp L0) seen/\Ar (fun q=>q=bt) W8 wx) (fun _ wx=>L0.length-(wx.iterSeen bt).size)
       case atStart=>exact⟨rfl,[],hr2,Ar.refl _ _⟩
       case round=>
        obtain⟨-,seen,hI,hB⟩:=hrel;have Jr:=(hB.block bl (ArX Tp) (by omega)).trans Tp;have fU:=Jr;rw [←DL]at fU;have Gq:Aa w wr:=hB.toExt Jp (fun q e=>by subst e;omega)
        rcases CX.next AA hI fU (oG L0) (by omega) 0 with⟨hlen,hrun⟩|⟨j,hj,Ep,W9,Qm,hG9,XL,hrun,hen⟩
        ·have Z0:=ArW hlen
         obtain⟨xn,Rn⟩:wr.ownsRow 0 3 1 (.slice (some ⟨bg,0,none⟩) k k) k (zs gl)/\wr.ownsRow 0 9 1 (.slice (some ⟨bg+1,0,none⟩) k k) k (ul.map S):=
          ⟨BG MV.og hB (fun q hq e=>by simp only [Value.ownBlock,Ase]at hq;omega),BG MV.os hB (fun q hq e=>by simp only [Value.ownBlock,Ase]at hq;omega)⟩
         have Wy:=ArX eL;have Nb:=(hB.block _ Wy (by omega)).trans eL;have HG:=ArW MV;have em:=wE wr;have en:=@wB wr
         have eb:Aa wr (Oy wr):=((Aa.refl wr).alloc _).alloc _ |>.alloc _
         clear hlen hB hI eL Jp Tp MV fU hr2
         go_upto_region 35 with fail
         clear hrun;generalize Oy wr=V0 at *;obtain⟨wb,kK⟩:=ArV wr.heap.size;rw [←kK]at em en;have Ar0:w.heap.size<=wb:=by have:=Gq.size;omega
         have Aqw:bg+1<wb:=by obtain⟨cu,gU⟩:=Hd Rn;have:=ArX gU;omega
         have Aqy:bl<wb:=(by have:=ArX Jr;omega);have hRb:w.heap.size<wb:=(by have:=ArX Nb;omega);have ZH:=ArW kK;clear kK;(go_wp2_with fail);(with_reducible refine em.mono ?_);rintro e w10 ⟨rfl,hw10⟩;rw [hw10];clear hw10 em;have Tx:=Gq;have Km:=Gq.trans eb;have dW:=(eb.block _ (ArX Jr)).trans Jr;have kw:=fun W=>lB (some bl) W;have M1:=(Aa.refl V0).alloc (.cells #[.map (some bl)] 131);have CH:=ArY V0 (.cells #[.map (some bl)] 131);have To:=(M1.block _ (ArX dW)).trans dW;have sk:=nY hw (Km.trans M1) V0.heap.size bl L0 (ArX CH) (Ab CH rfl) To (fun e he=>KY.out e (by rw [←FK.out];exact he)) (by have:=EP.out;rw [←FK.out]at this;omega);obtain⟨ws,Pg⟩:=ArV (BH (L0.map (·.1)));have hwl:ws.length=L0.length:=(by rw [Pg,(JD _).length_eq];simp);rw [←Pg,←hwl]at sk;have Ar2:ws.length<=10000:=(by have:=EP.out;rw [←FK.out]at this;omega);have MB:=ArW Pg;clear Pg hwl;(go_wp2_with fail);(with_reducible refine(kw _).mono ?_);rintro e w11 ⟨rfl,rfl⟩;(go_wp2_with fail);(with_reducible refine sk.mono ?_);rintro e UU ⟨sv,rfl,hS12,hE12⟩;obtain⟨sA,sc,rfl,-,-,-⟩:=Ae.of_own' (by omega) hS12;have Va:=M1.trans hE12;have Ahy:=Km.trans Va;have M3:=eb.trans Va;have eB:=en.ext Va;have xm:=Ao xn M3;have x9:=Ao Rn M3;have yI:=(M3.block _ (ArX Jr)).trans Jr;have yY:=(M3.block _ (ArX Nb)).trans Nb;have hVl:wb+3<=V0.heap.size:=(by have:=ArX en.cell;omega);have HQ:=ArW (And.intro Tx (And.intro M3 (And.intro Rn Nb)));clear kw sk CH To dW Km eb en Jr Nb xn Rn M1 hE12 Va M3 Gq Tx;have Ar1:(0:Int)<=(ws.length:Int):=by omega
         go_upto_region 37 with fail
         have hadd:Eu L0 ws=CY.map (fun e=>(Bj EJ e,e.l,e.r)):=(by rw [MB.out,FK.out];exact AbV.out);have Wj:wb<=UU.heap.size:=(by have:=ArX eB.cell;omega);have hrb:wb<=wb+2:=(by omega);have Zm:=ArW hadd
         have ZI:=ArW (show ∀s∈ws,∃e∈L0,e.1=s from fun s hs=>by
          rw [MB.out]at hs;obtain⟨e,he,h1⟩:=List.mem_map.1 ((JD _).mem_iff.1 hs)
          exact⟨e,he,h1⟩)
         clear hadd
         go_loopw [143] (fun kv wk=>∃(q j:Nat) (E:List (Pt×Value×Nat)),kv=.int .i64 (q:Nat)/\q<=ws.length/\j=(Eu L0 (ws.take q)).length/\B5 wb wk (wb+2) wb (wb+1) (AS EJ (CY.take j)) E (CV EJ (CY.take j))/\Su UU wk wb (wb+1)/\Below wb UU wk) (fun kv _=>ws.length-(intOf kv).toNat)
         case atStart=>exact⟨0,0,[],rfl,by omega,rfl,by simpa [AS,CV]using eB,fun _ _ h _ _ _=>h,Below.refl _ _⟩
         case round=>
          obtain⟨q,j,E,rfl,hq,hj,hN,hK,hBl⟩:=hrel;have Nf:=mL hS12 hK (fun k hk=>by have:=(hS12.lt k hk).1;rw [Ash]at this;omega) (by decide);have xo:=mL xm hK (fun k hk=>by simp only [Value.ownBlock,Ase]at hk;omega) (by decide);have osr:=mL x9 hK (fun k hk=>by simp only [Value.ownBlock,Ase]at hk;omega) (by decide);have EZ:=hK bl _ yI (by omega) (by omega) (fun cs e=>by cases e);have Qu:=hK _ _ yY (by omega) (by omega) (fun cs e=>by simp only [Obj.cells.injEq]at e;exact absurd e.2.1 (by decide));have BD:Aa w wr:=Ahy.trans_below hBl (by omega);by_cases N6:q<ws.length
          ·obtain⟨b,o,rfl,f1,f2,f3,f4⟩:=NV (NQ (by omega) Nf) N6;obtain⟨e1,L9,LA⟩:=ZI.out _ (Asa N6);have kC:=ZF.out e1 (by rw [←FK.out];exact L9);have hsz:=KY.out e1 (by rw [←FK.out];exact L9);rw [←FK.out]at kC;obtain⟨e2,Gv,hf2⟩:=Yf (s:=ws[q]) (L:=L0) (by rw [←LA];exact List.mem_map_of_mem L9);have hfr:=ZF.out e2 (by rw [←FK.out];exact Gv);rw [←hf2]at hfr;rw [LA]at hsz;have oh:∀z,lookO (AY ws[q]) L0=some z→0<=z/\z<(k:Int):=fun z hz=>(by have:=kC.2.2 z (by rw [LA];exact hz);exact⟨this.1,this.2.1⟩);replace hfr:0<=AL ws[q] L0/\AL ws[q] L0<(k:Int):=⟨hfr.1,hfr.2.1⟩;clear kC;have G0:=sE (L0:=L0) N6;have IB:=fun x hx=>Ad3 (L0:=L0) (x:=x) N6 hx;rw [←hj]at IB;obtain⟨s,hs⟩:=ArV (ws[q]);rw [←hs]at f1 f2 f3 f4 oh hsz hfr G0 IB;obtain⟨fi,Dz⟩:∃fi:Nat,AL s L0=(fi:Int):=⟨(AL s L0).toNat,by omega⟩;have M7:=ArW G0;have M5:=ArW IB;have HJ:=ArW hj;have AW:(0:Int)<=(q:Int):=(by omega);have Bg:(q:Int)<(ws.length:Int):=(by omega);have EA:=(Aa.refl wr).alloc (.cells #[S (R s.a.x),S (R s.a.y),S (R s.b.x),S (R s.b.y)] 155);have Aw:=ArY wr (.cells #[S (R s.a.x),S (R s.a.y),S (R s.b.x),S (R s.b.y)] 155);clear hs LA L9 e1 Gv hf2 G0 IB hj
           go_upto_region 39 with fail
           unfold S at Aw EA;generalize wr.alloc (.cells #[.string ⟨(R s.a.x).toArray⟩,.string ⟨(R s.a.y).toArray⟩,.string ⟨(R s.b.x).toArray⟩,.string ⟨(R s.b.y).toArray⟩] 155)=V at *;obtain⟨bx,Ap⟩:=ArV wr.heap.size;rw [←Ap]at Aw ⊢;clear Ap f1 f2 f3 f4;have y0:=Ab (o:=0) Aw rfl;have y1:=Ab (o:=1) Aw rfl;have y2:=Ab (o:=2) Aw rfl;have y3:=Ab (o:=3) Aw rfl;have bk1:=VI s V;unfold AA S at bk1;(go_wp2_with fail);(with_reducible refine bk1.mono ?_);rintro e V2 ⟨rfl,hx11⟩;have H7:=EA.trans hx11;have O9:=(H7.block _ (ArX EZ)).trans EZ;have lk:=Aa1 (AY s) L0 (W:=V2) O9;have Pk:=R7 s L0 (W:=V2) O9;rw [Dz]at Pk;have ogV:=Ao xo H7;have Np:=(hx11.block _ (ArX Aw)).trans Aw;have z0:=Ab (o:=0) Np rfl;have z1:=Ab (o:=1) Np rfl;have z2:=Ab (o:=2) Np rfl;have z3:=Ab (o:=3) Np rfl;have hG:=HG.out;have DJ:fi<k:=(by omega);unfold AA S at lk Pk;clear bk1 y0 y1 y2 y3 Aw;have rt:=fun (x:Nat) (hx:x<k) (V3:World) (h3:Aa V2 V3)=>Anr (l:=gl) (k:=x) (c:=k) (by rw [hG.lg];exact hx) (by have:=hG.g x hx;rw [Asf (by rw [hG.lg];exact hx)]at this;exact Option.some.inj this) (NQ (by omega) (Ao ogV h3));rw [hG.lg]at rt
           cases hlo:lookO (AY s) L0 with
           | none=>
            rw [hlo]at lk;simp only [Option.getD_none,Option.isSome_none]at lk;have H8:Jc L0 s=some (s,(fi:Int),-1):=(by unfold Jc;rw [hlo,Dz]);have OL:=M5.out _ H8;rw [Zm.out,List.getElem?_map]at OL;obtain⟨e0,Jv,TM⟩:=Option.map_eq_some_iff.1 OL;simp only [Prod.mk.injEq]at TM;obtain⟨Lk,SV,SX⟩:=TM
            have A7:j<CY.length:=by
             rcases Nat.lt_or_ge j CY.length with h|h
             ·exact h
             ·rw [List.getElem?_eq_none h]at Jv;cases Jv
            have L8:CY[j]=e0:=(by rw [Asf A7]at Jv;exact Option.some.inj Jv);have Eo:=Vf.out.keys A7;have Uf:=Vf.out.ne _ (Asa A7);rw [L8,Lk]at Eo Uf
            have Tr:AS EJ (CY.take (j+1))=AS EJ (CY.take j) ++ [(s,(fi:Int)),(AY s,-1)]:=by rw [Asd A7,Yq,L8,Lk,SV,SX]
            have Ts:CV EJ (CY.take (j+1))=Df (Df (CV EJ (CY.take j)) s.a s.b) s.b s.a:=by rw [Asd A7,Yr,L8,Lk]
            have hrl:=U8 EJ (CY.take j);have hjn:j+1=(Eu L0 (ws.take (q+1))).length:=(by rw [M7.out,List.length_append,←HJ.out,H8];rfl);have Z8:=ArW Tr;have Z9:=ArW Ts;have JP:=ArW hjn;clear hlo H8 OL Jv L8 Lk SV SX Tr Ts hjn;have r1:=rt fi DJ
            go_upto_region 43 with fail
            have r2:=r1 V2 (Aa.refl _);(go_wp2_with fail);(with_reducible refine r2.mono ?_);rintro e V3 ⟨rfl,J5⟩;have GK:=hN.ext (H7.trans J5);have Aqn:=BD.trans (H7.trans J5);have hb3:wb<=V3.heap.size:=(by have:=ArX GK.cell;omega);have ad:=ZW GK hb3 s (fi:Int) (-1) Eo.1 Eo.2 Uf (fun e he=>by have:=hrl e he;rw [List.length_take]at this;omega);have hb4:=(J5.block _ (ArX Np)).trans Np;have x0:=Ab (o:=0) hb4 rfl;have x1:=Ab (o:=1) hb4 rfl;have x2:=Ab (o:=2) hb4 rfl;have x3:=Ab (o:=3) hb4 rfl;have OJ:¬((fi:Int) = -1):=(by omega);have hf2:((fi:Int) == -1)=false:=beq_false_of_ne OJ;have hf3:((fi:Int) != -1)=true:=(by rw [bne,hf2];rfl);unfold AA S at ad;clear r1 r2 rt lk Pk z0 z1 z2 z3;(go_wp2_with fail);(with_reducible refine ad.mono ?_);rintro e V4 ⟨rfl,O3,hK4,E4,Hz⟩;rw [←Z8.out,←Z9.out]at Hz;have dT:=Rf hK (Rf (XW (H7.trans J5)) hK4);have dL:=hBl.trans ((Below.mono (H7.trans J5) (by have:=hBl.size;omega)).trans O3);clear ad x0 x1 x2 x3 GK;go_wp2;go_roundw
            case rel=>exact⟨q+1,j+1,E4,by go_num,N6,JP.out,Hz,dT,dL⟩
            case measure=>simp [intOf];omega
           | some u=>
            rw [hlo]at lk;simp only [Option.getD_some,Option.isSome_some]at lk;obtain⟨nw,hu1⟩:=oh u hlo;obtain⟨ui,rfl⟩:∃ui:Nat,u=(ui:Int):=⟨u.toNat,by omega⟩;have D2:ui<k:=(by omega);have r1:=rt ui D2;have r1b:=rt fi DJ;have Rt:=fun (V3:World) (h3:Aa w V3)=>IO s.a s.b hsz.a hsz.b (by omega) (by omega) V3 (hw.ext h3)
            go_upto_region 42 with fail
            have r2:=r1 V2 (Aa.refl _);(go_wp2_with fail);(with_reducible refine r2.mono ?_);rintro e V3 ⟨rfl,Cg⟩;have lG:=R7 s L0 (W:=V3) ((Cg.block _ (ArX O9)).trans O9);rw [Dz]at lG;have w0:=Cg.cellS z0;have w1:=Cg.cellS z1;have w2:=Cg.cellS z2;have w3:=Cg.cellS z3;unfold AA S at lG;clear r2 r1 lk Pk z0 z1 z2 z3;have r3:=r1b V3 Cg;(go_wp2_with fail);(with_reducible refine r3.mono ?_);rintro e V4 ⟨rfl,J5⟩;have Tw:=H7.trans (Cg.trans J5);have Ah1:=BD.trans Tw;have hb4:=((Cg.trans J5).block _ (ArX Np)).trans Np;have x0:=Ab (o:=0) hb4 rfl;have x1:=Ab (o:=1) hb4 rfl;have x2:=Ab (o:=2) hb4 rfl;have x3:=Ab (o:=3) hb4 rfl;have hK4:=Rf hK (XW Tw);have O3:=hBl.trans (Below.mono Tw (by have:=hBl.size;omega));have Hz:=hN.ext Tw;clear r3 r1b rt lG w0 w1 w2 w3;by_cases ii:fi=ui
            ·subst ii;have H8:Jc L0 s=none:=(by unfold Jc;rw [hlo,Dz];simp);have hjn:j=(Eu L0 (ws.take (q+1))).length:=(by rw [M7.out,List.length_append,←HJ.out,H8];rfl);have JP:=ArW hjn;clear H8 hjn hlo Rt;go_wp2;go_roundw
             case rel=>exact⟨q+1,j,E,by go_num,N6,JP.out,Hz,hK4,O3⟩
             case measure=>simp [intOf];omega
            ·have ij:¬((fi:Int)=(ui:Int)):=(by omega);have hf2:((fi:Int) == (ui:Int))=false:=beq_false_of_ne ij;have hf3:((fi:Int) != (ui:Int))=true:=(by rw [bne,hf2];rfl);have hf4:(fi == ui)=false:=beq_false_of_ne ii;have p1:=Rt V4 Ah1;obtain⟨z,hz⟩:=ArV (AX s.a s.b);rw [←hz]at p1;unfold Af S at p1;clear Rt;(go_wp2_with fail);(with_reducible refine p1.mono ?_);rintro e V5 ⟨rfl,hx14⟩;have Aql:=Tw.trans hx14;clear p1 x0 x1 x2 x3;by_cases J6:z<0
             ·have H8:Jc L0 s=some (s,(fi:Int),(ui:Int)):=by unfold Jc;rw [hlo,Dz];simp only;rw [if_pos ⟨ij,by rw [←hz];exact J6⟩]
              have OL:=M5.out _ H8;rw [Zm.out,List.getElem?_map]at OL;obtain⟨e0,Jv,TM⟩:=Option.map_eq_some_iff.1 OL;simp only [Prod.mk.injEq]at TM;obtain⟨Lk,SV,SX⟩:=TM
              have A7:j<CY.length:=by
               rcases Nat.lt_or_ge j CY.length with h|h
               ·exact h
               ·rw [List.getElem?_eq_none h]at Jv;cases Jv
              have L8:CY[j]=e0:=(by rw [Asf A7]at Jv;exact Option.some.inj Jv);have Eo:=Vf.out.keys A7;have Uf:=Vf.out.ne _ (Asa A7);rw [L8,Lk]at Eo Uf
              have Tr:AS EJ (CY.take (j+1))=AS EJ (CY.take j) ++ [(s,(fi:Int)),(AY s,(ui:Int))]:=by rw [Asd A7,Yq,L8,Lk,SV,SX]
              have Ts:CV EJ (CY.take (j+1))=Df (Df (CV EJ (CY.take j)) s.a s.b) s.b s.a:=by rw [Asd A7,Yr,L8,Lk]
              have hrl:=U8 EJ (CY.take j);have hjn:j+1=(Eu L0 (ws.take (q+1))).length:=(by rw [M7.out,List.length_append,←HJ.out,H8];rfl);have Z8:=ArW Tr;have Z9:=ArW Ts;have JP:=ArW hjn;clear hlo H8 OL Jv L8 Lk SV SX Tr Ts hjn hz;have OA:=Hz.ext hx14;have hb5:wb<=V5.heap.size:=(by have:=ArX OA.cell;omega);have ad:=ZW OA hb5 s (fi:Int) (ui:Int) Eo.1 Eo.2 Uf (fun e he=>by have:=hrl e he;rw [List.length_take]at this;omega);have Jq:=(hx14.block _ (ArX hb4)).trans hb4;have x0:=Ab (o:=0) Jq rfl;have x1:=Ab (o:=1) Jq rfl;have x2:=Ab (o:=2) Jq rfl;have x3:=Ab (o:=3) Jq rfl;unfold AA S at ad;(go_wp2_with fail);(with_reducible refine ad.mono ?_);rintro e V6 ⟨rfl,hBl6,hK6,E6,Wt⟩;rw [←Z8.out,←Z9.out]at Wt;have hK7:=Rf (Rf hK4 (XW hx14)) hK6;have Ahb:=(O3.trans (Below.mono hx14 (by have:=O3.size;omega))).trans hBl6;clear ad x0 x1 x2 x3 OA;go_wp2;go_roundw
              case rel=>exact⟨q+1,j+1,E6,by go_num,N6,JP.out,Wt,hK7,Ahb⟩
              case measure=>simp [intOf];omega
             ·have H8:Jc L0 s=none:=by unfold Jc;rw [hlo];simp only;rw [if_neg (fun h=>by rw [←hz]at h;exact J6 h.2)]
              have hjn:j=(Eu L0 (ws.take (q+1))).length:=(by rw [M7.out,List.length_append,←HJ.out,H8];rfl);have JP:=ArW hjn;have dT:=Rf hK4 (XW hx14);have dL:=O3.trans (Below.mono hx14 (by have:=O3.size;omega));have OA:=Hz.ext hx14;clear H8 hjn hlo hz;go_wp2;go_roundw
              case rel=>exact⟨q+1,j,E,by go_num,N6,JP.out,OA,dT,dL⟩
              case measure=>simp [intOf];omega
          ·have hqe:q=ws.length:=(by omega);subst hqe;rw [List.take_length,Zm.out,List.length_map]at hj;subst hj;rw [List.take_length]at hN;obtain⟨Tx,M3,Rn,Nb⟩:=HQ.out;have GL:=HNI.out;have zN:=M3.trans_below hBl (by rw [ZH.out];exact ArZ _);have yM:=hN.base ZH.out;have ag:=sJ (hw.ext Tx) zN yM rfl (vz EJ CY) GL.wo GL.gr (by rw [lZ];omega) (fun e he=>by have:=U8 EJ CY e he;omega) k (by omega) GL.lf GL.r1 rfl rfl;rw [GL.op]at ag;have hd:decide (ws.length<ws.length)=false:=(by simp);have CO:decide ((ws.length:Int)<(ws.length:Int))=false:=(by simp);clear Nf xo osr EZ Qu hN hK hBl hS12 xm x9 yI yY eB HQ
           go_upto_region 47 with fail
           (go_wp2_with fail);(with_reducible refine ag.mono ?_);rintro e w14 ⟨rfl,hx14,hN14⟩;have zJ:=Tx.trans hx14;have ya:=Ao Rn hx14;have yZ:=(hx14.block _ (ArX Nb)).trans Nb
           have Ajk:ul=P.map (·.2):=by
            have hG:=HG.out;apply List.ext_getElem?;intro j
            rcases Nat.lt_or_ge j k with h|h
            ·rw [hG.u j h];have IC:j<P.length:=(by rw [←HN.out];exact h);simp [List.getD_eq_getElem?_getD,Asf IC]
            ·rw [List.getElem?_eq_none (by rw [hG.lu];exact h),List.getElem?_eq_none (by rw [List.length_map,←HN.out];exact h)]
           have kD:=HG.out.lu;have can:=Ae0 (st:=st) (pts:=pts) hw zJ hN14 GL.hz (by have:=GL.ln;omega) GL.rl GL.nd GL.no GL.sz (by rw [lZ];omega) GL.bk (some ⟨bg+1,0,none⟩) k ul (NQ (by omega) ya) (fun x hx=>by cases hx;have:=hx14.size;have:=ZH.out;show bg+1<_;omega) (by omega) (fun x hx=>by rw [kD];exact GL.lf x hx) Vo.out rfl (by rw [Ajk];exact HST.out);rw [kD]at can;have hpl:pts.length<=400:=(by rw [Vo.out,(KH _).length_eq,List.length_map];exact GL.ln);clear ag ya hN14 yM zN hx14 kD;(go_wp2_with fail);(with_reducible refine can.mono ?_);rintro e w15 ⟨pA,pB,pF,pc,pd,pg,rfl,hcaps,hA15,hB15,hF15,-,hx15⟩;unfold Bv;have eH:=(hx15.block _ (ArX yZ)).trans yZ;have Ahz:=zJ.trans hx15;have RV:=(Aa.refl w15).alloc (.cells #[.slice pA pts.length pc,.slice pB st.ed.length pd,.slice pF st.fa.length pg] 36);have Tz:=ArY w15 (.cells #[.slice pA pts.length pc,.slice pB st.ed.length pd,.slice pF st.fa.length pg] 36);have Jn:=(RV.block _ (ArX eH)).trans eH;have Ah0:=Ahz.trans RV;have gA:=hA15.ext RV;have gB:=hB15.ext RV;have gF:=hF15.ext RV;have Arf:¬(400<(pts.length:Int)):=(by omega);have Ajq:=ArX eH
           go_upto_region 51 with fail
           generalize w15.alloc (.cells #[.slice pA pts.length pc,.slice pB st.ed.length pd,.slice pF st.fa.length pg] 36)=W16 at *;obtain⟨b32,zZ⟩:=ArV w15.heap.size;rw [←zZ]at Tz Ajq ⊢;clear zZ can;have m0:=Ab (o:=0) Tz rfl;have m1:=Ab (o:=1) Tz rfl;have m2:=Ab (o:=2) Tz rfl;have r0:=Ab (o:=0) Jn rfl;have r1:=Ab (o:=1) Jn rfl;have r2:=Ab (o:=2) Jn rfl;have r3:=AB (o:=0) Jn;have r4:=AB (o:=1) Jn;have r5:=AB (o:=2) Jn;have CS:=PX (.slice pA pts.length pc) (.slice pB st.ed.length pd) (.slice pF st.fa.length pg) Jn;have bb:=(((Ar.refl (fun q=>q=w.heap.size) W16).setCell (p:=⟨w.heap.size,0,none⟩) (.inl rfl) (.slice pA pts.length pc)).setCell (p:=⟨w.heap.size,1,none⟩) (.inl rfl) (.slice pB st.ed.length pd)).setCell (p:=⟨w.heap.size,2,none⟩) (.inl rfl) (.slice pF st.fa.length pg);have t1:=Ab (o:=0) CS rfl;have t2:=Ab (o:=1) CS rfl;have t3:=Ab (o:=2) CS rfl;have Nj:=bb.toExt Ah0 (fun q e=>by subst e;exact ArZ _);have fA:=nB gA bb Jn (fun j hj=>by obtain⟨s,h⟩:=dA hj;rw [h];simp);have fB:=nB gB bb Jn (fun j hj=>by obtain⟨s,h⟩:=bX hj;rw [h];simp);have fF:=nB gF bb Jn (fun j hj=>by rw [List.getElem_map];simp);have AP:=ArW (And.intro fA (And.intro fB (And.intro fF Nj)));clear gA gB gF fA fB fF bb CS Jn Nj Tz;go_wp2;refine bodyPost_ret (v:=.tuple #[.agg #[.slice pA pts.length pc,.slice pB st.ed.length pd,.slice pF st.fa.length pg],.int .i64 0]) (by simp [results,Tryz.results47,go_sem,t1,t2,t3]) rfl ?_;exact⟨pA,pB,pF,pc,pd,pg,rfl,hcaps,AP.out.1,AP.out.2.1,AP.out.2.2.1,rfl,AP.out.2.2.2⟩
        ·have jb:j<L0.length:=(by rw [DL]at hj;exact hj);rw [YU,oI]at hrun hen
         have hlen':seen.length<L0.length:=by
          have h2:(j::seen) ⊆ List.range L0.length:=by
           intro q hq
           rcases List.mem_cons.1 hq with rfl|hq
           ·simpa using jb
           ·have:=hI.lt q hq;rw [DL]at this;simpa using this
          have:=(List.nodup_cons.2 ⟨Ep,hI.nd⟩).length_le_of_subset h2;simp at this;omega
         have FV:=hB.grown hG9 (fun q e=>by cases e;exact .inl rfl);have OQ:=Asa jb;obtain⟨s,hs⟩:=ArV (L0[j].1);obtain⟨z,hz⟩:=ArV (L0[j].2);have hin:=ZF.out L0[j] (by rw [←FK.out];exact OQ);rw [←hs,←hz]at hin;rw [←hs,←hz]at hrun hen;obtain⟨hz0,hz1,Gu⟩:=hin;obtain⟨zi,rfl⟩:∃zi:Nat,z=(zi:Int):=⟨z.toNat,by omega⟩;have hsz:Gk 1 s:=(by rw [hs];exact KY.out _ (by rw [←FK.out];exact OQ));have EA:=(Aa.refl W9).alloc (.cells #[S (R s.a.x),S (R s.a.y),S (R s.b.x),S (R s.b.y)] 155);have Aw:=ArY W9 (.cells #[S (R s.a.x),S (R s.a.y),S (R s.b.x),S (R s.b.y)] 155);have e9:=hen W9 rfl rfl;unfold AA at hrun e9;have bk:=fun (V:World)=>VI s V;have fS:=(EA.block _ (ArX ((hG9.block bl (ArX Jr) (fun e=>by cases e;omega)).trans Jr))).trans ((hG9.block bl (ArX Jr) (fun e=>by cases e;omega)).trans Jr);have Qj:=FV.ext EA;have dR:CX (W9.alloc (.cells #[S (R s.a.x),S (R s.a.y),S (R s.b.x),S (R s.b.y)] 155)) bt bl (stamp L0) (seen ++ [j]):=Qm.keep (EA.block _ (ArX Qm.it));have Z0:=ArW (Fi hI);clear hs hz OQ hen XL
         go_upto_region 32 with fail
         unfold S at Aw EA fS Qj dR;generalize W9.alloc (.cells #[.string ⟨(R s.a.x).toArray⟩,.string ⟨(R s.a.y).toArray⟩,.string ⟨(R s.b.x).toArray⟩,.string ⟨(R s.b.y).toArray⟩] 155)=V at *;obtain⟨bx,Ap⟩:=ArV W9.heap.size;rw [←Ap]at Aw ⊢;clear Ap hrun e9 FV hG9 Qm EA;have y0:=Ab (o:=0) Aw rfl;have y1:=Ab (o:=1) Aw rfl;have y2:=Ab (o:=2) Aw rfl;have y3:=Ab (o:=3) Aw rfl;have bk1:=bk V;unfold AA S at bk1;(go_wp2_with fail);(with_reducible refine bk1.mono ?_);rintro e V2 ⟨rfl,hx11⟩;have Kg:=Qj.ext hx11;have Lr:=dR.keep (hx11.block _ (ArX dR.it));have lk:=Aa1 (AY s) L0 (W:=V2) ((hx11.block _ (ArX fS)).trans fS);unfold AA S at lk;clear bk1 bk y0 y1 y2 y3;have Kn:Aa w V2:=Kg.toExt Jp (fun q e=>by subst e;omega)
         obtain⟨ArF,x8⟩:V2.ownsRow 0 3 1 (.slice (some ⟨bg,0,none⟩) k k) k (zs gl)/\V2.ownsRow 0 9 1 (.slice (some ⟨bg+1,0,none⟩) k k) k (ul.map S):=
          ⟨BG MV.og Kg (fun q hq e=>by simp only [Value.ownBlock,Ase]at hq;omega),BG MV.os Kg (fun q hq e=>by simp only [Value.ownBlock,Ase]at hq;omega)⟩
         cases hlo:lookO (AY s) L0 with
         | none=>
          rw [hlo]at lk;simp only [Option.getD_none,Option.isSome_none]at lk;have HLO:=ArW hlo;clear hlo
          go_upto_region 33 with fail
          refine Bp (by kernel_rfl) (by kernel_rfl) ?_
          repeat (go_big_quiet_step (fail))
          refine wpQuiet_nil ?_;rintro ZS ⟨q,hq⟩;have Cg:Aa V2 ZS:=hq▸q.h;have Tl:=Lr.keep (Cg.block _ (ArX Lr.it));have Wj:=Kg.ext Cg;have Z1:=ArW (Fi Tl);clear hq q lk Lr Kg;go_wp2;go_roundw
          case rel=>exact⟨trivial,seen ++ [j],Tl,Wj⟩
          case measure=>rw [Z0.out,Z1.out,List.length_append,List.length_singleton];omega
         | some u=>
          rw [hlo]at lk;simp only [Option.getD_some,Option.isSome_some]at lk;obtain⟨nw,hu1,hne⟩:=Gu u (by rw [←FK.out];exact hlo);obtain⟨ui,rfl⟩:∃ui:Nat,u=(ui:Int):=⟨u.toNat,by omega⟩;simp only [Int.toNat_natCast]at hne;have g1:=MV.u zi (by omega);have g2:=MV.u ui (by omega);obtain⟨s1,hs1⟩:=ArV ((P.getD zi ([],[])).2);obtain⟨s2,hs2⟩:=ArV ((P.getD ui ([],[])).2);rw [←hs1]at g1 hne;rw [←hs2]at g2 hne;have c1:=x8.cellAt zi (by omega);have c2:=x8.cellAt ui (by omega);rw [List.getElem?_map,g1]at c1;rw [List.getElem?_map,g2]at c2;simp only [Option.map_some]at c1 c2;have q1:∀q:Ac V2,q.w.cell? ⟨bg+1,zi,none⟩=some (S s1):=Ac.cell c1;have q2:∀q:Ac V2,q.w.cell? ⟨bg+1,ui,none⟩=some (S s2):=Ac.cell c2;have hb1:(s1 == s2)=false:=beq_false_of_ne hne;have HLO:=ArW hlo;clear hlo hs1 hs2 g1 g2 c1 c2 hne Gu
          go_upto_region 33 with fail
          unfold S at q1 q2;refine Bp (by kernel_rfl) (by kernel_rfl) ?_
          repeat (go_big_quiet_step (fail))
          refine wpQuiet_nil ?_;rintro ZS ⟨q,hq⟩;have Cg:Aa V2 ZS:=hq▸q.h;clear q1 q2;have Tl:=Lr.keep (Cg.block _ (ArX Lr.it));have Wj:=Kg.ext Cg;have Z1:=ArW (Fi Tl);clear hq q lk Lr Kg;go_wp2;go_roundw
          case rel=>exact⟨trivial,seen ++ [j],Tl,Wj⟩
          case measure=>rw [Z0.out,Z1.out,List.length_append,List.length_singleton];omega
end Go.Proofs.YtbejphgbbpplbaaGreatDoor
namespace Kl
section
variable {α : Type} (le : α → α → Bool)
def NG:Nat→List α→List α→List α
 | 0,xs,ys=>xs++ys
 | _+1,[],ys=>ys
 | _+1,x::xs,[]=>x::xs
 | n+1,x::xs,y::ys=>if le x y then x::NG n xs (y::ys)else y::NG n (x::xs) ys
theorem lK:∀(n:Nat) (xs ys:List α),xs.length+ys.length<=n→NG le n xs ys=List.merge xs ys le
 | 0,[],[],_=>by simp [NG]
 | 0,_::_,_,h=>by simp at h
 | 0,[],_::_,h=>by simp at h
 | n+1,[],ys,_=>by simp [NG]
 | n+1,x::xs,[],_=>by simp [NG]
 | n+1,x::xs,y::ys,h=>by simp only [List.length_cons]at h;rw [NG,List.cons_merge_cons,lK n xs (y::ys) (by simp;omega),lK n (x::xs) ys (by simp;omega)]
def Fj:Nat→List α→List α
 | 0,l=>l
 | _+1,[]=>[]
 | _+1,[a]=>[a]
 | n+1,a::b::l=>NG le (l.length+2) (Fj n ((a::b::l).take ((l.length+3) / 2))) (Fj n ((a::b::l).drop ((l.length+3) / 2)))
theorem Pm:∀(n:Nat) (l:List α),l.length<=n→Fj le n l=l.mergeSort le
 | 0,[],_=>by simp [Fj]
 | 0,_::_,h=>by simp at h
 | n+1,[],_=>by simp [Fj]
 | n+1,[a],_=>by simp [Fj]
 | n+1,a::b::l,h=>by
  simp only [List.length_cons]at h;have h1:((a::b::l).take ((l.length+3)/2)).length<=n:=(by simp only [List.length_take,List.length_cons];omega);have h2:((a::b::l).drop ((l.length+3)/2)).length<=n:=(by simp only [List.length_drop,List.length_cons];omega);have h3:((a::b::l).take ((l.length+3)/2)).length+((a::b::l).drop ((l.length+3)/2)).length<=l.length+2:=(by simp only [List.length_take,List.length_drop,List.length_cons];omega);rw [Fj,Pm n _ h1,Pm n _ h2,lK _ _ _ _ (by rw [List.length_mergeSort,List.length_mergeSort];exact h3)];rw [List.mergeSort];simp only [List.MergeSort.Internal.splitInTwo_fst,List.MergeSort.Internal.splitInTwo_snd]
  rfl
end
end Kl
namespace Go.Proofs.YtbejphgbbpplbaaGreatDoor
open Go.RowKit Kl
def XZ(x y:Pt):Bool:=!decide (AX y x<0)
def U3(x y:Sg):Bool:=!decide (Ga y x<0)
def lE(p x y:Pt):Bool:=!decide (Dv p y x<0)
theorem AaY(l:List Pt):Fo l=Fj XZ l.length l:=(Pm XZ _ l (ArZ _)).symm
theorem oC(l:List Sg):BH l=Fj U3 l.length l:=(Pm U3 _ l (ArZ _)).symm
theorem Aol(p:Pt)(l:List Pt):Et p l=Fj (lE p) l.length l:=(Pm (lE p) _ l (ArZ _)).symm
def Qf(W:List Sg)(R0:List (Pt×List Pt)):List (List Sg):=((Fj U3 W.length W).foldl (Gm W.length R0) ([],[])).2
theorem vJ(W:List Sg)(R0:List (Pt×List Pt)):I3 W R0=Qf W R0:=by unfold I3 Qf;rw [oC]
def nV(p:List Pt)(s:Pt×Pt):Bool:=p.all (fun x=>decide (0<=Ai s.1 s.2 x))&&p.any (fun x=>decide (0<Ai s.1 s.2 x))
def YJ(p:List Pt)(s:Pt×Pt):Bool:=p.all (fun x=>decide (Ai s.1 s.2 x<=0))
theorem AnH{p:List Pt}{s:Pt×Pt}(h:nV p s=true):Mn p s:=by
 unfold nV at h;rw [Bool.and_eq_true,List.all_eq_true,List.any_eq_true]at h;obtain⟨h1,x,hx,h2⟩:=h;exact⟨fun x hx=>of_decide_eq_true (h1 x hx),x,hx,of_decide_eq_true h2⟩
theorem Aa5{p:List Pt}{s:Pt×Pt}(h:YJ p s=true):KG p s:=by
 unfold YJ at h;rw [List.all_eq_true]at h;exact fun x hx=>of_decide_eq_true (h x hx)
def mP(l:List Pt):Bool:=decide (3<=l.length)&&(decide (l.length<=60)&&((List.range l.length).all (fun i=>(List.range l.length).all (fun n=>n == i||(n == (i+1)%l.length||decide (0<Ai (l.getD i ⟨0,0⟩) (l.getD ((i+1)%l.length) ⟨0,0⟩) (l.getD n ⟨0,0⟩)))))&&(List.range (l.length-1)).all (fun n=>!decide (AX (l.getD (n+1) ⟨0,0⟩) (l.getD 0 ⟨0,0⟩)<0))))
theorem getD_at{α:Type}(l:List α)(d:α){i:Nat}(h:i<l.length):l.getD i d=l[i]:=by rw [List.getD_eq_getElem?_getD,Asf h];rfl
theorem zb{l:List Pt}(h:mP l=true):Oq l:=by
 unfold mP at h;simp only [Bool.and_eq_true,List.all_eq_true,decide_eq_true_eq,List.mem_range,Bool.or_eq_true,beq_iff_eq,Bool.not_eq_true',decide_eq_false_iff_not]at h;obtain⟨h1,h2,h3,h4⟩:=h;refine⟨h1,h2,?_,?_⟩
 ·intro i n hi hn h5 h6;have:=h3 i hi n hn;rw [getD_at l _ hi,getD_at l _ hn,getD_at l _ (Nat.mod_lt _ (by omega))]at this
  rcases this with k|k|k
  ·exact absurd k h5
  ·exact absurd k h6
  ·exact k
 ·intro n hn;have:=h4 n (by omega);rw [getD_at l _ hn,getD_at l _ (by omega:0<l.length)]at this;exact this
def Ms(p:Pt):Bool:=decide (p.x.num.natAbs<10^1)&&(decide (p.x.den<10^1)&&(decide (p.y.num.natAbs<10^1)&&decide (p.y.den<10^1)))
theorem P3{p:Pt}(h:Ms p=true):Aq 1 p:=by
 unfold Ms at h;simp only [Bool.and_eq_true,decide_eq_true_eq]at h;exact⟨⟨h.1,h.2.1⟩,⟨h.2.2.1,h.2.2.2⟩⟩
def Wg(p:Pt):Bool:=decide ((p.x*2).den=1)&&(decide ((p.x*2).num.natAbs<=9)&&(decide ((p.y*2).den=1)&&decide ((p.y*2).num.natAbs<=9)))
theorem zS{q:Rat}(h1:(q*2).den=1)(h2:(q*2).num.natAbs<=9):MD q:=by
 refine⟨(q*2).num,h2,?_⟩
 have:((q*2).num:Rat)=q*2:=by
  refine Rat.ext ?_ ?_
  ·rw [Rat.num_intCast]
  ·rw [Rat.den_intCast,h1]
 rw [this];grind
theorem xJ{p:Pt}(h:Wg p=true):DX p:=by
 unfold Wg at h;simp only [Bool.and_eq_true,decide_eq_true_eq]at h;exact⟨zS h.1 h.2.1,zS h.2.2.1 h.2.2.2⟩
def GE(P:List (List Pt×Bs)):List Pt:=Lib.compact (Fj XZ (D9 P P.length).length (D9 P P.length))
theorem Afq(P:List (List Pt×Bs)):SJ P=GE P:=by unfold SJ GE;rw [AaY]
def Ys:List Sg→Bool
 | []=>true
 | s::l=>!l.any (AO s) && Ys l
theorem ww:∀{l:List Sg},Ys l=true→l.Nodup
 | [],_=>List.nodup_nil
 | s::l,h=>by rw [Ys,Bool.and_eq_true,Bool.not_eq_true']at h;rw [List.nodup_cons];exact⟨sN.1 h.1,ww h.2⟩
def UF(P:List (List Pt×Bs)):Bool:=
 decide (0<P.length)&&(decide (P.length<=1000)&&(P.all (fun e=>mP e.1&&e.1.all Ms) &&
 (P.all (fun e=>(List.range e.1.length).all (fun k=>decide ((GE P).filter (fun q=>Hg (G2 e.1 k).a (G2 e.1 k).b q)=Ta (G2 e.1 k)))) &&
 (Ys ((BI P P.length).map (·.1)) &&
 ((List.range P.length).all (fun i=>(List.range i).all (fun k=>(List.range (P.getD k ([],[])).1.length).all (fun j=>nV (P.getD i ([],[])).1 (BB (P.getD k ([],[])).1 j)||YJ (P.getD i ([],[])).1 (BB (P.getD k ([],[])).1 j))&&(List.range (P.getD k ([],[])).1.length).any (fun j=>YJ (P.getD i ([],[])).1 (BB (P.getD k ([],[])).1 j)))) &&
 ((BI P P.length).all (fun e=>decide (0<=e.2/\e.2<(P.length:Int))&&(Ms e.1.a&&Ms e.1.b)&&(match lookO (AY e.1) (BI P P.length)with|none=>true|some z=>decide (0<=z/\z<(P.length:Int))&&decide ((P.getD e.2.toNat ([],[])).2≠(P.getD z.toNat ([],[])).2))) &&
 decide ((BI P P.length).length<=10000)))))))
theorem Amp{P:List (List Pt×Bs)}(h:UF P=true):pE P:=by
 unfold UF at h;simp only [Bool.and_eq_true,List.all_eq_true,decide_eq_true_eq,List.mem_range]at h;obtain⟨-,h1,h2,h3,h4,h5,-,-⟩:=h;refine⟨⟨h1,fun e he=>?_,fun e he p hp=>P3 ((h2 e he).2 p hp),fun e he k hk=>?_,ww h4⟩,fun e he=>zb (h2 e he).1,?_⟩
 ·have:=zb (h2 e he).1;exact⟨by have:=this.n3;omega,this.n60⟩
 ·rw [Afq];exact h3 e he k hk
 ·intro i k hi hk;obtain⟨ha,hb⟩:=h5 i hi k hk;rw [getD_at P _ hi,getD_at P _ (by omega:k<P.length)]at ha hb;rw [List.any_eq_true]at hb;obtain⟨j,hj,hb⟩:=hb;refine⟨fun j hj=>?_,j,List.mem_range.1 hj,Aa5 hb⟩;have:=ha j hj;rw [Bool.or_eq_true]at this;exact this.imp AnH Aa5
instance sgDec:DecidableEq Sg:=fun s t=>decidable_of_iff (AO s t=true) IS
def IR(pts:List Pt)(eds:List AD):List (Pt×List Pt):=(CV pts eds).map (fun e=>(e.1,Fj (lE e.1) e.2.length e.2))
theorem Aau(pts:List Pt)(eds:List AD):IR pts eds=(CV pts eds).map (fun e=>(e.1,Et e.1 e.2)):=by
 unfold IR;refine List.map_congr_left fun e _=>?_;rw [Aol]
def Ad9(pts:List Pt)(eds:List AD)(n:Nat):Eh:=Le (AS pts eds) n (Qf ((AS pts eds).map (·.1)) (IR pts eds)) (KF ((AS pts eds).map (·.1)) (Qf ((AS pts eds).map (·.1)) (IR pts eds)))
def wn(e:Pt×List Pt):Bool:=match e.2 with
 | [p,q]=>decide (AI (Ai p e.1 q)≠0)
 | _=>true
def Yp(pts:List Pt)(eds:List AD)(n:Nat):Bool:=
 decide (Dg [] pts=0)&&(decide (Du pts.length n [] eds=0)&&(decide (El pts [] eds=0)&&(pts.all Wg&&(decide (eds.length<=1000)&&(!(Ad9 pts eds n).op &&
 ((IR pts eds).all (fun e=>Ms e.1&&(e.2.all Ms&&(decide (e.2.length<100000)&&wn e)))&&(decide ((IR pts eds).length<=400)&&(decide ((IR pts eds).map (·.1)).Nodup &&
 ((AS pts eds).all (fun e=>Ms e.1.a&&Ms e.1.b)&&(AS pts eds).all (fun e=>(AS pts eds).any (fun e'=>AO e'.1 (AY e.1))))))))))))
theorem Alk{pts:List Pt}{eds:List AD}{n:Nat}(h:Yp pts eds n=true):rC pts eds n (IR pts eds):=by
 unfold Yp at h;simp only [Bool.and_eq_true,List.all_eq_true,decide_eq_true_eq,Bool.not_eq_true']at h;obtain⟨h1,h2,h3,h4,h5,h6,h7,h8,h9,h10,h11⟩:=h;have hg:∀p∈pts,DX p:=fun p hp=>xJ (h4 p hp);have he:=vZ h1 h2;refine⟨he,h5,wl he hg h3,lY he hg,wh h2,Aau pts eds,?_,fun e k=>⟨P3 (h7 e k).1,fun p hp=>P3 ((h7 e k).2.1 p hp)⟩,h8,fun e k=>(h7 e k).2.2.1,h9,?_,fun e k=>⟨P3 (h10 e k).1,P3 (h10 e k).2⟩,?_⟩
 ·rw [vJ];exact h6
 ·intro e k p q XH;have:=(h7 e k).2.2.2;unfold wn at this;rw [XH]at this;exact of_decide_eq_true this
 ·intro e k;have:=h11 e k;rw [List.any_eq_true]at this;obtain⟨x,hx,hs⟩:=this;exact⟨x,hx,IS.1 hs⟩
def oY(P:List (List Pt×Bs)):List Sg:=Fj U3 ((BI P P.length).map (·.1)).length ((BI P P.length).map (·.1))
def Lj(P:List (List Pt×Bs)):List AD:=(Eu (BI P P.length) (oY P)).map (fun x=>⟨Hb x.1.a (Ci (GE P)),Hb x.1.b (Ci (GE P)),x.2.1,x.2.2⟩)
def Y9(P:List (List Pt×Bs)):List Pt:=Fj XZ ((IR (GE P) (Lj P)).map (·.1)).length ((IR (GE P) (Lj P)).map (·.1))
def RE(P:List (List Pt×Bs)):Hl:=Jf (P.map (·.2)) (Ci (Y9 P)) (AS (GE P) (Lj P)) (Fj U3 ((AS (GE P) (Lj P)).map (·.1)).length ((AS (GE P) (Lj P)).map (·.1)))
def lH(P:List (List Pt×Bs)):Bz:=⟨Y9 P,(RE P).ed,(RE P).fa.length⟩
def rY(P:List (List Pt×Bs)):Bool:=decide (Eu (BI P P.length) (oY P)=(Lj P).map (fun e=>(Bj (GE P) e,e.l,e.r)))
theorem Aeu(P:List (List Pt×Bs))(h1:UF P=true)(h2:Yp (GE P) (Lj P) P.length=true)(h3:rY P=true)(A:Option Addr)(c:Nat)(w:World)(hw:Al w)(h:G9 w A c P) :
  Calls Tryz.prog 47 #[.slice A P.length c] w (UV w (lH P) (RE P).fa):=by
 have hp:=h1;unfold UF at h1;simp only [Bool.and_eq_true,List.all_eq_true,decide_eq_true_eq]at h1;obtain⟨g0,-,-,-,-,-,g6,g7⟩:=h1;have ha:Eu (BI P P.length) (oY P)=(Lj P).map (fun e=>(Bj (GE P) e,e.l,e.r)):=of_decide_eq_true h3;refine Aet P (Amp hp) g0 ?_ (fun e k=>⟨P3 (g6 e k).1.2.1,P3 (g6 e k).1.2.2⟩) g7 (by rw [oC];exact ha) (Alk h2) (pts:=Y9 P) (by rw [AaY];rfl) (st:=RE P) (by rw [oC];rfl) A c w hw h;intro e k;obtain⟨⟨g1,-⟩,g3⟩:=g6 e k;refine⟨g1.1,g1.2,fun z hz=>?_⟩;rw [hz]at g3;simp only [Bool.and_eq_true,decide_eq_true_eq]at g3;exact⟨g3.1.1,g3.1.2,g3.2⟩
def P2(i:Rat):List Pt:=[⟨i,0⟩,⟨i+1,0⟩,⟨i+1,1⟩,⟨i,1⟩]
def str3:List (List Pt×Bs):=[(P2 0,[66]),(P2 1,[65]),(P2 2,[120])]
set_option maxRecDepth 100000
theorem Ao2:UF str3=true:=by decide +kernel
theorem Ao0:rY str3=true:=by decide +kernel
theorem Ao1:Yp (GE str3) (Lj str3) 3=true:=by decide +kernel
set_option maxRecDepth 100000
def Mc:Bz:=⟨[⟨0,0⟩,⟨0,1⟩,⟨1,0⟩,⟨1,1⟩,⟨2,0⟩,⟨2,1⟩,⟨3,0⟩,⟨3,1⟩],[⟨0,1,-1,0⟩,⟨0,2,0,-1⟩,⟨1,3,-1,0⟩,⟨2,3,0,1⟩,⟨2,4,1,-1⟩,⟨3,5,-1,1⟩,⟨4,5,1,2⟩,⟨4,6,2,-1⟩,⟨5,7,-1,2⟩,⟨6,7,2,-1⟩],3⟩
def bY(e:AD):Int×Int×Int×Int:=(e.f,e.t,e.l,e.r)
theorem vY:∀{l m:List AD},l.map bY=m.map bY→l=m
 | [],[],_=>rfl
 | [],_::_,h=>by cases h
 | _::_,[],h=>by cases h
 | ⟨a,b,c,d⟩::l,⟨a',b',c',d'⟩::m,h=>by rw [List.map_cons,List.map_cons,List.cons.injEq]at h;obtain⟨h1,h2⟩:=h;simp only [bY,Prod.mk.injEq]at h1;obtain⟨rfl,rfl,rfl,rfl⟩:=h1;rw [vY h2]
theorem Abh:(RE str3).fa = [[66],[65],[120]]:=by decide +kernel
theorem AkI:lH str3=Mc:=by
 have h1:Y9 str3=Mc.pts:=(by decide +kernel);have h2:(RE str3).ed=Mc.eds:=vY (by decide +kernel);unfold lH;rw [h1,h2,Abh];rfl
theorem Aes(A:Option Addr)(c:Nat)(w:World)(hw:Al w)(h:G9 w A c str3) :
  Calls Tryz.prog 47 #[.slice A 3 c] w (UV w Mc [[66],[65],[120]]):=by
 have:=Aeu str3 Ao2 Ao1 Ao0 A c w hw h;rw [AkI,Abh]at this;exact this
def uM(m:Bz):Bool:=!MM m&&(decide (Dg [] m.pts=0)&&(decide (Du m.pts.length m.nf [] m.eds=0)&&(decide (El m.pts [] m.eds=0)&&(!Td (CV m.pts m.eds) m.pts&&MH (AS m.pts m.eds) m.nf (Qf ((AS m.pts m.eds).map (·.1)) (IR m.pts m.eds)) (KF ((AS m.pts m.eds).map (·.1)) (Qf ((AS m.pts m.eds).map (·.1)) (IR m.pts m.eds)))))))
theorem AeK{m:Bz}(h:uM m=true):I0 m=0:=by
 unfold uM at h;simp only [Bool.and_eq_true,decide_eq_true_eq,Bool.not_eq_true']at h;obtain⟨h1,h2,h3,h4,h5,h6⟩:=h
 have e:MH (AS m.pts m.eds) m.nf (Pn m) (Rk m)=true:=by unfold Rk Pn lX lW;rw [←Aau,vJ];exact h6
 unfold I0 aX;rw [if_neg (by rw [h1];simp),if_neg (by omega),if_neg (by omega),if_neg (by omega),if_neg (by rw [h5];simp),if_pos e]
theorem AeM:I0 Mc=0:=AeK (by decide +kernel)
theorem AgQ:∀p∈Mc.pts,DX p:=fun p hp=>xJ ((List.all_eq_true.1 (by decide +kernel:Mc.pts.all Wg=true)) p hp)
end Go.Proofs.YtbejphgbbpplbaaGreatDoor
